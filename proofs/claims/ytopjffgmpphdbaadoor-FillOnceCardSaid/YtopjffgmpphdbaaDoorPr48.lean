-- Printed by a program of this session's own (wip/tools/pp.py) over the kit's print.py; Lean checks it.
import Derived.Test.YtopjffgmpphdbaaDoorPr0
import Derived.Test.YtopjffgmpphdbaaDoorPr22
import Derived.Test.YtopjffgmpphdbaaDoorPr29
import Derived.Test.YtopjffgmpphdbaaDoorPr30
import Derived.Test.YtopjffgmpphdbaaDoorPr33
import Derived.Test.YtopjffgmpphdbaaDoorPr43
import Derived.Test.YtopjffgmpphdbaaDoorPr46
import Derived.Test.YtopjffgmpphdbaaDoorPr47
namespace Go.Proofs.YtopjffgmpphdbaaDoor.Pr
open Go.RowKit Go.Proofs.YtopjffgmpphdbaaDoorW.PrintWords Go.Proofs.YtopjffgmpphdbaaDoorW.PrintLast Go.Proofs.YtopjffgmpphdbaaDoorW.PrintMore
attribute [local go_sem] max2_int min2_int max_two min_two max_three min_three max_four min_four   -- for this text's walks alone
set_option linter.unusedVariables false
set_option linter.unusedSimpArgs false

/-! ### arboristlaw10_FillOnce: function 4 -/
mutual
def arboristlaw10_FillOnce.j0 : Nat → Bool → List (List Int) → List (List Bool) → Bool → List Int → Option (Bool)
  | 0, _, _, _, _, _ => none
  | k + 1, x7, x15, x19, x91, x585000 => if x91 = true then (some false) else (arboristlaw10_FillOnce.l0 k x7 x15 x19 0 x585000)
def arboristlaw10_FillOnce.l0 : Nat → Bool → List (List Int) → List (List Bool) → Int → List Int → Option (Bool)
  | 0, _, _, _, _, _ => none
  | k + 1, x7, x15, x19, x21, x585000 => if x21 < (x15.length : Int) then (if 0 ≤ x21 then ((arboristref08_Clique.f k x19 (rd_L1 x15 x21)).bind fun t605 => (if t605 = true then (arboristlaw10_FillOnce.l0 k x7 x15 x19 (wrap64 (x21 + 1)) x585000) else (some false))) else (none)) else (if x7 = true then ((fill_Chordal.f k x585000).bind fun t606 => (some t606)) else (some false))
end
def arboristlaw10_FillOnce.f (k : Nat) (a0 : Int) (l1 : List (List Int)) (l2 : List Int) : Option (Bool) := (arboristlaw10_shown.f k).bind fun t569 => ((arboristlaw10_made.f k a0 l1).bind fun t570 => ((arboristref08_Graph.f k t570).bind fun t573 => ((arboristlaw10_given.f k (t570.length : Int) l2).bind fun t577 => ((fill_Filled.f t573 t577).bind fun bt580 => ((fill_Filled.f bt580.1 t577).bind fun bt585 => ((fill_Bags.f bt580.1 t577).bind fun bt590 => ((fill_Bags.f t573 t577).bind fun bt594 => ((arboristref08_Truths.f k bt580.1).bind fun bt598 => (if bt580.2 = 0 then (if bt585.2 = 0 then (if bt590.2 = 0 then (if bt594.2 = 0 then (if bt598.2 = true then ((arboristlaw10_alike.f k bt585.1 bt598.1).bind fun t602 => (if t602 = true then ((arboristlaw10_same.f k bt590.1 bt594.1).bind fun t603 => (arboristlaw10_FillOnce.j0 k t569 bt590.1 bt598.1 (!t603) bt580.1)) else (arboristlaw10_FillOnce.j0 k t569 bt590.1 bt598.1 true bt580.1))) else (arboristlaw10_FillOnce.j0 k t569 bt590.1 bt598.1 true bt580.1)) else (arboristlaw10_FillOnce.j0 k t569 bt590.1 bt598.1 true bt580.1)) else (arboristlaw10_FillOnce.j0 k t569 bt590.1 bt598.1 true bt580.1)) else (arboristlaw10_FillOnce.j0 k t569 bt590.1 bt598.1 true bt580.1)) else (arboristlaw10_FillOnce.j0 k t569 bt590.1 bt598.1 true bt580.1))))))))))
theorem arboristlaw10_FillOnce.mono_l : ∀ k, (∀ y0 y1 y2 y3 y4, LeO (arboristlaw10_FillOnce.j0 k y0 y1 y2 y3 y4) (arboristlaw10_FillOnce.j0 (k + 1) y0 y1 y2 y3 y4)) ∧ (∀ y0 y1 y2 y3 y4, LeO (arboristlaw10_FillOnce.l0 k y0 y1 y2 y3 y4) (arboristlaw10_FillOnce.l0 (k + 1) y0 y1 y2 y3 y4))
  | 0 => ⟨fun _ _ _ _ _ r h => by simp [arboristlaw10_FillOnce.j0] at h, fun _ _ _ _ _ r h => by simp [arboristlaw10_FillOnce.l0] at h⟩
  | k + 1 => by
    obtain ⟨ih0, ih1⟩ := arboristlaw10_FillOnce.mono_l k
    refine ⟨?_, ?_⟩
    all_goals intros
    all_goals (first | unfold arboristlaw10_FillOnce.j0 | unfold arboristlaw10_FillOnce.l0)
    all_goals repeat' first
    | (with_reducible exact ih0 _ _ _ _ _)
    | (with_reducible exact ih1 _ _ _ _ _)
    | (with_reducible exact arboristlaw10_alike.mono _ _ _)
    | (with_reducible exact arboristlaw10_given.mono _ _ _)
    | (with_reducible exact arboristlaw10_made.mono _ _ _)
    | (with_reducible exact arboristlaw10_same.mono _ _ _)
    | (with_reducible exact arboristlaw10_shown.mono _)
    | (with_reducible exact arboristref08_Clique.mono _ _ _)
    | (with_reducible exact arboristref08_Graph.mono _ _)
    | (with_reducible exact arboristref08_Truths.mono _ _)
    | (with_reducible exact fill_Chordal.mono _ _)
    | (with_reducible exact LeO.refl _)
    | (with_reducible exact LeO.none _)
    | (with_reducible refine LeO.ite ?_ ?_)
    | (with_reducible refine LeO.bind ?_ (fun _ => ?_))
    | exact ih0 _ _ _ _ _
    | exact ih1 _ _ _ _ _
    | exact arboristlaw10_alike.mono _ _ _
    | exact arboristlaw10_given.mono _ _ _
    | exact arboristlaw10_made.mono _ _ _
    | exact arboristlaw10_same.mono _ _ _
    | exact arboristlaw10_shown.mono _
    | exact arboristref08_Clique.mono _ _ _
    | exact arboristref08_Graph.mono _ _
    | exact arboristref08_Truths.mono _ _
    | exact fill_Chordal.mono _ _
    | exact LeO.none _
    | refine LeO.ite ?_ ?_
    | refine LeO.bind ?_ (fun _ => ?_)
theorem arboristlaw10_FillOnce.mono : ∀ a0 a1 a2 k, LeO (arboristlaw10_FillOnce.f k a0 a1 a2) (arboristlaw10_FillOnce.f (k + 1) a0 a1 a2) := by
  intro a0 a1 a2 k
  obtain ⟨ih0, ih1⟩ := arboristlaw10_FillOnce.mono_l k
  unfold arboristlaw10_FillOnce.f
  repeat' first
      | (with_reducible exact ih0 _ _ _ _ _)
      | (with_reducible exact ih1 _ _ _ _ _)
      | (with_reducible exact arboristlaw10_alike.mono _ _ _)
      | (with_reducible exact arboristlaw10_given.mono _ _ _)
      | (with_reducible exact arboristlaw10_made.mono _ _ _)
      | (with_reducible exact arboristlaw10_same.mono _ _ _)
      | (with_reducible exact arboristlaw10_shown.mono _)
      | (with_reducible exact arboristref08_Clique.mono _ _ _)
      | (with_reducible exact arboristref08_Graph.mono _ _)
      | (with_reducible exact arboristref08_Truths.mono _ _)
      | (with_reducible exact fill_Chordal.mono _ _)
      | (with_reducible exact LeO.refl _)
      | (with_reducible exact LeO.none _)
      | (with_reducible refine LeO.ite ?_ ?_)
      | (with_reducible refine LeO.bind ?_ (fun _ => ?_))
      | exact ih0 _ _ _ _ _
      | exact ih1 _ _ _ _ _
      | exact arboristlaw10_alike.mono _ _ _
      | exact arboristlaw10_given.mono _ _ _
      | exact arboristlaw10_made.mono _ _ _
      | exact arboristlaw10_same.mono _ _ _
      | exact arboristlaw10_shown.mono _
      | exact arboristref08_Clique.mono _ _ _
      | exact arboristref08_Graph.mono _ _
      | exact arboristref08_Truths.mono _ _
      | exact fill_Chordal.mono _ _
      | exact LeO.none _
      | refine LeO.ite ?_ ?_
      | refine LeO.bind ?_ (fun _ => ?_)
set_option maxHeartbeats 8000000 in
set_option maxRecDepth 100000 in
theorem arboristlaw10_FillOnce.calls (k : Nat) (a0 : Int) (A1 : Option Addr) (c1 : Nat) (l1 : List (List Int)) (A2 : Option Addr) (c2 : Nat) (l2 : List Int) (r : Bool) (w : World) (hTb : Tab64 w) (hr1 : Kd.C (Kd.slice 3 (Kd.int .i64)) w A1 l1.length l1) (hc1 : l1.length ≤ c1) (hr2 : Kd.C (Kd.int .i64) w A2 l2.length l2) (hc2 : l2.length ≤ c2) (hT : r = true) (h : arboristlaw10_FillOnce.f k a0 l1 l2 = some r) :
    Calls Tryd.prog 4 #[.int .i64 a0, .slice A1 l1.length c1, .slice A2 l2.length c2] w fun e w' => e = .returned (.bool r) ∧ Below w.heap.size w w' := by
  have HTAB := Aside0.mk hTb
  clear hTb
  have HT_ := Aside0.mk (show r = true from hT)
  clear hT
  have hu29 := Tryd.underlying29
  have HR1 := Aside0.mk hr1
  have HC1 := Aside0.mk hc1
  clear hr1 hc1
  have HR2 := Aside0.mk hr2
  have HC2 := Aside0.mk hc2
  clear hr2 hc2
  have HB := Aside0.mk (Below.refl w.heap.size w)
  have H : ((arboristlaw10_shown.f k).bind fun t569 => ((arboristlaw10_made.f k a0 l1).bind fun t570 => ((arboristref08_Graph.f k t570).bind fun t573 => ((arboristlaw10_given.f k (t570.length : Int) l2).bind fun t577 => ((fill_Filled.f t573 t577).bind fun bt580 => ((fill_Filled.f bt580.1 t577).bind fun bt585 => ((fill_Bags.f bt580.1 t577).bind fun bt590 => ((fill_Bags.f t573 t577).bind fun bt594 => ((arboristref08_Truths.f k bt580.1).bind fun bt598 => (if bt580.2 = 0 then (if bt585.2 = 0 then (if bt590.2 = 0 then (if bt594.2 = 0 then (if bt598.2 = true then ((arboristlaw10_alike.f k bt585.1 bt598.1).bind fun t602 => (if t602 = true then ((arboristlaw10_same.f k bt590.1 bt594.1).bind fun t603 => (arboristlaw10_FillOnce.j0 k t569 bt590.1 bt598.1 (!t603) bt580.1)) else (arboristlaw10_FillOnce.j0 k t569 bt590.1 bt598.1 true bt580.1))) else (arboristlaw10_FillOnce.j0 k t569 bt590.1 bt598.1 true bt580.1)) else (arboristlaw10_FillOnce.j0 k t569 bt590.1 bt598.1 true bt580.1)) else (arboristlaw10_FillOnce.j0 k t569 bt590.1 bt598.1 true bt580.1)) else (arboristlaw10_FillOnce.j0 k t569 bt590.1 bt598.1 true bt580.1)) else (arboristlaw10_FillOnce.j0 k t569 bt590.1 bt598.1 true bt580.1))))))))))) = some r := h
  clear h
  replace H := Option.bind_eq_some_iff.mp H
  obtain ⟨t569, A40, H⟩ := H
  replace H : ((arboristlaw10_made.f k a0 l1).bind fun t570 => ((arboristref08_Graph.f k t570).bind fun t573 => ((arboristlaw10_given.f k (t570.length : Int) l2).bind fun t577 => ((fill_Filled.f t573 t577).bind fun bt580 => ((fill_Filled.f bt580.1 t577).bind fun bt585 => ((fill_Bags.f bt580.1 t577).bind fun bt590 => ((fill_Bags.f t573 t577).bind fun bt594 => ((arboristref08_Truths.f k bt580.1).bind fun bt598 => (if bt580.2 = 0 then (if bt585.2 = 0 then (if bt590.2 = 0 then (if bt594.2 = 0 then (if bt598.2 = true then ((arboristlaw10_alike.f k bt585.1 bt598.1).bind fun t602 => (if t602 = true then ((arboristlaw10_same.f k bt590.1 bt594.1).bind fun t603 => (arboristlaw10_FillOnce.j0 k t569 bt590.1 bt598.1 (!t603) bt580.1)) else (arboristlaw10_FillOnce.j0 k t569 bt590.1 bt598.1 true bt580.1))) else (arboristlaw10_FillOnce.j0 k t569 bt590.1 bt598.1 true bt580.1)) else (arboristlaw10_FillOnce.j0 k t569 bt590.1 bt598.1 true bt580.1)) else (arboristlaw10_FillOnce.j0 k t569 bt590.1 bt598.1 true bt580.1)) else (arboristlaw10_FillOnce.j0 k t569 bt590.1 bt598.1 true bt580.1)) else (arboristlaw10_FillOnce.j0 k t569 bt590.1 bt598.1 true bt580.1)))))))))) = some r := H
  have A4 := Aside0.mk A40
  clear A40
  replace H := Option.bind_eq_some_iff.mp H
  obtain ⟨t570, A50, H⟩ := H
  replace H : ((arboristref08_Graph.f k t570).bind fun t573 => ((arboristlaw10_given.f k (t570.length : Int) l2).bind fun t577 => ((fill_Filled.f t573 t577).bind fun bt580 => ((fill_Filled.f bt580.1 t577).bind fun bt585 => ((fill_Bags.f bt580.1 t577).bind fun bt590 => ((fill_Bags.f t573 t577).bind fun bt594 => ((arboristref08_Truths.f k bt580.1).bind fun bt598 => (if bt580.2 = 0 then (if bt585.2 = 0 then (if bt590.2 = 0 then (if bt594.2 = 0 then (if bt598.2 = true then ((arboristlaw10_alike.f k bt585.1 bt598.1).bind fun t602 => (if t602 = true then ((arboristlaw10_same.f k bt590.1 bt594.1).bind fun t603 => (arboristlaw10_FillOnce.j0 k t569 bt590.1 bt598.1 (!t603) bt580.1)) else (arboristlaw10_FillOnce.j0 k t569 bt590.1 bt598.1 true bt580.1))) else (arboristlaw10_FillOnce.j0 k t569 bt590.1 bt598.1 true bt580.1)) else (arboristlaw10_FillOnce.j0 k t569 bt590.1 bt598.1 true bt580.1)) else (arboristlaw10_FillOnce.j0 k t569 bt590.1 bt598.1 true bt580.1)) else (arboristlaw10_FillOnce.j0 k t569 bt590.1 bt598.1 true bt580.1)) else (arboristlaw10_FillOnce.j0 k t569 bt590.1 bt598.1 true bt580.1))))))))) = some r := H
  have A5 := Aside0.mk A50
  clear A50
  replace H := Option.bind_eq_some_iff.mp H
  obtain ⟨t573, A60, H⟩ := H
  replace H : ((arboristlaw10_given.f k (t570.length : Int) l2).bind fun t577 => ((fill_Filled.f t573 t577).bind fun bt580 => ((fill_Filled.f bt580.1 t577).bind fun bt585 => ((fill_Bags.f bt580.1 t577).bind fun bt590 => ((fill_Bags.f t573 t577).bind fun bt594 => ((arboristref08_Truths.f k bt580.1).bind fun bt598 => (if bt580.2 = 0 then (if bt585.2 = 0 then (if bt590.2 = 0 then (if bt594.2 = 0 then (if bt598.2 = true then ((arboristlaw10_alike.f k bt585.1 bt598.1).bind fun t602 => (if t602 = true then ((arboristlaw10_same.f k bt590.1 bt594.1).bind fun t603 => (arboristlaw10_FillOnce.j0 k t569 bt590.1 bt598.1 (!t603) bt580.1)) else (arboristlaw10_FillOnce.j0 k t569 bt590.1 bt598.1 true bt580.1))) else (arboristlaw10_FillOnce.j0 k t569 bt590.1 bt598.1 true bt580.1)) else (arboristlaw10_FillOnce.j0 k t569 bt590.1 bt598.1 true bt580.1)) else (arboristlaw10_FillOnce.j0 k t569 bt590.1 bt598.1 true bt580.1)) else (arboristlaw10_FillOnce.j0 k t569 bt590.1 bt598.1 true bt580.1)) else (arboristlaw10_FillOnce.j0 k t569 bt590.1 bt598.1 true bt580.1)))))))) = some r := H
  have A6 := Aside0.mk A60
  clear A60
  replace H := Option.bind_eq_some_iff.mp H
  obtain ⟨t577, A70, H⟩ := H
  replace H : ((fill_Filled.f t573 t577).bind fun bt580 => ((fill_Filled.f bt580.1 t577).bind fun bt585 => ((fill_Bags.f bt580.1 t577).bind fun bt590 => ((fill_Bags.f t573 t577).bind fun bt594 => ((arboristref08_Truths.f k bt580.1).bind fun bt598 => (if bt580.2 = 0 then (if bt585.2 = 0 then (if bt590.2 = 0 then (if bt594.2 = 0 then (if bt598.2 = true then ((arboristlaw10_alike.f k bt585.1 bt598.1).bind fun t602 => (if t602 = true then ((arboristlaw10_same.f k bt590.1 bt594.1).bind fun t603 => (arboristlaw10_FillOnce.j0 k t569 bt590.1 bt598.1 (!t603) bt580.1)) else (arboristlaw10_FillOnce.j0 k t569 bt590.1 bt598.1 true bt580.1))) else (arboristlaw10_FillOnce.j0 k t569 bt590.1 bt598.1 true bt580.1)) else (arboristlaw10_FillOnce.j0 k t569 bt590.1 bt598.1 true bt580.1)) else (arboristlaw10_FillOnce.j0 k t569 bt590.1 bt598.1 true bt580.1)) else (arboristlaw10_FillOnce.j0 k t569 bt590.1 bt598.1 true bt580.1)) else (arboristlaw10_FillOnce.j0 k t569 bt590.1 bt598.1 true bt580.1))))))) = some r := H
  have A7 := Aside0.mk A70
  clear A70
  replace H := Option.bind_eq_some_iff.mp H
  obtain ⟨⟨t580, t583⟩, A80, H⟩ := H
  replace H : ((fill_Filled.f t580 t577).bind fun bt585 => ((fill_Bags.f t580 t577).bind fun bt590 => ((fill_Bags.f t573 t577).bind fun bt594 => ((arboristref08_Truths.f k t580).bind fun bt598 => (if t583 = 0 then (if bt585.2 = 0 then (if bt590.2 = 0 then (if bt594.2 = 0 then (if bt598.2 = true then ((arboristlaw10_alike.f k bt585.1 bt598.1).bind fun t602 => (if t602 = true then ((arboristlaw10_same.f k bt590.1 bt594.1).bind fun t603 => (arboristlaw10_FillOnce.j0 k t569 bt590.1 bt598.1 (!t603) t580)) else (arboristlaw10_FillOnce.j0 k t569 bt590.1 bt598.1 true t580))) else (arboristlaw10_FillOnce.j0 k t569 bt590.1 bt598.1 true t580)) else (arboristlaw10_FillOnce.j0 k t569 bt590.1 bt598.1 true t580)) else (arboristlaw10_FillOnce.j0 k t569 bt590.1 bt598.1 true t580)) else (arboristlaw10_FillOnce.j0 k t569 bt590.1 bt598.1 true t580)) else (arboristlaw10_FillOnce.j0 k t569 bt590.1 bt598.1 true t580)))))) = some r := H
  have A8 := Aside0.mk A80
  clear A80
  replace H := Option.bind_eq_some_iff.mp H
  obtain ⟨⟨t585, t588⟩, A90, H⟩ := H
  replace H : ((fill_Bags.f t580 t577).bind fun bt590 => ((fill_Bags.f t573 t577).bind fun bt594 => ((arboristref08_Truths.f k t580).bind fun bt598 => (if t583 = 0 then (if t588 = 0 then (if bt590.2 = 0 then (if bt594.2 = 0 then (if bt598.2 = true then ((arboristlaw10_alike.f k t585 bt598.1).bind fun t602 => (if t602 = true then ((arboristlaw10_same.f k bt590.1 bt594.1).bind fun t603 => (arboristlaw10_FillOnce.j0 k t569 bt590.1 bt598.1 (!t603) t580)) else (arboristlaw10_FillOnce.j0 k t569 bt590.1 bt598.1 true t580))) else (arboristlaw10_FillOnce.j0 k t569 bt590.1 bt598.1 true t580)) else (arboristlaw10_FillOnce.j0 k t569 bt590.1 bt598.1 true t580)) else (arboristlaw10_FillOnce.j0 k t569 bt590.1 bt598.1 true t580)) else (arboristlaw10_FillOnce.j0 k t569 bt590.1 bt598.1 true t580)) else (arboristlaw10_FillOnce.j0 k t569 bt590.1 bt598.1 true t580))))) = some r := H
  have A9 := Aside0.mk A90
  clear A90
  replace H := Option.bind_eq_some_iff.mp H
  obtain ⟨⟨t590, t593⟩, A100, H⟩ := H
  replace H : ((fill_Bags.f t573 t577).bind fun bt594 => ((arboristref08_Truths.f k t580).bind fun bt598 => (if t583 = 0 then (if t588 = 0 then (if t593 = 0 then (if bt594.2 = 0 then (if bt598.2 = true then ((arboristlaw10_alike.f k t585 bt598.1).bind fun t602 => (if t602 = true then ((arboristlaw10_same.f k t590 bt594.1).bind fun t603 => (arboristlaw10_FillOnce.j0 k t569 t590 bt598.1 (!t603) t580)) else (arboristlaw10_FillOnce.j0 k t569 t590 bt598.1 true t580))) else (arboristlaw10_FillOnce.j0 k t569 t590 bt598.1 true t580)) else (arboristlaw10_FillOnce.j0 k t569 t590 bt598.1 true t580)) else (arboristlaw10_FillOnce.j0 k t569 t590 bt598.1 true t580)) else (arboristlaw10_FillOnce.j0 k t569 t590 bt598.1 true t580)) else (arboristlaw10_FillOnce.j0 k t569 t590 bt598.1 true t580)))) = some r := H
  have A10 := Aside0.mk A100
  clear A100
  replace H := Option.bind_eq_some_iff.mp H
  obtain ⟨⟨t594, t597⟩, A110, H⟩ := H
  replace H : ((arboristref08_Truths.f k t580).bind fun bt598 => (if t583 = 0 then (if t588 = 0 then (if t593 = 0 then (if t597 = 0 then (if bt598.2 = true then ((arboristlaw10_alike.f k t585 bt598.1).bind fun t602 => (if t602 = true then ((arboristlaw10_same.f k t590 t594).bind fun t603 => (arboristlaw10_FillOnce.j0 k t569 t590 bt598.1 (!t603) t580)) else (arboristlaw10_FillOnce.j0 k t569 t590 bt598.1 true t580))) else (arboristlaw10_FillOnce.j0 k t569 t590 bt598.1 true t580)) else (arboristlaw10_FillOnce.j0 k t569 t590 bt598.1 true t580)) else (arboristlaw10_FillOnce.j0 k t569 t590 bt598.1 true t580)) else (arboristlaw10_FillOnce.j0 k t569 t590 bt598.1 true t580)) else (arboristlaw10_FillOnce.j0 k t569 t590 bt598.1 true t580))) = some r := H
  have A11 := Aside0.mk A110
  clear A110
  replace H := Option.bind_eq_some_iff.mp H
  obtain ⟨⟨t598, t601⟩, A120, H⟩ := H
  replace H : (if t583 = 0 then (if t588 = 0 then (if t593 = 0 then (if t597 = 0 then (if t601 = true then ((arboristlaw10_alike.f k t585 t598).bind fun t602 => (if t602 = true then ((arboristlaw10_same.f k t590 t594).bind fun t603 => (arboristlaw10_FillOnce.j0 k t569 t590 t598 (!t603) t580)) else (arboristlaw10_FillOnce.j0 k t569 t590 t598 true t580))) else (arboristlaw10_FillOnce.j0 k t569 t590 t598 true t580)) else (arboristlaw10_FillOnce.j0 k t569 t590 t598 true t580)) else (arboristlaw10_FillOnce.j0 k t569 t590 t598 true t580)) else (arboristlaw10_FillOnce.j0 k t569 t590 t598 true t580)) else (arboristlaw10_FillOnce.j0 k t569 t590 t598 true t580)) = some r := H
  have A12 := Aside0.mk A120
  clear A120
  have HC13 := Aside0.mk H
  clear H
  go_enter Tryd.func4, Tryd.ntmps4
  go_upto_region 10 with (first | ((with_reducible refine gate_callee (f := 10) rfl ?_); refine goesL_ (some 23) rfl rfl Tryd.func10 (by kernel_rfl) rfl #[] rfl (by (try simp only [List.map_toArray, List.map_cons, List.map_nil]); first | done | rfl | (simp only [List.length_drop, List.length_take]; rfl)) ?_; (with_reducible refine (arboristlaw10_shown.calls (hTb := (by first | exact HTAB.out | exact tab_drewN HTAB.out _ | exact tab_below HTAB.out (by repeat (first | (with_reducible first | exact HB.out | apply below_alloc | apply pw_below_drewN | apply below_drew1 | refine below_set ?_ GE576.out | refine below_set ?_ GE584.out | refine below_set ?_ GE589.out) | exact HB.out)))) k  t569 _ A4.out).mono ?_); rintro e w14 ⟨rfl, hb⟩; refine ⟨_, rfl, ?_⟩; have n0_ := Aside0.mk (below_step (by repeat (first | (with_reducible first | exact HB.out | apply below_alloc | apply pw_below_drewN | apply below_drew1) | exact HB.out)) hb); clear HB; have HB := n0_; clear n0_; (try clear hb); (try clear hb2); (try clear hk); (try clear hi)) | ((with_reducible refine gate_callee (f := 11) rfl ?_); refine goesL_ (some 26) rfl rfl Tryd.func11 (by kernel_rfl) rfl #[.int .i64 a0, .slice A1 l1.length c1] rfl (by (try simp only [List.map_toArray, List.map_cons, List.map_nil]); first | done | rfl | (simp only [List.length_drop, List.length_take]; rfl)) ?_; (with_reducible refine (arboristlaw10_made.calls k a0 _ _ l1 t570 _ ?side1 ?side2 A5.out).mono ?_); (case side1 => repeat (first | exact (Kd.C_below HR1.out HB.out) | (with_reducible refine Kd.C_alloc ?_ _) | (with_reducible refine Kd.C_drewN ?_ _) | (with_reducible refine Kd.C_drew ?_))); (case side2 => exact HC1.out); rintro e w15 ⟨v571, rfl, ho0, hb⟩; refine ⟨_, rfl, ?_⟩; have n0_ := Aside0.mk (Kd.S_lower ho0 (below_size (by repeat (first | (with_reducible first | exact HB.out | apply below_alloc | apply pw_below_drewN | apply below_drew1) | exact HB.out)))); have n1_ := Aside0.mk (below_step (by repeat (first | (with_reducible first | exact HB.out | apply below_alloc | apply pw_below_drewN | apply below_drew1) | exact HB.out)) hb); clear HB; have HO572 := n0_; have HB := n1_; clear n0_ n1_; (try clear hb); (try clear hb2); (try clear hk); (try clear hi); (try clear ho0); obtain ⟨Ao16, co16, eo16⟩ := Kd.S_slice HO572.out; subst eo16) | ((with_reducible refine gate_callee (f := 12) rfl ?_); refine goesL_ (some 28) rfl rfl Tryd.func12 (by kernel_rfl) rfl #[.slice Ao16 t570.length co16] rfl (by (try simp only [List.map_toArray, List.map_cons, List.map_nil]); first | done | rfl | (simp only [List.length_drop, List.length_take]; rfl)) ?_; (with_reducible refine (arboristref08_Graph.calls k _ _ t570 t573 _ ?side1 ?side2 A6.out).mono ?_); (case side1 => repeat (first | exact (Kd.S_reads' HO572.out).2.2 | (with_reducible refine Kd.C_alloc ?_ _) | (with_reducible refine Kd.C_drewN ?_ _) | (with_reducible refine Kd.C_drew ?_))); (case side2 => exact (Kd.S_reads' HO572.out).2.1); rintro e w17 ⟨v574, rfl, ho0, hb⟩; refine ⟨_, rfl, ?_⟩; have n0_ := Aside0.mk (Kd.S_below (by (with_reducible repeat (first | apply Kd.S_alloc | apply Kd.S_drewN | apply Kd.S_drew)); exact HO572.out) hb); have n1_ := Aside0.mk (Kd.R_lower ho0 (below_size (by repeat (first | (with_reducible first | exact HB.out | apply below_alloc | apply pw_below_drewN | apply below_drew1) | exact HB.out)))); have n2_ := Aside0.mk (below_step (by repeat (first | (with_reducible first | exact HB.out | apply below_alloc | apply pw_below_drewN | apply below_drew1) | exact HB.out)) hb); clear HO572; clear HB; have HO572 := n0_; have HO575 := n1_; have HB := n2_; clear n0_ n1_ n2_; (try clear hb); (try clear hb2); (try clear hk); (try clear hi); (try clear ho0)) | ((with_reducible refine gate_dst (N := 9) rfl ?_); refine box_event ?hg (N := 9) ?hd (cs := #[.slice none 0 0]) (t := 29) ?hr ?_; (case hd => rfl); (case hg => rfl); (case hr => first | (go_simp; done) | (go_simp; rfl)); intro gb576 hg w18 hbox hb; have n0_ := Aside0.mk (Kd.S_below (by (with_reducible repeat (first | apply Kd.S_alloc | apply Kd.S_drewN | apply Kd.S_drew)); exact HO572.out) hb); have n1_ := Aside0.mk (Kd.R_below (by (with_reducible repeat (first | apply Kd.R_alloc | apply Kd.R_drewN | apply Kd.R_drew)); exact HO575.out) hb); have n2_ := Aside0.mk (below_step (by repeat (first | (with_reducible first | exact HB.out | apply below_alloc | apply pw_below_drewN | apply below_drew1) | exact HB.out)) hb); have n3_ := Aside0.mk (hbox); have n4_ := Aside0.mk ((by rw [hg]; exact (below_size (by repeat (first | (with_reducible first | exact HB.out | apply below_alloc | apply pw_below_drewN | apply below_drew1) | exact HB.out))) : w.heap.size ≤ gb576)); have n5_ := Aside0.mk ((by rw [hg]; exact (below_size (by repeat (first | (with_reducible first | exact HB.out | apply below_alloc | apply pw_below_drewN | apply below_drew1) | exact HB.out))) : w.heap.size ≤ gb576)); clear HO572; clear HO575; clear HB; have HO572 := n0_; have HO575 := n1_; have HB := n2_; have BK576 := n3_; have GW576 := n4_; have GE576 := n5_; clear n0_ n1_ n2_ n3_ n4_ n5_; clear hb hbox hg; obtain ⟨Ao19, co19, eo19⟩ := Kd.R_slice HO575.out; subst eo19; have hcz20_0 : w18.cell? ⟨gb576, 0, none⟩ = some (.slice none 0 0) := (blk_cell BK576.out 0).trans rfl; have hfz20_0 := blk_frozen BK576.out 0) | ((with_reducible refine gate_callee (f := 13) rfl ?_); refine goesL_ (some 32) rfl rfl Tryd.func13 (by kernel_rfl) rfl #[.int .i64 (t570.length : Int), .slice A2 l2.length c2] rfl (by (try simp only [List.map_toArray, List.map_cons, List.map_nil]); first | done | rfl | (simp only [List.length_drop, List.length_take]; rfl)) ?_; (with_reducible refine (arboristlaw10_given.calls k (t570.length : Int) _ _ l2 t577 _ ?side1 ?side2 A7.out).mono ?_); (case side1 => exact Kd.C_below HR2.out (by repeat (first | (with_reducible first | exact HB.out | apply below_alloc | apply pw_below_drewN | apply below_drew1 | refine below_set ?_ GE576.out) | exact HB.out))); (case side2 => exact HC2.out); rintro e w21 ⟨v578, rfl, ho0, hb⟩; refine ⟨_, rfl, ?_⟩; have n0_ := Aside0.mk (Kd.S_below (by (with_reducible repeat (first | apply Kd.S_alloc | apply Kd.S_drewN | apply Kd.S_drew)); exact (Kd.S_mono (Kd.S_far (p := ⟨gb576, 0, none⟩) (Kd.S_types HO572.out BK576.out (by decide)) (fun _ hk => hk.2) (.slice Ao19 t573.length co19)) (fun _ h_ => h_.1))) hb); have n1_ := Aside0.mk (Kd.R_below (by (with_reducible repeat (first | apply Kd.R_alloc | apply Kd.R_drewN | apply Kd.R_drew)); exact (Kd.R_mono (Kd.R_far (p := ⟨gb576, 0, none⟩) (Kd.R_types HO575.out BK576.out (by decide)) (fun _ hk => hk.2) (.slice Ao19 t573.length co19)) (fun _ h_ => h_.1))) hb); have n2_ := Aside0.mk (Kd.R_lower ho0 (below_size (by repeat (first | (with_reducible first | exact HB.out | apply below_alloc | apply pw_below_drewN | apply below_drew1 | refine below_set ?_ GE576.out) | exact HB.out)))); have n3_ := Aside0.mk (blk_below (g := gb576) (o := .cells #[.slice Ao19 t573.length co19] 29 (0, 0)) (by (with_reducible repeat (first | refine blk_drewN ?_ _ | refine blk_drew ?_ | refine blk_alloc ?_ _)); refine blk_put (cs := #[.slice none 0 0]) ?_ 0 _ rfl; (with_reducible repeat (first | refine blk_drewN ?_ _ | refine blk_drew ?_ | refine blk_alloc ?_ _)); exact BK576.out) hb); have n4_ := Aside0.mk (below_step (by repeat (first | (with_reducible first | exact HB.out | apply below_alloc | apply pw_below_drewN | apply below_drew1 | refine below_set ?_ GE576.out) | exact HB.out)) hb); clear HO572; clear HO575; clear BK576; clear HB; have HO572 := n0_; have HO575 := n1_; have HO579 := n2_; have BK576 := n3_; have HB := n4_; clear n0_ n1_ n2_ n3_ n4_; (try clear hb); (try clear hb2); (try clear hk); (try clear hi); (try clear ho0); have hcz22_0 : w21.cell? ⟨gb576, 0, none⟩ = some (.slice Ao19 t573.length co19) := (blk_cell BK576.out 0).trans rfl; have hfz22_0 := blk_frozen BK576.out 0; obtain ⟨Ao23, co23, eo23⟩ := Kd.R_slice HO579.out; subst eo23) | ((with_reducible refine gate_callee (f := 14) rfl ?_); refine goesL_ (some 36) rfl rfl Tryd.func14 (by kernel_rfl) rfl #[.agg #[.slice Ao19 t573.length co19], .slice Ao23 t577.length co23] rfl (by (try simp only [List.map_toArray, List.map_cons, List.map_nil]); first | done | rfl | (simp only [List.length_drop, List.length_take]; rfl)) ?_; (with_reducible refine (fill_Filled.calls (hTb := (by first | exact HTAB.out | exact tab_drewN HTAB.out _ | exact tab_below HTAB.out (by repeat (first | (with_reducible first | exact HB.out | apply below_alloc | apply pw_below_drewN | apply below_drew1 | refine below_set ?_ GE576.out | refine below_set ?_ GE584.out | refine below_set ?_ GE589.out) | exact HB.out)))) _ _ t573 _ _ t577 t580 t583 _ ?side1 ?side2 ?side3 ?side4 A8.out).mono ?_); (case side1 => repeat (first | exact (Kd.R_reads' HO575.out).2.2 | (with_reducible refine Kd.C_alloc ?_ _) | (with_reducible refine Kd.C_drewN ?_ _) | (with_reducible refine Kd.C_drew ?_))); (case side2 => exact (Kd.R_reads' HO575.out).2.1); (case side3 => repeat (first | exact (Kd.R_reads' HO579.out).2.2 | (with_reducible refine Kd.C_alloc ?_ _) | (with_reducible refine Kd.C_drewN ?_ _) | (with_reducible refine Kd.C_drew ?_))); (case side4 => exact (Kd.R_reads' HO579.out).2.1); rintro e w24 ⟨v581, rfl, ho0, hb⟩; refine ⟨_, rfl, ?_⟩; have n0_ := Aside0.mk (Kd.S_below (by (with_reducible repeat (first | apply Kd.S_alloc | apply Kd.S_drewN | apply Kd.S_drew)); exact HO572.out) hb); have n1_ := Aside0.mk (Kd.R_elder' (by (with_reducible repeat (first | apply Kd.R_alloc | apply Kd.R_drewN | apply Kd.R_drew)); exact HO575.out) (Kd.R_base ho0) hb); have n2_ := Aside0.mk (Kd.R_below (by (with_reducible repeat (first | apply Kd.R_alloc | apply Kd.R_drewN | apply Kd.R_drew)); exact HO579.out) hb); have n3_ := Aside0.mk (Kd.R_lower (Kd.R_new' ho0 (Kd.R_lt (by (with_reducible repeat (first | apply Kd.R_alloc | apply Kd.R_drewN | apply Kd.R_drew)); exact HO575.out))) (below_size (by repeat (first | (with_reducible first | exact HB.out | apply below_alloc | apply pw_below_drewN | apply below_drew1 | refine below_set ?_ GE576.out) | exact HB.out)))); have n4_ := Aside0.mk (blk_below (g := gb576) (o := .cells #[.slice Ao19 t573.length co19] 29 (0, 0)) (by (with_reducible repeat (first | refine blk_drewN ?_ _ | refine blk_drew ?_ | refine blk_alloc ?_ _)); exact BK576.out) hb); have n5_ := Aside0.mk (below_step (by repeat (first | (with_reducible first | exact HB.out | apply below_alloc | apply pw_below_drewN | apply below_drew1 | refine below_set ?_ GE576.out) | exact HB.out)) hb); clear HO572; clear HO575; clear HO579; clear BK576; clear HB; have HO572 := n0_; have HO575 := n1_; have HO579 := n2_; have HO582 := n3_; have BK576 := n4_; have HB := n5_; clear n0_ n1_ n2_ n3_ n4_ n5_; (try clear hb); (try clear hb2); (try clear hk); (try clear hi); (try clear ho0)) | ((with_reducible refine gate_dst (N := 11) rfl ?_); refine box_event ?hg (N := 11) ?hd (cs := #[.slice none 0 0]) (t := 29) ?hr ?_; (case hd => rfl); (case hg => rfl); (case hr => first | (go_simp; done) | (go_simp; rfl)); intro gb584 hg w25 hbox hb; have n0_ := Aside0.mk (Kd.S_below (by (with_reducible repeat (first | apply Kd.S_alloc | apply Kd.S_drewN | apply Kd.S_drew)); exact HO572.out) hb); have n1_ := Aside0.mk (Kd.R_below (by (with_reducible repeat (first | apply Kd.R_alloc | apply Kd.R_drewN | apply Kd.R_drew)); exact HO575.out) hb); have n2_ := Aside0.mk (Kd.R_below (by (with_reducible repeat (first | apply Kd.R_alloc | apply Kd.R_drewN | apply Kd.R_drew)); exact HO579.out) hb); have n3_ := Aside0.mk (Kd.R_below (by (with_reducible repeat (first | apply Kd.R_alloc | apply Kd.R_drewN | apply Kd.R_drew)); exact HO582.out) hb); have n4_ := Aside0.mk (blk_below (g := gb576) (o := .cells #[.slice Ao19 t573.length co19] 29 (0, 0)) (by (with_reducible repeat (first | refine blk_drewN ?_ _ | refine blk_drew ?_ | refine blk_alloc ?_ _)); exact BK576.out) hb); have n5_ := Aside0.mk (below_step (by repeat (first | (with_reducible first | exact HB.out | apply below_alloc | apply pw_below_drewN | apply below_drew1 | refine below_set ?_ GE576.out) | exact HB.out)) hb); have n6_ := Aside0.mk (hbox); have n7_ := Aside0.mk ((by rw [hg]; exact (below_size (by repeat (first | (with_reducible first | exact HB.out | apply below_alloc | apply pw_below_drewN | apply below_drew1 | refine below_set ?_ GE576.out) | exact HB.out))) : w.heap.size ≤ gb584)); have n8_ := Aside0.mk ((by rw [hg]; exact (below_size (by repeat (first | (with_reducible first | exact HB.out | apply below_alloc | apply pw_below_drewN | apply below_drew1 | refine below_set ?_ GE576.out) | exact HB.out))) : w.heap.size ≤ gb584)); have n9_ := Aside0.mk ((by rw [hg]; exact Nat.ne_of_lt (blk_lt (g := gb576) (o := .cells #[.slice Ao19 t573.length co19] 29 (0, 0)) (by (with_reducible repeat (first | refine blk_drewN ?_ _ | refine blk_drew ?_ | refine blk_alloc ?_ _)); exact BK576.out)) : gb576 ≠ gb584)); have n10_ := Aside0.mk ((by rw [hg]; exact Nat.ne_of_gt (blk_lt (g := gb576) (o := .cells #[.slice Ao19 t573.length co19] 29 (0, 0)) (by (with_reducible repeat (first | refine blk_drewN ?_ _ | refine blk_drew ?_ | refine blk_alloc ?_ _)); exact BK576.out)) : gb584 ≠ gb576)); clear HO572; clear HO575; clear HO579; clear HO582; clear BK576; clear HB; have HO572 := n0_; have HO575 := n1_; have HO579 := n2_; have HO582 := n3_; have BK576 := n4_; have HB := n5_; have BK584 := n6_; have GW584 := n7_; have GE584 := n8_; have NB576_584 := n9_; have NB584_576 := n10_; clear n0_ n1_ n2_ n3_ n4_ n5_ n6_ n7_ n8_ n9_ n10_; clear hb hbox hg; obtain ⟨Ao26, co26, eo26⟩ := Kd.R_slice HO582.out; subst eo26; have hnb27 := NB584_576.out; have hnc27 := NB576_584.out; have hcz28_0 : w25.cell? ⟨gb584, 0, none⟩ = some (.slice none 0 0) := (blk_cell BK584.out 0).trans rfl; have hfz28_0 := blk_frozen BK584.out 0) | ((with_reducible refine gate_callee (f := 14) rfl ?_); refine goesL_ (some 42) rfl rfl Tryd.func14 (by kernel_rfl) rfl #[.agg #[.slice Ao26 t580.length co26], .slice Ao23 t577.length co23] rfl (by (try simp only [List.map_toArray, List.map_cons, List.map_nil]); first | done | rfl | (simp only [List.length_drop, List.length_take]; rfl)) ?_; (with_reducible refine (fill_Filled.calls (hTb := (by first | exact HTAB.out | exact tab_drewN HTAB.out _ | exact tab_below HTAB.out (by repeat (first | (with_reducible first | exact HB.out | apply below_alloc | apply pw_below_drewN | apply below_drew1 | refine below_set ?_ GE576.out | refine below_set ?_ GE584.out | refine below_set ?_ GE589.out) | exact HB.out)))) _ _ t580 _ _ t577 t585 t588 _ ?side1 ?side2 ?side3 ?side4 A9.out).mono ?_); (case side1 => refine (Kd.R_reads' (e := 61) (base := w.heap.size) (ok := fun k_ => (True ∧ some k_ ≠ (.slice Ao19 t573.length co19 : Value).ownBlock)) (n := t580.length) (c := co26) ?_).2.2; exact (by (with_reducible repeat (first | apply Kd.R_alloc | apply Kd.R_drewN | apply Kd.R_drew)); exact (Kd.R_mono (Kd.R_far (p := ⟨gb584, 0, none⟩) (Kd.R_types HO582.out BK584.out (by decide)) (fun _ hk => hk.2) (.slice Ao26 t580.length co26)) (fun _ h_ => h_.1)))); (case side2 => exact (Kd.R_reads' HO582.out).2.1); (case side3 => refine (Kd.R_reads' (e := 3) (base := w.heap.size) (ok := fun k_ => True) (n := t577.length) (c := co23) ?_).2.2; exact (by (with_reducible repeat (first | apply Kd.R_alloc | apply Kd.R_drewN | apply Kd.R_drew)); exact (Kd.R_mono (Kd.R_far (p := ⟨gb584, 0, none⟩) (Kd.R_types HO579.out BK584.out (by decide)) (fun _ hk => hk.2) (.slice Ao26 t580.length co26)) (fun _ h_ => h_.1)))); (case side4 => exact (Kd.R_reads' HO579.out).2.1); rintro e w29 ⟨v586, rfl, ho0, hb⟩; refine ⟨_, rfl, ?_⟩; have n0_ := Aside0.mk (Kd.S_below (by (with_reducible repeat (first | apply Kd.S_alloc | apply Kd.S_drewN | apply Kd.S_drew)); exact (Kd.S_mono (Kd.S_far (p := ⟨gb584, 0, none⟩) (Kd.S_types HO572.out BK584.out (by decide)) (fun _ hk => hk.2) (.slice Ao26 t580.length co26)) (fun _ h_ => h_.1))) hb); have n1_ := Aside0.mk (Kd.R_elder' (by (with_reducible repeat (first | apply Kd.R_alloc | apply Kd.R_drewN | apply Kd.R_drew)); exact (Kd.R_mono (Kd.R_far (p := ⟨gb584, 0, none⟩) (Kd.R_types HO575.out BK584.out (by decide)) (fun _ hk => hk.2) (.slice Ao26 t580.length co26)) (fun _ h_ => h_.1))) (Kd.R_base ho0) hb); have n2_ := Aside0.mk (Kd.R_below (by (with_reducible repeat (first | apply Kd.R_alloc | apply Kd.R_drewN | apply Kd.R_drew)); exact (Kd.R_mono (Kd.R_far (p := ⟨gb584, 0, none⟩) (Kd.R_types HO579.out BK584.out (by decide)) (fun _ hk => hk.2) (.slice Ao26 t580.length co26)) (fun _ h_ => h_.1))) hb); have n3_ := Aside0.mk (Kd.R_elder' (by (with_reducible repeat (first | apply Kd.R_alloc | apply Kd.R_drewN | apply Kd.R_drew)); exact (Kd.R_mono (Kd.R_far (p := ⟨gb584, 0, none⟩) (Kd.R_types HO582.out BK584.out (by decide)) (fun _ hk => hk.2) (.slice Ao26 t580.length co26)) (fun _ h_ => h_.1))) (Kd.R_base ho0) hb); have n4_ := Aside0.mk (Kd.R_lower (Kd.R_new' (Kd.R_new' ho0 (Kd.R_lt (by (with_reducible repeat (first | apply Kd.R_alloc | apply Kd.R_drewN | apply Kd.R_drew)); exact (Kd.R_mono (Kd.R_far (p := ⟨gb584, 0, none⟩) (Kd.R_types HO575.out BK584.out (by decide)) (fun _ hk => hk.2) (.slice Ao26 t580.length co26)) (fun _ h_ => h_.1))))) (Kd.R_lt (by (with_reducible repeat (first | apply Kd.R_alloc | apply Kd.R_drewN | apply Kd.R_drew)); exact (Kd.R_mono (Kd.R_far (p := ⟨gb584, 0, none⟩) (Kd.R_types HO582.out BK584.out (by decide)) (fun _ hk => hk.2) (.slice Ao26 t580.length co26)) (fun _ h_ => h_.1))))) (below_size (by repeat (first | (with_reducible first | exact HB.out | apply below_alloc | apply pw_below_drewN | apply below_drew1 | refine below_set ?_ GE576.out | refine below_set ?_ GE584.out) | exact HB.out)))); have n5_ := Aside0.mk (blk_below (g := gb576) (o := .cells #[.slice Ao19 t573.length co19] 29 (0, 0)) (by (with_reducible repeat (first | refine blk_drewN ?_ _ | refine blk_drew ?_ | refine blk_alloc ?_ _)); refine blk_far ?_ NB576_584.out _; (with_reducible repeat (first | refine blk_drewN ?_ _ | refine blk_drew ?_ | refine blk_alloc ?_ _)); exact BK576.out) hb); have n6_ := Aside0.mk (blk_below (g := gb584) (o := .cells #[.slice Ao26 t580.length co26] 29 (0, 0)) (by (with_reducible repeat (first | refine blk_drewN ?_ _ | refine blk_drew ?_ | refine blk_alloc ?_ _)); refine blk_put (cs := #[.slice none 0 0]) ?_ 0 _ rfl; (with_reducible repeat (first | refine blk_drewN ?_ _ | refine blk_drew ?_ | refine blk_alloc ?_ _)); exact BK584.out) hb); have n7_ := Aside0.mk (below_step (by repeat (first | (with_reducible first | exact HB.out | apply below_alloc | apply pw_below_drewN | apply below_drew1 | refine below_set ?_ GE576.out | refine below_set ?_ GE584.out) | exact HB.out)) hb); clear HO572; clear HO575; clear HO579; clear HO582; clear BK576; clear BK584; clear HB; have HO572 := n0_; have HO575 := n1_; have HO579 := n2_; have HO582 := n3_; have HO587 := n4_; have BK576 := n5_; have BK584 := n6_; have HB := n7_; clear n0_ n1_ n2_ n3_ n4_ n5_ n6_ n7_; (try clear hb); (try clear hb2); (try clear hk); (try clear hi); (try clear ho0)) | ((with_reducible refine gate_dst (N := 13) rfl ?_); refine box_event ?hg (N := 13) ?hd (cs := #[.slice none 0 0]) (t := 29) ?hr ?_; (case hd => rfl); (case hg => rfl); (case hr => first | (go_simp; done) | (go_simp; rfl)); intro gb589 hg w30 hbox hb; have n0_ := Aside0.mk (Kd.S_below (by (with_reducible repeat (first | apply Kd.S_alloc | apply Kd.S_drewN | apply Kd.S_drew)); exact HO572.out) hb); have n1_ := Aside0.mk (Kd.R_below (by (with_reducible repeat (first | apply Kd.R_alloc | apply Kd.R_drewN | apply Kd.R_drew)); exact HO575.out) hb); have n2_ := Aside0.mk (Kd.R_below (by (with_reducible repeat (first | apply Kd.R_alloc | apply Kd.R_drewN | apply Kd.R_drew)); exact HO579.out) hb); have n3_ := Aside0.mk (Kd.R_below (by (with_reducible repeat (first | apply Kd.R_alloc | apply Kd.R_drewN | apply Kd.R_drew)); exact HO582.out) hb); have n4_ := Aside0.mk (Kd.R_below (by (with_reducible repeat (first | apply Kd.R_alloc | apply Kd.R_drewN | apply Kd.R_drew)); exact HO587.out) hb); have n5_ := Aside0.mk (blk_below (g := gb576) (o := .cells #[.slice Ao19 t573.length co19] 29 (0, 0)) (by (with_reducible repeat (first | refine blk_drewN ?_ _ | refine blk_drew ?_ | refine blk_alloc ?_ _)); exact BK576.out) hb); have n6_ := Aside0.mk (blk_below (g := gb584) (o := .cells #[.slice Ao26 t580.length co26] 29 (0, 0)) (by (with_reducible repeat (first | refine blk_drewN ?_ _ | refine blk_drew ?_ | refine blk_alloc ?_ _)); exact BK584.out) hb); have n7_ := Aside0.mk (below_step (by repeat (first | (with_reducible first | exact HB.out | apply below_alloc | apply pw_below_drewN | apply below_drew1 | refine below_set ?_ GE576.out | refine below_set ?_ GE584.out) | exact HB.out)) hb); have n8_ := Aside0.mk (hbox); have n9_ := Aside0.mk ((by rw [hg]; exact (below_size (by repeat (first | (with_reducible first | exact HB.out | apply below_alloc | apply pw_below_drewN | apply below_drew1 | refine below_set ?_ GE576.out | refine below_set ?_ GE584.out) | exact HB.out))) : w.heap.size ≤ gb589)); have n10_ := Aside0.mk ((by rw [hg]; exact (below_size (by repeat (first | (with_reducible first | exact HB.out | apply below_alloc | apply pw_below_drewN | apply below_drew1 | refine below_set ?_ GE576.out | refine below_set ?_ GE584.out) | exact HB.out))) : w.heap.size ≤ gb589)); have n11_ := Aside0.mk ((by rw [hg]; exact Nat.ne_of_lt (blk_lt (g := gb576) (o := .cells #[.slice Ao19 t573.length co19] 29 (0, 0)) (by (with_reducible repeat (first | refine blk_drewN ?_ _ | refine blk_drew ?_ | refine blk_alloc ?_ _)); exact BK576.out)) : gb576 ≠ gb589)); have n12_ := Aside0.mk ((by rw [hg]; exact Nat.ne_of_gt (blk_lt (g := gb576) (o := .cells #[.slice Ao19 t573.length co19] 29 (0, 0)) (by (with_reducible repeat (first | refine blk_drewN ?_ _ | refine blk_drew ?_ | refine blk_alloc ?_ _)); exact BK576.out)) : gb589 ≠ gb576)); have n13_ := Aside0.mk ((by rw [hg]; exact Nat.ne_of_lt (blk_lt (g := gb584) (o := .cells #[.slice Ao26 t580.length co26] 29 (0, 0)) (by (with_reducible repeat (first | refine blk_drewN ?_ _ | refine blk_drew ?_ | refine blk_alloc ?_ _)); exact BK584.out)) : gb584 ≠ gb589)); have n14_ := Aside0.mk ((by rw [hg]; exact Nat.ne_of_gt (blk_lt (g := gb584) (o := .cells #[.slice Ao26 t580.length co26] 29 (0, 0)) (by (with_reducible repeat (first | refine blk_drewN ?_ _ | refine blk_drew ?_ | refine blk_alloc ?_ _)); exact BK584.out)) : gb589 ≠ gb584)); clear HO572; clear HO575; clear HO579; clear HO582; clear HO587; clear BK576; clear BK584; clear HB; have HO572 := n0_; have HO575 := n1_; have HO579 := n2_; have HO582 := n3_; have HO587 := n4_; have BK576 := n5_; have BK584 := n6_; have HB := n7_; have BK589 := n8_; have GW589 := n9_; have GE589 := n10_; have NB576_589 := n11_; have NB589_576 := n12_; have NB584_589 := n13_; have NB589_584 := n14_; clear n0_ n1_ n2_ n3_ n4_ n5_ n6_ n7_ n8_ n9_ n10_ n11_ n12_ n13_ n14_; clear hb hbox hg; obtain ⟨Ao31, co31, eo31⟩ := Kd.R_slice HO587.out; subst eo31; have hnb32 := NB589_576.out; have hnc32 := NB576_589.out; have hnb33 := NB589_584.out; have hnc33 := NB584_589.out; have hcz34_0 : w30.cell? ⟨gb589, 0, none⟩ = some (.slice none 0 0) := (blk_cell BK589.out 0).trans rfl; have hfz34_0 := blk_frozen BK589.out 0; have hcz35_0 : w30.cell? ⟨gb584, 0, none⟩ = some (.slice Ao26 t580.length co26) := (blk_cell BK584.out 0).trans rfl; have hfz35_0 := blk_frozen BK584.out 0) | ((with_reducible refine gate_callee (f := 15) rfl ?_); refine goesL_ (some 48) rfl rfl Tryd.func15 (by kernel_rfl) rfl #[.agg #[.slice Ao26 t580.length co26], .slice Ao23 t577.length co23] rfl (by (try simp only [List.map_toArray, List.map_cons, List.map_nil]); first | done | rfl | (simp only [List.length_drop, List.length_take]; rfl)) ?_; (with_reducible refine (fill_Bags.calls (hTb := (by first | exact HTAB.out | exact tab_drewN HTAB.out _ | exact tab_below HTAB.out (by repeat (first | (with_reducible first | exact HB.out | apply below_alloc | apply pw_below_drewN | apply below_drew1 | refine below_set ?_ GE576.out | refine below_set ?_ GE584.out | refine below_set ?_ GE589.out) | exact HB.out)))) _ _ t580 _ _ t577 t590 t593 _ ?side1 ?side2 ?side3 ?side4 A10.out).mono ?_); (case side1 => refine (Kd.R_reads' (e := 61) (base := w.heap.size) (ok := fun k_ => ((True ∧ some k_ ≠ (.slice Ao19 t573.length co19 : Value).ownBlock) ∧ some k_ ≠ (.slice Ao31 t585.length co31 : Value).ownBlock)) (n := t580.length) (c := co26) ?_).2.2; exact (by (with_reducible repeat (first | apply Kd.R_alloc | apply Kd.R_drewN | apply Kd.R_drew)); exact (Kd.R_mono (Kd.R_far (p := ⟨gb589, 0, none⟩) (Kd.R_types HO582.out BK589.out (by decide)) (fun _ hk => hk.2) (.slice Ao31 t585.length co31)) (fun _ h_ => h_.1)))); (case side2 => exact (Kd.R_reads' HO582.out).2.1); (case side3 => refine (Kd.R_reads' (e := 3) (base := w.heap.size) (ok := fun k_ => True) (n := t577.length) (c := co23) ?_).2.2; exact (by (with_reducible repeat (first | apply Kd.R_alloc | apply Kd.R_drewN | apply Kd.R_drew)); exact (Kd.R_mono (Kd.R_far (p := ⟨gb589, 0, none⟩) (Kd.R_types HO579.out BK589.out (by decide)) (fun _ hk => hk.2) (.slice Ao31 t585.length co31)) (fun _ h_ => h_.1)))); (case side4 => exact (Kd.R_reads' HO579.out).2.1); rintro e w36 ⟨v591, rfl, ho0, hb⟩; refine ⟨_, rfl, ?_⟩; have n0_ := Aside0.mk (Kd.S_below (by (with_reducible repeat (first | apply Kd.S_alloc | apply Kd.S_drewN | apply Kd.S_drew)); exact (Kd.S_mono (Kd.S_far (p := ⟨gb589, 0, none⟩) (Kd.S_types HO572.out BK589.out (by decide)) (fun _ hk => hk.2) (.slice Ao31 t585.length co31)) (fun _ h_ => h_.1))) hb); have n1_ := Aside0.mk (Kd.R_below (by (with_reducible repeat (first | apply Kd.R_alloc | apply Kd.R_drewN | apply Kd.R_drew)); exact (Kd.R_mono (Kd.R_far (p := ⟨gb589, 0, none⟩) (Kd.R_types HO575.out BK589.out (by decide)) (fun _ hk => hk.2) (.slice Ao31 t585.length co31)) (fun _ h_ => h_.1))) hb); have n2_ := Aside0.mk (Kd.R_below (by (with_reducible repeat (first | apply Kd.R_alloc | apply Kd.R_drewN | apply Kd.R_drew)); exact (Kd.R_mono (Kd.R_far (p := ⟨gb589, 0, none⟩) (Kd.R_types HO579.out BK589.out (by decide)) (fun _ hk => hk.2) (.slice Ao31 t585.length co31)) (fun _ h_ => h_.1))) hb); have n3_ := Aside0.mk (Kd.R_below (by (with_reducible repeat (first | apply Kd.R_alloc | apply Kd.R_drewN | apply Kd.R_drew)); exact (Kd.R_mono (Kd.R_far (p := ⟨gb589, 0, none⟩) (Kd.R_types HO582.out BK589.out (by decide)) (fun _ hk => hk.2) (.slice Ao31 t585.length co31)) (fun _ h_ => h_.1))) hb); have n4_ := Aside0.mk (Kd.R_below (by (with_reducible repeat (first | apply Kd.R_alloc | apply Kd.R_drewN | apply Kd.R_drew)); exact (Kd.R_mono (Kd.R_far (p := ⟨gb589, 0, none⟩) (Kd.R_types HO587.out BK589.out (by decide)) (fun _ hk => hk.2) (.slice Ao31 t585.length co31)) (fun _ h_ => h_.1))) hb); have n5_ := Aside0.mk (Kd.S_lower (Kd.S_new' ho0 (Kd.R_lt (by (with_reducible repeat (first | apply Kd.R_alloc | apply Kd.R_drewN | apply Kd.R_drew)); exact (Kd.R_mono (Kd.R_far (p := ⟨gb589, 0, none⟩) (Kd.R_types HO579.out BK589.out (by decide)) (fun _ hk => hk.2) (.slice Ao31 t585.length co31)) (fun _ h_ => h_.1))))) (below_size (by repeat (first | (with_reducible first | exact HB.out | apply below_alloc | apply pw_below_drewN | apply below_drew1 | refine below_set ?_ GE576.out | refine below_set ?_ GE584.out | refine below_set ?_ GE589.out) | exact HB.out)))); have n6_ := Aside0.mk (blk_below (g := gb576) (o := .cells #[.slice Ao19 t573.length co19] 29 (0, 0)) (by (with_reducible repeat (first | refine blk_drewN ?_ _ | refine blk_drew ?_ | refine blk_alloc ?_ _)); refine blk_far ?_ NB576_589.out _; (with_reducible repeat (first | refine blk_drewN ?_ _ | refine blk_drew ?_ | refine blk_alloc ?_ _)); exact BK576.out) hb); have n7_ := Aside0.mk (blk_below (g := gb584) (o := .cells #[.slice Ao26 t580.length co26] 29 (0, 0)) (by (with_reducible repeat (first | refine blk_drewN ?_ _ | refine blk_drew ?_ | refine blk_alloc ?_ _)); refine blk_far ?_ NB584_589.out _; (with_reducible repeat (first | refine blk_drewN ?_ _ | refine blk_drew ?_ | refine blk_alloc ?_ _)); exact BK584.out) hb); have n8_ := Aside0.mk (blk_below (g := gb589) (o := .cells #[.slice Ao31 t585.length co31] 29 (0, 0)) (by (with_reducible repeat (first | refine blk_drewN ?_ _ | refine blk_drew ?_ | refine blk_alloc ?_ _)); refine blk_put (cs := #[.slice none 0 0]) ?_ 0 _ rfl; (with_reducible repeat (first | refine blk_drewN ?_ _ | refine blk_drew ?_ | refine blk_alloc ?_ _)); exact BK589.out) hb); have n9_ := Aside0.mk (below_step (by repeat (first | (with_reducible first | exact HB.out | apply below_alloc | apply pw_below_drewN | apply below_drew1 | refine below_set ?_ GE576.out | refine below_set ?_ GE584.out | refine below_set ?_ GE589.out) | exact HB.out)) hb); clear HO572; clear HO575; clear HO579; clear HO582; clear HO587; clear BK576; clear BK584; clear BK589; clear HB; have HO572 := n0_; have HO575 := n1_; have HO579 := n2_; have HO582 := n3_; have HO587 := n4_; have HO592 := n5_; have BK576 := n6_; have BK584 := n7_; have BK589 := n8_; have HB := n9_; clear n0_ n1_ n2_ n3_ n4_ n5_ n6_ n7_ n8_ n9_; (try clear hb); (try clear hb2); (try clear hk); (try clear hi); (try clear ho0); have hcz37_0 : w36.cell? ⟨gb576, 0, none⟩ = some (.slice Ao19 t573.length co19) := (blk_cell BK576.out 0).trans rfl; have hfz37_0 := blk_frozen BK576.out 0) | ((with_reducible refine gate_callee (f := 15) rfl ?_); refine goesL_ (some 54) rfl rfl Tryd.func15 (by kernel_rfl) rfl #[.agg #[.slice Ao19 t573.length co19], .slice Ao23 t577.length co23] rfl (by (try simp only [List.map_toArray, List.map_cons, List.map_nil]); first | done | rfl | (simp only [List.length_drop, List.length_take]; rfl)) ?_; (with_reducible refine (fill_Bags.calls (hTb := (by first | exact HTAB.out | exact tab_drewN HTAB.out _ | exact tab_below HTAB.out (by repeat (first | (with_reducible first | exact HB.out | apply below_alloc | apply pw_below_drewN | apply below_drew1 | refine below_set ?_ GE576.out | refine below_set ?_ GE584.out | refine below_set ?_ GE589.out) | exact HB.out)))) _ _ t573 _ _ t577 t594 t597 _ ?side1 ?side2 ?side3 ?side4 A11.out).mono ?_); (case side1 => repeat (first | exact (Kd.R_reads' HO575.out).2.2 | (with_reducible refine Kd.C_alloc ?_ _) | (with_reducible refine Kd.C_drewN ?_ _) | (with_reducible refine Kd.C_drew ?_))); (case side2 => exact (Kd.R_reads' HO575.out).2.1); (case side3 => repeat (first | exact (Kd.R_reads' HO579.out).2.2 | (with_reducible refine Kd.C_alloc ?_ _) | (with_reducible refine Kd.C_drewN ?_ _) | (with_reducible refine Kd.C_drew ?_))); (case side4 => exact (Kd.R_reads' HO579.out).2.1); rintro e w38 ⟨v595, rfl, ho0, hb⟩; refine ⟨_, rfl, ?_⟩; have n0_ := Aside0.mk (Kd.S_below (by (with_reducible repeat (first | apply Kd.S_alloc | apply Kd.S_drewN | apply Kd.S_drew)); exact HO572.out) hb); have n1_ := Aside0.mk (Kd.R_below (by (with_reducible repeat (first | apply Kd.R_alloc | apply Kd.R_drewN | apply Kd.R_drew)); exact HO575.out) hb); have n2_ := Aside0.mk (Kd.R_below (by (with_reducible repeat (first | apply Kd.R_alloc | apply Kd.R_drewN | apply Kd.R_drew)); exact HO579.out) hb); have n3_ := Aside0.mk (Kd.R_below (by (with_reducible repeat (first | apply Kd.R_alloc | apply Kd.R_drewN | apply Kd.R_drew)); exact HO582.out) hb); have n4_ := Aside0.mk (Kd.R_below (by (with_reducible repeat (first | apply Kd.R_alloc | apply Kd.R_drewN | apply Kd.R_drew)); exact HO587.out) hb); have n5_ := Aside0.mk (Kd.S_elder' (by (with_reducible repeat (first | apply Kd.S_alloc | apply Kd.S_drewN | apply Kd.S_drew)); exact HO592.out) (Kd.S_base ho0) hb); have n6_ := Aside0.mk (Kd.S_lower (Kd.S_new' (Kd.S_new' ho0 (Kd.R_lt (by (with_reducible repeat (first | apply Kd.R_alloc | apply Kd.R_drewN | apply Kd.R_drew)); exact HO579.out))) (Kd.S_lt (by (with_reducible repeat (first | apply Kd.S_alloc | apply Kd.S_drewN | apply Kd.S_drew)); exact HO592.out))) (below_size (by repeat (first | (with_reducible first | exact HB.out | apply below_alloc | apply pw_below_drewN | apply below_drew1 | refine below_set ?_ GE576.out | refine below_set ?_ GE584.out | refine below_set ?_ GE589.out) | exact HB.out)))); have n7_ := Aside0.mk (blk_below (g := gb576) (o := .cells #[.slice Ao19 t573.length co19] 29 (0, 0)) (by (with_reducible repeat (first | refine blk_drewN ?_ _ | refine blk_drew ?_ | refine blk_alloc ?_ _)); exact BK576.out) hb); have n8_ := Aside0.mk (blk_below (g := gb584) (o := .cells #[.slice Ao26 t580.length co26] 29 (0, 0)) (by (with_reducible repeat (first | refine blk_drewN ?_ _ | refine blk_drew ?_ | refine blk_alloc ?_ _)); exact BK584.out) hb); have n9_ := Aside0.mk (blk_below (g := gb589) (o := .cells #[.slice Ao31 t585.length co31] 29 (0, 0)) (by (with_reducible repeat (first | refine blk_drewN ?_ _ | refine blk_drew ?_ | refine blk_alloc ?_ _)); exact BK589.out) hb); have n10_ := Aside0.mk (below_step (by repeat (first | (with_reducible first | exact HB.out | apply below_alloc | apply pw_below_drewN | apply below_drew1 | refine below_set ?_ GE576.out | refine below_set ?_ GE584.out | refine below_set ?_ GE589.out) | exact HB.out)) hb); clear HO572; clear HO575; clear HO579; clear HO582; clear HO587; clear HO592; clear BK576; clear BK584; clear BK589; clear HB; have HO572 := n0_; have HO575 := n1_; have HO579 := n2_; have HO582 := n3_; have HO587 := n4_; have HO592 := n5_; have HO596 := n6_; have BK576 := n7_; have BK584 := n8_; have BK589 := n9_; have HB := n10_; clear n0_ n1_ n2_ n3_ n4_ n5_ n6_ n7_ n8_ n9_ n10_; (try clear hb); (try clear hb2); (try clear hk); (try clear hi); (try clear ho0); have hcz39_0 : w38.cell? ⟨gb584, 0, none⟩ = some (.slice Ao26 t580.length co26) := (blk_cell BK584.out 0).trans rfl; have hfz39_0 := blk_frozen BK584.out 0) | ((with_reducible refine gate_callee (f := 25) rfl ?_); refine goesL_ (some 59) rfl rfl Tryd.func25 (by kernel_rfl) rfl #[.agg #[.slice Ao26 t580.length co26]] rfl (by (try simp only [List.map_toArray, List.map_cons, List.map_nil]); first | done | rfl | (simp only [List.length_drop, List.length_take]; rfl)) ?_; (with_reducible refine (arboristref08_Truths.calls k _ _ t580 t598 t601 _ ?side1 ?side2 A12.out).mono ?_); (case side1 => repeat (first | exact (Kd.R_reads' HO582.out).2.2 | (with_reducible refine Kd.C_alloc ?_ _) | (with_reducible refine Kd.C_drewN ?_ _) | (with_reducible refine Kd.C_drew ?_))); (case side2 => exact (Kd.R_reads' HO582.out).2.1); rintro e w40 ⟨v599, rfl, ho0, hb⟩; refine ⟨_, rfl, ?_⟩; have n0_ := Aside0.mk (Kd.S_elder' (by (with_reducible repeat (first | apply Kd.S_alloc | apply Kd.S_drewN | apply Kd.S_drew)); exact HO572.out) (Kd.S_base ho0) hb); have n1_ := Aside0.mk (Kd.R_below (by (with_reducible repeat (first | apply Kd.R_alloc | apply Kd.R_drewN | apply Kd.R_drew)); exact HO575.out) hb); have n2_ := Aside0.mk (Kd.R_below (by (with_reducible repeat (first | apply Kd.R_alloc | apply Kd.R_drewN | apply Kd.R_drew)); exact HO579.out) hb); have n3_ := Aside0.mk (Kd.R_below (by (with_reducible repeat (first | apply Kd.R_alloc | apply Kd.R_drewN | apply Kd.R_drew)); exact HO582.out) hb); have n4_ := Aside0.mk (Kd.R_below (by (with_reducible repeat (first | apply Kd.R_alloc | apply Kd.R_drewN | apply Kd.R_drew)); exact HO587.out) hb); have n5_ := Aside0.mk (Kd.S_below (by (with_reducible repeat (first | apply Kd.S_alloc | apply Kd.S_drewN | apply Kd.S_drew)); exact HO592.out) hb); have n6_ := Aside0.mk (Kd.S_below (by (with_reducible repeat (first | apply Kd.S_alloc | apply Kd.S_drewN | apply Kd.S_drew)); exact HO596.out) hb); have n7_ := Aside0.mk (Kd.S_lower (Kd.S_new' ho0 (Kd.S_lt (by (with_reducible repeat (first | apply Kd.S_alloc | apply Kd.S_drewN | apply Kd.S_drew)); exact HO572.out))) (below_size (by repeat (first | (with_reducible first | exact HB.out | apply below_alloc | apply pw_below_drewN | apply below_drew1 | refine below_set ?_ GE576.out | refine below_set ?_ GE584.out | refine below_set ?_ GE589.out) | exact HB.out)))); have n8_ := Aside0.mk (blk_below (g := gb576) (o := .cells #[.slice Ao19 t573.length co19] 29 (0, 0)) (by (with_reducible repeat (first | refine blk_drewN ?_ _ | refine blk_drew ?_ | refine blk_alloc ?_ _)); exact BK576.out) hb); have n9_ := Aside0.mk (blk_below (g := gb584) (o := .cells #[.slice Ao26 t580.length co26] 29 (0, 0)) (by (with_reducible repeat (first | refine blk_drewN ?_ _ | refine blk_drew ?_ | refine blk_alloc ?_ _)); exact BK584.out) hb); have n10_ := Aside0.mk (blk_below (g := gb589) (o := .cells #[.slice Ao31 t585.length co31] 29 (0, 0)) (by (with_reducible repeat (first | refine blk_drewN ?_ _ | refine blk_drew ?_ | refine blk_alloc ?_ _)); exact BK589.out) hb); have n11_ := Aside0.mk (below_step (by repeat (first | (with_reducible first | exact HB.out | apply below_alloc | apply pw_below_drewN | apply below_drew1 | refine below_set ?_ GE576.out | refine below_set ?_ GE584.out | refine below_set ?_ GE589.out) | exact HB.out)) hb); clear HO572; clear HO575; clear HO579; clear HO582; clear HO587; clear HO592; clear HO596; clear BK576; clear BK584; clear BK589; clear HB; have HO572 := n0_; have HO575 := n1_; have HO579 := n2_; have HO582 := n3_; have HO587 := n4_; have HO592 := n5_; have HO596 := n6_; have HO600 := n7_; have BK576 := n8_; have BK584 := n9_; have BK589 := n10_; have HB := n11_; clear n0_ n1_ n2_ n3_ n4_ n5_ n6_ n7_ n8_ n9_ n10_ n11_; (try clear hb); (try clear hb2); (try clear hk); (try clear hi); (try clear ho0)))
  (try simp only [Act.put, List.setIfInBounds_toArray, List.set_cons_zero, List.set_cons_succ])
  go_cut [91] (fun v91 wc => ∃ (kq : Nat) (x91_12 : Bool), v91 = .bool x91_12 ∧ Aside0 (arboristlaw10_FillOnce.j0 kq t569 t590 t598 x91_12 t580 = some r) ∧ Aside0 (kq ≤ k) ∧ Aside0 (Kd.S (Kd.slice 3 (Kd.int .i64)) 23 wc w.heap.size (fun _ => True) v591 t590) ∧ Aside0 (Kd.S (Kd.slice 4 Kd.bool) 55 wc w.heap.size (fun _ => True) v599 t598) ∧ Aside0 (Kd.R (Kd.int .u64) 61 wc w.heap.size (fun k_ => some k_ ≠ ((.slice Ao26 t580.length co26) : Value).ownBlock ∧ some k_ ≠ ((.slice Ao31 t585.length co31) : Value).ownBlock) (.slice Ao19 t573.length co19) t573) ∧ Aside0 (Kd.R (Kd.int .u64) 61 wc w.heap.size (fun k_ => some k_ ≠ ((.slice Ao19 t573.length co19) : Value).ownBlock ∧ some k_ ≠ ((.slice Ao31 t585.length co31) : Value).ownBlock) (.slice Ao26 t580.length co26) t580) ∧ Aside0 (Kd.R (Kd.int .u64) 61 wc w.heap.size (fun k_ => some k_ ≠ ((.slice Ao19 t573.length co19) : Value).ownBlock ∧ some k_ ≠ ((.slice Ao26 t580.length co26) : Value).ownBlock) (.slice Ao31 t585.length co31) t585) ∧ Aside0 (wc.heap[gb576]? = some (.cells #[(.slice Ao19 t573.length co19)] 29 (0, 0))) ∧ Aside0 (wc.heap[gb584]? = some (.cells #[(.slice Ao26 t580.length co26)] 29 (0, 0))) ∧ Aside0 (wc.heap[gb589]? = some (.cells #[(.slice Ao31 t585.length co31)] 29 (0, 0))) ∧ Aside0 (Below w.heap.size w wc))
  case first =>
    have H := HC13.out
    clear HC13
    by_cases c41 : t583 = 0
    · rw [if_pos c41] at H
      have c41b0 : (t583 == 0) = true := beq_iff_eq.mpr c41
      have c41b1 : (t583 != 0) = false := bne_eq_false_iff_eq.mpr c41
      clear c41
      (first | rw [c41b0] | (simp only [i64_w, i32_w]; rw [c41b0]) | skip)
      by_cases c42 : t588 = 0
      · rw [if_pos c42] at H
        have c42b0 : (t588 == 0) = true := beq_iff_eq.mpr c42
        have c42b1 : (t588 != 0) = false := bne_eq_false_iff_eq.mpr c42
        clear c42
        by_cases c43 : t593 = 0
        · rw [if_pos c43] at H
          have c43b0 : (t593 == 0) = true := beq_iff_eq.mpr c43
          have c43b1 : (t593 != 0) = false := bne_eq_false_iff_eq.mpr c43
          clear c43
          by_cases c44 : t597 = 0
          · rw [if_pos c44] at H
            have c44b0 : (t597 == 0) = true := beq_iff_eq.mpr c44
            have c44b1 : (t597 != 0) = false := bne_eq_false_iff_eq.mpr c44
            clear c44
            by_cases c45 : t601 = true
            · subst c45
              have H1 : ((arboristlaw10_alike.f k t585 t598).bind fun t602 => (if t602 = true then ((arboristlaw10_same.f k t590 t594).bind fun t603 => (arboristlaw10_FillOnce.j0 k t569 t590 t598 (!t603) t580)) else (arboristlaw10_FillOnce.j0 k t569 t590 t598 true t580))) = some r := by rw [if_pos rfl] at H; exact H
              clear H
              have H := H1
              clear H1
              replace H := Option.bind_eq_some_iff.mp H
              obtain ⟨t602, A460, H⟩ := H
              replace H : (if t602 = true then ((arboristlaw10_same.f k t590 t594).bind fun t603 => (arboristlaw10_FillOnce.j0 k t569 t590 t598 (!t603) t580)) else (arboristlaw10_FillOnce.j0 k t569 t590 t598 true t580)) = some r := H
              have A46 := Aside0.mk A460
              clear A460
              by_cases c47 : t602 = true
              · subst c47
                have H1 : ((arboristlaw10_same.f k t590 t594).bind fun t603 => (arboristlaw10_FillOnce.j0 k t569 t590 t598 (!t603) t580)) = some r := by rw [if_pos rfl] at H; exact H
                clear H
                have H := H1
                clear H1
                replace H := Option.bind_eq_some_iff.mp H
                obtain ⟨t603, A480, H⟩ := H
                replace H : (arboristlaw10_FillOnce.j0 k t569 t590 t598 (!t603) t580) = some r := H
                have A48 := Aside0.mk A480
                clear A480
                have H' := Aside0.mk H
                clear H
                have hnb49 := NB589_576.out
                have hnc49 := NB576_589.out
                have hnb50 := NB589_584.out
                have hnc50 := NB584_589.out
                have hcz51_0 : w40.cell? ⟨gb589, 0, none⟩ = some (.slice Ao31 t585.length co31) := (blk_cell BK589.out 0).trans rfl
                have hfz51_0 := blk_frozen BK589.out 0
                obtain ⟨Ao52, co52, eo52⟩ := Kd.S_slice HO600.out
                subst eo52
                go_wp2_with (first | (go_at_call 22; (with_reducible refine (arboristlaw10_alike.calls k _ _ t585 _ _ t598 true _ ?side1 ?side2 ?side3 ?side4 A46.out).mono ?_); (case side1 => repeat (first | exact (Kd.R_reads' HO587.out).2.2 | (with_reducible refine Kd.C_alloc ?_ _) | (with_reducible refine Kd.C_drewN ?_ _) | (with_reducible refine Kd.C_drew ?_))); (case side2 => exact (Kd.R_reads' HO587.out).2.1); (case side3 => repeat (first | exact (Kd.S_reads' HO600.out).2.2 | (with_reducible refine Kd.C_alloc ?_ _) | (with_reducible refine Kd.C_drewN ?_ _) | (with_reducible refine Kd.C_drew ?_))); (case side4 => exact (Kd.S_reads' HO600.out).2.1); rintro e w53 ⟨rfl, hb⟩; have n0_ := Aside0.mk (Kd.S_below (by (with_reducible repeat (first | apply Kd.S_alloc | apply Kd.S_drewN | apply Kd.S_drew)); exact HO572.out) hb); have n1_ := Aside0.mk (Kd.R_below (by (with_reducible repeat (first | apply Kd.R_alloc | apply Kd.R_drewN | apply Kd.R_drew)); exact HO575.out) hb); have n2_ := Aside0.mk (Kd.R_below (by (with_reducible repeat (first | apply Kd.R_alloc | apply Kd.R_drewN | apply Kd.R_drew)); exact HO579.out) hb); have n3_ := Aside0.mk (Kd.R_below (by (with_reducible repeat (first | apply Kd.R_alloc | apply Kd.R_drewN | apply Kd.R_drew)); exact HO582.out) hb); have n4_ := Aside0.mk (Kd.R_below (by (with_reducible repeat (first | apply Kd.R_alloc | apply Kd.R_drewN | apply Kd.R_drew)); exact HO587.out) hb); have n5_ := Aside0.mk (Kd.S_below (by (with_reducible repeat (first | apply Kd.S_alloc | apply Kd.S_drewN | apply Kd.S_drew)); exact HO592.out) hb); have n6_ := Aside0.mk (Kd.S_below (by (with_reducible repeat (first | apply Kd.S_alloc | apply Kd.S_drewN | apply Kd.S_drew)); exact HO596.out) hb); have n7_ := Aside0.mk (Kd.S_below (by (with_reducible repeat (first | apply Kd.S_alloc | apply Kd.S_drewN | apply Kd.S_drew)); exact HO600.out) hb); have n8_ := Aside0.mk (blk_below (g := gb576) (o := .cells #[.slice Ao19 t573.length co19] 29 (0, 0)) (by (with_reducible repeat (first | refine blk_drewN ?_ _ | refine blk_drew ?_ | refine blk_alloc ?_ _)); exact BK576.out) hb); have n9_ := Aside0.mk (blk_below (g := gb584) (o := .cells #[.slice Ao26 t580.length co26] 29 (0, 0)) (by (with_reducible repeat (first | refine blk_drewN ?_ _ | refine blk_drew ?_ | refine blk_alloc ?_ _)); exact BK584.out) hb); have n10_ := Aside0.mk (blk_below (g := gb589) (o := .cells #[.slice Ao31 t585.length co31] 29 (0, 0)) (by (with_reducible repeat (first | refine blk_drewN ?_ _ | refine blk_drew ?_ | refine blk_alloc ?_ _)); exact BK589.out) hb); have n11_ := Aside0.mk (below_step (by repeat (first | (with_reducible first | exact HB.out | apply below_alloc | apply pw_below_drewN | apply below_drew1 | refine below_set ?_ GE576.out | refine below_set ?_ GE584.out | refine below_set ?_ GE589.out) | exact HB.out)) hb); clear HO572; clear HO575; clear HO579; clear HO582; clear HO587; clear HO592; clear HO596; clear HO600; clear BK576; clear BK584; clear BK589; clear HB; have HO572 := n0_; have HO575 := n1_; have HO579 := n2_; have HO582 := n3_; have HO587 := n4_; have HO592 := n5_; have HO596 := n6_; have HO600 := n7_; have BK576 := n8_; have BK584 := n9_; have BK589 := n10_; have HB := n11_; clear n0_ n1_ n2_ n3_ n4_ n5_ n6_ n7_ n8_ n9_ n10_ n11_; (try clear hb); (try clear hb2); (try clear hk); (try clear hi); obtain ⟨Ao54, co54, eo54⟩ := Kd.S_slice HO592.out; subst eo54; obtain ⟨Ao55, co55, eo55⟩ := Kd.S_slice HO596.out; subst eo55) | (go_at_call 21; (with_reducible refine (arboristlaw10_same.calls k _ _ t590 _ _ t594 t603 _ ?side1 ?side2 ?side3 ?side4 A48.out).mono ?_); (case side1 => repeat (first | exact (Kd.S_reads' HO592.out).2.2 | (with_reducible refine Kd.C_alloc ?_ _) | (with_reducible refine Kd.C_drewN ?_ _) | (with_reducible refine Kd.C_drew ?_))); (case side2 => exact (Kd.S_reads' HO592.out).2.1); (case side3 => repeat (first | exact (Kd.S_reads' HO596.out).2.2 | (with_reducible refine Kd.C_alloc ?_ _) | (with_reducible refine Kd.C_drewN ?_ _) | (with_reducible refine Kd.C_drew ?_))); (case side4 => exact (Kd.S_reads' HO596.out).2.1); rintro e w' ⟨rfl, ⟨nd, rfl⟩⟩))
                go_meet
                case rel => exact ⟨_, (!t603), (by first | rfl | (simp; done) | (simp [*]; done)), H', ⟨by first | omega | exact Nat.le_refl _⟩, ⟨by (with_reducible repeat (first | apply Kd.S_alloc | apply Kd.S_drewN | apply Kd.S_drew)); exact Kd.S_mono HO592.out (fun _ hk => trivial)⟩, ⟨by (with_reducible repeat (first | apply Kd.S_alloc | apply Kd.S_drewN | apply Kd.S_drew)); exact Kd.S_mono HO600.out (fun _ hk => trivial)⟩, ⟨by (with_reducible repeat (first | apply Kd.R_alloc | apply Kd.R_drewN | apply Kd.R_drew)); exact Kd.R_mono HO575.out (fun _ hk => ⟨hk.1.2, hk.2⟩)⟩, ⟨by (with_reducible repeat (first | apply Kd.R_alloc | apply Kd.R_drewN | apply Kd.R_drew)); exact Kd.R_mono HO582.out (fun _ hk => ⟨hk.1.2, hk.2⟩)⟩, ⟨by (with_reducible repeat (first | apply Kd.R_alloc | apply Kd.R_drewN | apply Kd.R_drew)); exact Kd.R_mono HO587.out (fun _ hk => ⟨hk.1.2, hk.2⟩)⟩, ⟨by (with_reducible repeat (first | refine blk_drewN ?_ _ | refine blk_drew ?_ | refine blk_alloc ?_ _)); exact BK576.out⟩, ⟨by (with_reducible repeat (first | refine blk_drewN ?_ _ | refine blk_drew ?_ | refine blk_alloc ?_ _)); exact BK584.out⟩, ⟨by (with_reducible repeat (first | refine blk_drewN ?_ _ | refine blk_drew ?_ | refine blk_alloc ?_ _)); exact BK589.out⟩, ⟨by repeat (first | (with_reducible first | exact HB.out | apply below_alloc | apply pw_below_drewN | apply below_drew1 | refine below_set ?_ GE576.out | refine below_set ?_ GE584.out | refine below_set ?_ GE589.out) | exact HB.out)⟩⟩
              · replace c47 := Bool.eq_false_iff.mpr c47
                subst c47
                have H1 : (arboristlaw10_FillOnce.j0 k t569 t590 t598 true t580) = some r := by rw [if_neg (show ¬ (false = true) by decide)] at H; exact H
                clear H
                have H := H1
                clear H1
                have H' := Aside0.mk H
                clear H
                have hnb56 := NB589_576.out
                have hnc56 := NB576_589.out
                have hnb57 := NB589_584.out
                have hnc57 := NB584_589.out
                have hcz58_0 : w40.cell? ⟨gb589, 0, none⟩ = some (.slice Ao31 t585.length co31) := (blk_cell BK589.out 0).trans rfl
                have hfz58_0 := blk_frozen BK589.out 0
                obtain ⟨Ao59, co59, eo59⟩ := Kd.S_slice HO600.out
                subst eo59
                go_wp2_with (first | (go_at_call 22; (with_reducible refine (arboristlaw10_alike.calls k _ _ t585 _ _ t598 false _ ?side1 ?side2 ?side3 ?side4 A46.out).mono ?_); (case side1 => repeat (first | exact (Kd.R_reads' HO587.out).2.2 | (with_reducible refine Kd.C_alloc ?_ _) | (with_reducible refine Kd.C_drewN ?_ _) | (with_reducible refine Kd.C_drew ?_))); (case side2 => exact (Kd.R_reads' HO587.out).2.1); (case side3 => repeat (first | exact (Kd.S_reads' HO600.out).2.2 | (with_reducible refine Kd.C_alloc ?_ _) | (with_reducible refine Kd.C_drewN ?_ _) | (with_reducible refine Kd.C_drew ?_))); (case side4 => exact (Kd.S_reads' HO600.out).2.1); rintro e w60 ⟨rfl, hb⟩; have n0_ := Aside0.mk (Kd.S_below (by (with_reducible repeat (first | apply Kd.S_alloc | apply Kd.S_drewN | apply Kd.S_drew)); exact HO572.out) hb); have n1_ := Aside0.mk (Kd.R_below (by (with_reducible repeat (first | apply Kd.R_alloc | apply Kd.R_drewN | apply Kd.R_drew)); exact HO575.out) hb); have n2_ := Aside0.mk (Kd.R_below (by (with_reducible repeat (first | apply Kd.R_alloc | apply Kd.R_drewN | apply Kd.R_drew)); exact HO579.out) hb); have n3_ := Aside0.mk (Kd.R_below (by (with_reducible repeat (first | apply Kd.R_alloc | apply Kd.R_drewN | apply Kd.R_drew)); exact HO582.out) hb); have n4_ := Aside0.mk (Kd.R_below (by (with_reducible repeat (first | apply Kd.R_alloc | apply Kd.R_drewN | apply Kd.R_drew)); exact HO587.out) hb); have n5_ := Aside0.mk (Kd.S_below (by (with_reducible repeat (first | apply Kd.S_alloc | apply Kd.S_drewN | apply Kd.S_drew)); exact HO592.out) hb); have n6_ := Aside0.mk (Kd.S_below (by (with_reducible repeat (first | apply Kd.S_alloc | apply Kd.S_drewN | apply Kd.S_drew)); exact HO596.out) hb); have n7_ := Aside0.mk (Kd.S_below (by (with_reducible repeat (first | apply Kd.S_alloc | apply Kd.S_drewN | apply Kd.S_drew)); exact HO600.out) hb); have n8_ := Aside0.mk (blk_below (g := gb576) (o := .cells #[.slice Ao19 t573.length co19] 29 (0, 0)) (by (with_reducible repeat (first | refine blk_drewN ?_ _ | refine blk_drew ?_ | refine blk_alloc ?_ _)); exact BK576.out) hb); have n9_ := Aside0.mk (blk_below (g := gb584) (o := .cells #[.slice Ao26 t580.length co26] 29 (0, 0)) (by (with_reducible repeat (first | refine blk_drewN ?_ _ | refine blk_drew ?_ | refine blk_alloc ?_ _)); exact BK584.out) hb); have n10_ := Aside0.mk (blk_below (g := gb589) (o := .cells #[.slice Ao31 t585.length co31] 29 (0, 0)) (by (with_reducible repeat (first | refine blk_drewN ?_ _ | refine blk_drew ?_ | refine blk_alloc ?_ _)); exact BK589.out) hb); have n11_ := Aside0.mk (below_step (by repeat (first | (with_reducible first | exact HB.out | apply below_alloc | apply pw_below_drewN | apply below_drew1 | refine below_set ?_ GE576.out | refine below_set ?_ GE584.out | refine below_set ?_ GE589.out) | exact HB.out)) hb); clear HO572; clear HO575; clear HO579; clear HO582; clear HO587; clear HO592; clear HO596; clear HO600; clear BK576; clear BK584; clear BK589; clear HB; have HO572 := n0_; have HO575 := n1_; have HO579 := n2_; have HO582 := n3_; have HO587 := n4_; have HO592 := n5_; have HO596 := n6_; have HO600 := n7_; have BK576 := n8_; have BK584 := n9_; have BK589 := n10_; have HB := n11_; clear n0_ n1_ n2_ n3_ n4_ n5_ n6_ n7_ n8_ n9_ n10_ n11_; (try clear hb); (try clear hb2); (try clear hk); (try clear hi)))
                go_meet
                case rel => exact ⟨_, (true), (by first | rfl | (simp; done) | (simp [*]; done)), H', ⟨by first | omega | exact Nat.le_refl _⟩, ⟨by (with_reducible repeat (first | apply Kd.S_alloc | apply Kd.S_drewN | apply Kd.S_drew)); exact Kd.S_mono HO592.out (fun _ hk => trivial)⟩, ⟨by (with_reducible repeat (first | apply Kd.S_alloc | apply Kd.S_drewN | apply Kd.S_drew)); exact Kd.S_mono HO600.out (fun _ hk => trivial)⟩, ⟨by (with_reducible repeat (first | apply Kd.R_alloc | apply Kd.R_drewN | apply Kd.R_drew)); exact Kd.R_mono HO575.out (fun _ hk => ⟨hk.1.2, hk.2⟩)⟩, ⟨by (with_reducible repeat (first | apply Kd.R_alloc | apply Kd.R_drewN | apply Kd.R_drew)); exact Kd.R_mono HO582.out (fun _ hk => ⟨hk.1.2, hk.2⟩)⟩, ⟨by (with_reducible repeat (first | apply Kd.R_alloc | apply Kd.R_drewN | apply Kd.R_drew)); exact Kd.R_mono HO587.out (fun _ hk => ⟨hk.1.2, hk.2⟩)⟩, ⟨by (with_reducible repeat (first | refine blk_drewN ?_ _ | refine blk_drew ?_ | refine blk_alloc ?_ _)); exact BK576.out⟩, ⟨by (with_reducible repeat (first | refine blk_drewN ?_ _ | refine blk_drew ?_ | refine blk_alloc ?_ _)); exact BK584.out⟩, ⟨by (with_reducible repeat (first | refine blk_drewN ?_ _ | refine blk_drew ?_ | refine blk_alloc ?_ _)); exact BK589.out⟩, ⟨by repeat (first | (with_reducible first | exact HB.out | apply below_alloc | apply pw_below_drewN | apply below_drew1 | refine below_set ?_ GE576.out | refine below_set ?_ GE584.out | refine below_set ?_ GE589.out) | exact HB.out)⟩⟩
            · replace c45 := Bool.eq_false_iff.mpr c45
              subst c45
              have H1 : (arboristlaw10_FillOnce.j0 k t569 t590 t598 true t580) = some r := by rw [if_neg (show ¬ (false = true) by decide)] at H; exact H
              clear H
              have H := H1
              clear H1
              have H' := Aside0.mk H
              clear H
              go_wp2
              go_meet
              case rel => exact ⟨_, (true), (by first | rfl | (simp; done) | (simp [*]; done)), H', ⟨by first | omega | exact Nat.le_refl _⟩, ⟨by (with_reducible repeat (first | apply Kd.S_alloc | apply Kd.S_drewN | apply Kd.S_drew)); exact Kd.S_mono HO592.out (fun _ hk => trivial)⟩, ⟨by (with_reducible repeat (first | apply Kd.S_alloc | apply Kd.S_drewN | apply Kd.S_drew)); exact Kd.S_mono HO600.out (fun _ hk => trivial)⟩, ⟨by (with_reducible repeat (first | apply Kd.R_alloc | apply Kd.R_drewN | apply Kd.R_drew)); exact Kd.R_mono HO575.out (fun _ hk => ⟨hk.1.2, hk.2⟩)⟩, ⟨by (with_reducible repeat (first | apply Kd.R_alloc | apply Kd.R_drewN | apply Kd.R_drew)); exact Kd.R_mono HO582.out (fun _ hk => ⟨hk.1.2, hk.2⟩)⟩, ⟨by (with_reducible repeat (first | apply Kd.R_alloc | apply Kd.R_drewN | apply Kd.R_drew)); exact Kd.R_mono HO587.out (fun _ hk => ⟨hk.1.2, hk.2⟩)⟩, ⟨by (with_reducible repeat (first | refine blk_drewN ?_ _ | refine blk_drew ?_ | refine blk_alloc ?_ _)); exact BK576.out⟩, ⟨by (with_reducible repeat (first | refine blk_drewN ?_ _ | refine blk_drew ?_ | refine blk_alloc ?_ _)); exact BK584.out⟩, ⟨by (with_reducible repeat (first | refine blk_drewN ?_ _ | refine blk_drew ?_ | refine blk_alloc ?_ _)); exact BK589.out⟩, ⟨by repeat (first | (with_reducible first | exact HB.out | apply below_alloc | apply pw_below_drewN | apply below_drew1 | refine below_set ?_ GE576.out | refine below_set ?_ GE584.out | refine below_set ?_ GE589.out) | exact HB.out)⟩⟩
          · rw [if_neg c44] at H
            have c44b0 : (t597 == 0) = false := beq_eq_false_iff_ne.mpr c44
            have c44b1 : (t597 != 0) = true := bne_iff_ne.mpr c44
            have H' := Aside0.mk H
            clear H
            go_wp2
            go_meet
            case rel => exact ⟨_, (true), (by first | rfl | (simp; done) | (simp [*]; done)), H', ⟨by first | omega | exact Nat.le_refl _⟩, ⟨by (with_reducible repeat (first | apply Kd.S_alloc | apply Kd.S_drewN | apply Kd.S_drew)); exact Kd.S_mono HO592.out (fun _ hk => trivial)⟩, ⟨by (with_reducible repeat (first | apply Kd.S_alloc | apply Kd.S_drewN | apply Kd.S_drew)); exact Kd.S_mono HO600.out (fun _ hk => trivial)⟩, ⟨by (with_reducible repeat (first | apply Kd.R_alloc | apply Kd.R_drewN | apply Kd.R_drew)); exact Kd.R_mono HO575.out (fun _ hk => ⟨hk.1.2, hk.2⟩)⟩, ⟨by (with_reducible repeat (first | apply Kd.R_alloc | apply Kd.R_drewN | apply Kd.R_drew)); exact Kd.R_mono HO582.out (fun _ hk => ⟨hk.1.2, hk.2⟩)⟩, ⟨by (with_reducible repeat (first | apply Kd.R_alloc | apply Kd.R_drewN | apply Kd.R_drew)); exact Kd.R_mono HO587.out (fun _ hk => ⟨hk.1.2, hk.2⟩)⟩, ⟨by (with_reducible repeat (first | refine blk_drewN ?_ _ | refine blk_drew ?_ | refine blk_alloc ?_ _)); exact BK576.out⟩, ⟨by (with_reducible repeat (first | refine blk_drewN ?_ _ | refine blk_drew ?_ | refine blk_alloc ?_ _)); exact BK584.out⟩, ⟨by (with_reducible repeat (first | refine blk_drewN ?_ _ | refine blk_drew ?_ | refine blk_alloc ?_ _)); exact BK589.out⟩, ⟨by repeat (first | (with_reducible first | exact HB.out | apply below_alloc | apply pw_below_drewN | apply below_drew1 | refine below_set ?_ GE576.out | refine below_set ?_ GE584.out | refine below_set ?_ GE589.out) | exact HB.out)⟩⟩
        · rw [if_neg c43] at H
          have c43b0 : (t593 == 0) = false := beq_eq_false_iff_ne.mpr c43
          have c43b1 : (t593 != 0) = true := bne_iff_ne.mpr c43
          have H' := Aside0.mk H
          clear H
          go_wp2
          go_meet
          case rel => exact ⟨_, (true), (by first | rfl | (simp; done) | (simp [*]; done)), H', ⟨by first | omega | exact Nat.le_refl _⟩, ⟨by (with_reducible repeat (first | apply Kd.S_alloc | apply Kd.S_drewN | apply Kd.S_drew)); exact Kd.S_mono HO592.out (fun _ hk => trivial)⟩, ⟨by (with_reducible repeat (first | apply Kd.S_alloc | apply Kd.S_drewN | apply Kd.S_drew)); exact Kd.S_mono HO600.out (fun _ hk => trivial)⟩, ⟨by (with_reducible repeat (first | apply Kd.R_alloc | apply Kd.R_drewN | apply Kd.R_drew)); exact Kd.R_mono HO575.out (fun _ hk => ⟨hk.1.2, hk.2⟩)⟩, ⟨by (with_reducible repeat (first | apply Kd.R_alloc | apply Kd.R_drewN | apply Kd.R_drew)); exact Kd.R_mono HO582.out (fun _ hk => ⟨hk.1.2, hk.2⟩)⟩, ⟨by (with_reducible repeat (first | apply Kd.R_alloc | apply Kd.R_drewN | apply Kd.R_drew)); exact Kd.R_mono HO587.out (fun _ hk => ⟨hk.1.2, hk.2⟩)⟩, ⟨by (with_reducible repeat (first | refine blk_drewN ?_ _ | refine blk_drew ?_ | refine blk_alloc ?_ _)); exact BK576.out⟩, ⟨by (with_reducible repeat (first | refine blk_drewN ?_ _ | refine blk_drew ?_ | refine blk_alloc ?_ _)); exact BK584.out⟩, ⟨by (with_reducible repeat (first | refine blk_drewN ?_ _ | refine blk_drew ?_ | refine blk_alloc ?_ _)); exact BK589.out⟩, ⟨by repeat (first | (with_reducible first | exact HB.out | apply below_alloc | apply pw_below_drewN | apply below_drew1 | refine below_set ?_ GE576.out | refine below_set ?_ GE584.out | refine below_set ?_ GE589.out) | exact HB.out)⟩⟩
      · rw [if_neg c42] at H
        have c42b0 : (t588 == 0) = false := beq_eq_false_iff_ne.mpr c42
        have c42b1 : (t588 != 0) = true := bne_iff_ne.mpr c42
        have H' := Aside0.mk H
        clear H
        go_wp2
        go_meet
        case rel => exact ⟨_, (true), (by first | rfl | (simp; done) | (simp [*]; done)), H', ⟨by first | omega | exact Nat.le_refl _⟩, ⟨by (with_reducible repeat (first | apply Kd.S_alloc | apply Kd.S_drewN | apply Kd.S_drew)); exact Kd.S_mono HO592.out (fun _ hk => trivial)⟩, ⟨by (with_reducible repeat (first | apply Kd.S_alloc | apply Kd.S_drewN | apply Kd.S_drew)); exact Kd.S_mono HO600.out (fun _ hk => trivial)⟩, ⟨by (with_reducible repeat (first | apply Kd.R_alloc | apply Kd.R_drewN | apply Kd.R_drew)); exact Kd.R_mono HO575.out (fun _ hk => ⟨hk.1.2, hk.2⟩)⟩, ⟨by (with_reducible repeat (first | apply Kd.R_alloc | apply Kd.R_drewN | apply Kd.R_drew)); exact Kd.R_mono HO582.out (fun _ hk => ⟨hk.1.2, hk.2⟩)⟩, ⟨by (with_reducible repeat (first | apply Kd.R_alloc | apply Kd.R_drewN | apply Kd.R_drew)); exact Kd.R_mono HO587.out (fun _ hk => ⟨hk.1.2, hk.2⟩)⟩, ⟨by (with_reducible repeat (first | refine blk_drewN ?_ _ | refine blk_drew ?_ | refine blk_alloc ?_ _)); exact BK576.out⟩, ⟨by (with_reducible repeat (first | refine blk_drewN ?_ _ | refine blk_drew ?_ | refine blk_alloc ?_ _)); exact BK584.out⟩, ⟨by (with_reducible repeat (first | refine blk_drewN ?_ _ | refine blk_drew ?_ | refine blk_alloc ?_ _)); exact BK589.out⟩, ⟨by repeat (first | (with_reducible first | exact HB.out | apply below_alloc | apply pw_below_drewN | apply below_drew1 | refine below_set ?_ GE576.out | refine below_set ?_ GE584.out | refine below_set ?_ GE589.out) | exact HB.out)⟩⟩
    · rw [if_neg c41] at H
      have c41b0 : (t583 == 0) = false := beq_eq_false_iff_ne.mpr c41
      have c41b1 : (t583 != 0) = true := bne_iff_ne.mpr c41
      (first | rw [c41b0] | (simp only [i64_w, i32_w]; rw [c41b0]) | skip)
      have H' := Aside0.mk H
      clear H
      go_wp2
      go_meet
      case rel => exact ⟨_, (true), (by first | rfl | (simp; done) | (simp [*]; done)), H', ⟨by first | omega | exact Nat.le_refl _⟩, ⟨by (with_reducible repeat (first | apply Kd.S_alloc | apply Kd.S_drewN | apply Kd.S_drew)); exact Kd.S_mono HO592.out (fun _ hk => trivial)⟩, ⟨by (with_reducible repeat (first | apply Kd.S_alloc | apply Kd.S_drewN | apply Kd.S_drew)); exact Kd.S_mono HO600.out (fun _ hk => trivial)⟩, ⟨by (with_reducible repeat (first | apply Kd.R_alloc | apply Kd.R_drewN | apply Kd.R_drew)); exact Kd.R_mono HO575.out (fun _ hk => ⟨hk.1.2, hk.2⟩)⟩, ⟨by (with_reducible repeat (first | apply Kd.R_alloc | apply Kd.R_drewN | apply Kd.R_drew)); exact Kd.R_mono HO582.out (fun _ hk => ⟨hk.1.2, hk.2⟩)⟩, ⟨by (with_reducible repeat (first | apply Kd.R_alloc | apply Kd.R_drewN | apply Kd.R_drew)); exact Kd.R_mono HO587.out (fun _ hk => ⟨hk.1.2, hk.2⟩)⟩, ⟨by (with_reducible repeat (first | refine blk_drewN ?_ _ | refine blk_drew ?_ | refine blk_alloc ?_ _)); exact BK576.out⟩, ⟨by (with_reducible repeat (first | refine blk_drewN ?_ _ | refine blk_drew ?_ | refine blk_alloc ?_ _)); exact BK584.out⟩, ⟨by (with_reducible repeat (first | refine blk_drewN ?_ _ | refine blk_drew ?_ | refine blk_alloc ?_ _)); exact BK589.out⟩, ⟨by repeat (first | (with_reducible first | exact HB.out | apply below_alloc | apply pw_below_drewN | apply below_drew1 | refine below_set ?_ GE576.out | refine below_set ?_ GE584.out | refine below_set ?_ GE589.out) | exact HB.out)⟩⟩
  case rest =>
    clear HC13
    try clear c1
    try clear c2
    try clear p2
    try clear c3
    try clear c4
    try clear c5
    try clear c10
    try clear c11
    try clear c12
    try clear c13
    try clear c14
    try clear c15
    try clear c25
    try clear c27
    try clear c32
    try clear c33
    try clear c41
    try clear c41b0
    try clear c41b1
    try clear c42
    try clear c42b0
    try clear c42b1
    try clear c43
    try clear c43b0
    try clear c43b1
    try clear c44
    try clear c44b0
    try clear c44b1
    try clear c45
    try clear c47
    try clear c49
    try clear c50
    try clear c56
    try clear c57
    try clear hcz20_0
    try clear hcz22_0
    try clear hcz28_0
    try clear hcz34_0
    try clear hcz35_0
    try clear hcz37_0
    try clear hcz39_0
    try clear hcz51_0
    try clear hcz58_0
    try clear hfz20_0
    try clear hfz22_0
    try clear hfz28_0
    try clear hfz34_0
    try clear hfz35_0
    try clear hfz37_0
    try clear hfz39_0
    try clear hfz51_0
    try clear hfz58_0
    obtain ⟨kq, x91_12, rfl, HA, HJ12, HO_15, HO_19, HO_577000, HO_585000, HO_590000, BK576, BK584, BK589, HB⟩ := hcut
    cases kq with
    | zero => exact absurd HA.out (by simp [arboristlaw10_FillOnce.j0])
    | succ kj12 =>
      have H := HA.out
      clear HA
      simp only [arboristlaw10_FillOnce.j0] at H
      by_cases c61 : x91_12 = true
      · subst c61
        have H1 : (some false) = some r := by rw [if_pos rfl] at H; exact H
        clear H
        have H := H1
        clear H1
        exact absurd ((Option.some.inj H).trans HT_.out) (by decide)
      · replace c61 := Bool.eq_false_iff.mpr c61
        subst c61
        have H1 : (arboristlaw10_FillOnce.l0 kj12 t569 t590 t598 0 t580) = some r := by rw [if_neg (show ¬ (false = true) by decide)] at H; exact H
        clear H
        have H := H1
        clear H1
        have H' := Aside0.mk H
        clear H
        go_wp2
        go_loopg [21] kj12 (fun kq v21 w' => ∃ (x21_2 : Int), v21 = .int .i64 x21_2 ∧ Aside0 (arboristlaw10_FillOnce.l0 kq t569 t590 t598 x21_2 t580 = some r) ∧ Aside0 (kq ≤ kj12) ∧ Aside0 (Kd.S (Kd.slice 3 (Kd.int .i64)) 23 w' w.heap.size (fun _ => True) v591 t590) ∧ Aside0 (Kd.S (Kd.slice 4 Kd.bool) 55 w' w.heap.size (fun _ => True) v599 t598) ∧ Aside0 (Kd.R (Kd.int .u64) 61 w' w.heap.size (fun k_ => some k_ ≠ ((.slice Ao26 t580.length co26) : Value).ownBlock ∧ some k_ ≠ ((.slice Ao31 t585.length co31) : Value).ownBlock) (.slice Ao19 t573.length co19) t573) ∧ Aside0 (Kd.R (Kd.int .u64) 61 w' w.heap.size (fun k_ => some k_ ≠ ((.slice Ao19 t573.length co19) : Value).ownBlock ∧ some k_ ≠ ((.slice Ao31 t585.length co31) : Value).ownBlock) (.slice Ao26 t580.length co26) t580) ∧ Aside0 (Kd.R (Kd.int .u64) 61 w' w.heap.size (fun k_ => some k_ ≠ ((.slice Ao19 t573.length co19) : Value).ownBlock ∧ some k_ ≠ ((.slice Ao26 t580.length co26) : Value).ownBlock) (.slice Ao31 t585.length co31) t585) ∧ Aside0 (w'.heap[gb576]? = some (.cells #[(.slice Ao19 t573.length co19)] 29 (0, 0))) ∧ Aside0 (w'.heap[gb584]? = some (.cells #[(.slice Ao26 t580.length co26)] 29 (0, 0))) ∧ Aside0 (w'.heap[gb589]? = some (.cells #[(.slice Ao31 t585.length co31)] 29 (0, 0))) ∧ Aside0 (Below w.heap.size w w'))
        case atStart => exact ⟨(0), (by first | rfl | (simp; done) | (simp [*]; done)), H', ⟨Nat.le_refl _⟩, ⟨by (with_reducible repeat (first | apply Kd.S_alloc | apply Kd.S_drewN | apply Kd.S_drew)); exact HO_15.out⟩, ⟨by (with_reducible repeat (first | apply Kd.S_alloc | apply Kd.S_drewN | apply Kd.S_drew)); exact HO_19.out⟩, ⟨by (with_reducible repeat (first | apply Kd.R_alloc | apply Kd.R_drewN | apply Kd.R_drew)); exact HO_577000.out⟩, ⟨by (with_reducible repeat (first | apply Kd.R_alloc | apply Kd.R_drewN | apply Kd.R_drew)); exact HO_585000.out⟩, ⟨by (with_reducible repeat (first | apply Kd.R_alloc | apply Kd.R_drewN | apply Kd.R_drew)); exact HO_590000.out⟩, ⟨by (with_reducible repeat (first | refine blk_drewN ?_ _ | refine blk_drew ?_ | refine blk_alloc ?_ _)); exact BK576.out⟩, ⟨by (with_reducible repeat (first | refine blk_drewN ?_ _ | refine blk_drew ?_ | refine blk_alloc ?_ _)); exact BK584.out⟩, ⟨by (with_reducible repeat (first | refine blk_drewN ?_ _ | refine blk_drew ?_ | refine blk_alloc ?_ _)); exact BK589.out⟩, ⟨by repeat (first | (with_reducible first | exact HB.out | apply below_alloc | apply pw_below_drewN | apply below_drew1 | refine below_set ?_ GE576.out | refine below_set ?_ GE584.out | refine below_set ?_ GE589.out) | exact HB.out)⟩⟩
        case round =>
          clear H'
          try clear c1
          try clear c2
          try clear p2
          try clear c3
          try clear c4
          try clear c5
          try clear c6
          try clear c10
          try clear c11
          try clear c12
          try clear c13
          try clear c14
          try clear c15
          try clear c25
          try clear c27
          try clear c32
          try clear c33
          try clear c41
          try clear c41b0
          try clear c41b1
          try clear c42
          try clear c42b0
          try clear c42b1
          try clear c43
          try clear c43b0
          try clear c43b1
          try clear c44
          try clear c44b0
          try clear c44b1
          try clear c45
          try clear c47
          try clear c49
          try clear c50
          try clear c56
          try clear c57
          try clear c61
          try clear hcz20_0
          try clear hcz22_0
          try clear hcz28_0
          try clear hcz34_0
          try clear hcz35_0
          try clear hcz37_0
          try clear hcz39_0
          try clear hcz51_0
          try clear hcz58_0
          try clear hfz20_0
          try clear hfz22_0
          try clear hfz28_0
          try clear hfz34_0
          try clear hfz35_0
          try clear hfz37_0
          try clear hfz39_0
          try clear hfz51_0
          try clear hfz58_0
          try clear p2
          obtain ⟨x21_2, rfl, HA, HK2, HO_15, HO_19, HO_577000, HO_585000, HO_590000, BK576, BK584, BK589, HB⟩ := hrel
          cases gk with
          | zero => exact absurd HA.out (by simp [arboristlaw10_FillOnce.l0])
          | succ k2 =>
            have H := HA.out
            clear HA
            simp only [arboristlaw10_FillOnce.l0] at H
            by_cases c62 : x21_2 < (t590.length : Int)
            · rw [if_pos c62] at H
              have c62b0 : decide (x21_2 < (t590.length : Int)) = true := decide_eq_true c62
              clear c62
              by_cases c63 : 0 ≤ x21_2
              · rw [if_pos c63] at H
                have c63b0 : decide (0 ≤ x21_2) = true := decide_eq_true c63
                clear c63
                replace H := Option.bind_eq_some_iff.mp H
                obtain ⟨t605, A640, H⟩ := H
                replace H : (if t605 = true then (arboristlaw10_FillOnce.l0 k2 t569 t590 t598 (wrap64 (x21_2 + 1)) t580) else (some false)) = some r := H
                have A64 := Aside0.mk A640
                clear A640
                by_cases c65 : t605 = true
                · subst c65
                  have H1 : (arboristlaw10_FillOnce.l0 k2 t569 t590 t598 (wrap64 (x21_2 + 1)) t580) = some r := by rw [if_pos rfl] at H; exact H
                  clear H
                  have H := H1
                  clear H1
                  have H' := Aside0.mk H
                  clear H
                  obtain ⟨Ao66, co66, eo66⟩ := Kd.S_slice HO_15.out
                  subst eo66
                  have p604 : 0 ≤ (x21_2 : Int) := of_decide_eq_true (by first | (with_reducible assumption) | assumption)
                  have q604 : x21_2 < (t590.length : Int) := of_decide_eq_true (by first | (with_reducible assumption) | assumption)
                  obtain ⟨ad604, A604_0, c604_0, e604, hx604_0, hl604_0, hi604_0⟩ := at_L1 (Kd.S_reads' HO_15.out).2.2 x21_2 p604 q604
                  cases e604
                  obtain ⟨ce604, hce604, hMe604, hcc604⟩ := Kd.S_get HO_15.out [] x21_2 p604 (by first | exact q604 | exact of_decide_eq_true (by first | (with_reducible assumption) | assumption) | (have e_ := (Kd.S_reads' HO_15.out).1; omega))
                  obtain ⟨ve604_0, rfl, ge604_0⟩ := hMe604
                  have hv604_0 := hcc604 0 _ rfl
                  rw [Nat.add_zero, show ((Kd.slice 3 (Kd.int .i64))).sz = 1 from rfl, Nat.mul_one] at hv604_0
                  replace hv604_0 := Option.some.inj (hv604_0.symm.trans hx604_0)
                  rw [hv604_0] at ge604_0
                  have HL604_0 := Aside0.mk (show Kd.R (Kd.int .i64) 3 _ _ _ _ (rd_L1 t590 x21_2) from ge604_0)
                  clear hv604_0 ge604_0
                  clear hcc604 hce604
                  have HR604_0 := Aside0.mk hi604_0
                  have HC604_0 := Aside0.mk hl604_0
                  clear hi604_0 hl604_0
                  replace p604 := eq_true p604
                  replace q604 := eq_true q604
                  obtain ⟨Ao67, co67, eo67⟩ := Kd.S_slice HO_19.out
                  subst eo67
                  go_wp2_with (first | ((with_reducible refine gate_callee (f := 26) rfl ?_); refine goesL_ (some 103) rfl rfl Tryd.func26 (by kernel_rfl) rfl #[.slice Ao67 t598.length co67, .slice A604_0 (rd_L1 t590 x21_2).length c604_0] rfl (by (try simp only [List.map_toArray, List.map_cons, List.map_nil]); first | done | rfl | (simp only [List.length_drop, List.length_take]; rfl)) ?_; (with_reducible refine (arboristref08_Clique.calls k2 _ _ t598 _ _ (rd_L1 t590 x21_2) true _ ?side1 ?side2 ?side3 ?side4 A64.out).mono ?_); (case side1 => repeat (first | exact (Kd.S_reads' HO_19.out).2.2 | (with_reducible refine Kd.C_alloc ?_ _) | (with_reducible refine Kd.C_drewN ?_ _) | (with_reducible refine Kd.C_drew ?_))); (case side2 => exact (Kd.S_reads' HO_19.out).2.1); (case side3 => repeat (first | exact (by repeat (first | (with_reducible exact HR604_0.out) | (with_reducible refine Kd.C_alloc ?_ _) | (with_reducible refine Kd.C_drewN ?_ _) | (with_reducible refine Kd.C_drew ?_) | exact HR604_0.out)) | (with_reducible refine Kd.C_alloc ?_ _) | (with_reducible refine Kd.C_drewN ?_ _) | (with_reducible refine Kd.C_drew ?_))); (case side4 => exact HC604_0.out); rintro e w' ⟨rfl, ⟨nd, rfl⟩⟩; refine ⟨_, rfl, ?_⟩))
                  go_roundg k2
                  case measure => have := HJ12.out; have := HK2.out; omega
                  case rel => exact ⟨(wrap64 (x21_2 + 1)), (by first | rfl | (simp; done) | (simp [*]; done)), H', ⟨by have := HJ12.out; have := HK2.out; omega⟩, ⟨by (with_reducible repeat (first | apply Kd.S_alloc | apply Kd.S_drewN | apply Kd.S_drew)); exact HO_15.out⟩, ⟨by (with_reducible repeat (first | apply Kd.S_alloc | apply Kd.S_drewN | apply Kd.S_drew)); exact HO_19.out⟩, ⟨by (with_reducible repeat (first | apply Kd.R_alloc | apply Kd.R_drewN | apply Kd.R_drew)); exact HO_577000.out⟩, ⟨by (with_reducible repeat (first | apply Kd.R_alloc | apply Kd.R_drewN | apply Kd.R_drew)); exact HO_585000.out⟩, ⟨by (with_reducible repeat (first | apply Kd.R_alloc | apply Kd.R_drewN | apply Kd.R_drew)); exact HO_590000.out⟩, ⟨by (with_reducible repeat (first | refine blk_drewN ?_ _ | refine blk_drew ?_ | refine blk_alloc ?_ _)); exact BK576.out⟩, ⟨by (with_reducible repeat (first | refine blk_drewN ?_ _ | refine blk_drew ?_ | refine blk_alloc ?_ _)); exact BK584.out⟩, ⟨by (with_reducible repeat (first | refine blk_drewN ?_ _ | refine blk_drew ?_ | refine blk_alloc ?_ _)); exact BK589.out⟩, ⟨by repeat (first | (with_reducible first | exact HB.out | apply below_alloc | apply pw_below_drewN | apply below_drew1 | refine below_set ?_ GE576.out | refine below_set ?_ GE584.out | refine below_set ?_ GE589.out) | exact HB.out)⟩⟩
                · replace c65 := Bool.eq_false_iff.mpr c65
                  subst c65
                  have H1 : (some false) = some r := by rw [if_neg (show ¬ (false = true) by decide)] at H; exact H
                  clear H
                  have H := H1
                  clear H1
                  exact absurd ((Option.some.inj H).trans HT_.out) (by decide)
              · rw [if_neg c63] at H
                exact absurd H (by simp)
            · rw [if_neg c62] at H
              have c62b0 : decide (x21_2 < (t590.length : Int)) = false := decide_eq_false c62
              clear c62
              by_cases c68 : t569 = true
              · subst c68
                have H1 : ((fill_Chordal.f k2 t580).bind fun t606 => (some t606)) = some r := by rw [if_pos rfl] at H; exact H
                clear H
                have H := H1
                clear H1
                replace H := Option.bind_eq_some_iff.mp H
                obtain ⟨t606, A690, H⟩ := H
                replace H : (some t606) = some r := H
                have A69 := Aside0.mk A690
                clear A690
                obtain rfl := Option.some.inj H
                obtain ⟨Ao70, co70, eo70⟩ := Kd.S_slice HO_15.out
                subst eo70
                have hnb71 := NB584_576.out
                have hnc71 := NB576_584.out
                have hnb72 := NB584_589.out
                have hnc72 := NB589_584.out
                have hcz73_0 : wr.cell? ⟨gb584, 0, none⟩ = some (.slice Ao26 t580.length co26) := (blk_cell BK584.out 0).trans rfl
                have hfz73_0 := blk_frozen BK584.out 0
                go_wp2_with (first | (go_at_call 18; (with_reducible refine (fill_Chordal.calls (hTb := (by first | exact HTAB.out | exact tab_drewN HTAB.out _ | exact tab_below HTAB.out (by repeat (first | (with_reducible first | exact HB.out | apply below_alloc | apply pw_below_drewN | apply below_drew1 | refine below_set ?_ GE576.out | refine below_set ?_ GE584.out | refine below_set ?_ GE589.out) | exact HB.out)))) k2 _ _ t580 t606 _ ?side1 ?side2 A69.out).mono ?_); (case side1 => repeat (first | exact (Kd.R_reads' HO_585000.out).2.2 | (with_reducible refine Kd.C_alloc ?_ _) | (with_reducible refine Kd.C_drewN ?_ _) | (with_reducible refine Kd.C_drew ?_))); (case side2 => exact (Kd.R_reads' HO_585000.out).2.1); rintro e w74 ⟨rfl, hb⟩; have n0_ := Aside0.mk (Kd.S_below (by (with_reducible repeat (first | apply Kd.S_alloc | apply Kd.S_drewN | apply Kd.S_drew)); exact HO_15.out) hb); have n1_ := Aside0.mk (Kd.S_below (by (with_reducible repeat (first | apply Kd.S_alloc | apply Kd.S_drewN | apply Kd.S_drew)); exact HO_19.out) hb); have n2_ := Aside0.mk (Kd.R_below (by (with_reducible repeat (first | apply Kd.R_alloc | apply Kd.R_drewN | apply Kd.R_drew)); exact HO_577000.out) hb); have n3_ := Aside0.mk (Kd.R_below (by (with_reducible repeat (first | apply Kd.R_alloc | apply Kd.R_drewN | apply Kd.R_drew)); exact HO_585000.out) hb); have n4_ := Aside0.mk (Kd.R_below (by (with_reducible repeat (first | apply Kd.R_alloc | apply Kd.R_drewN | apply Kd.R_drew)); exact HO_590000.out) hb); have n5_ := Aside0.mk (blk_below (g := gb576) (o := .cells #[.slice Ao19 t573.length co19] 29 (0, 0)) (by (with_reducible repeat (first | refine blk_drewN ?_ _ | refine blk_drew ?_ | refine blk_alloc ?_ _)); exact BK576.out) hb); have n6_ := Aside0.mk (blk_below (g := gb584) (o := .cells #[.slice Ao26 t580.length co26] 29 (0, 0)) (by (with_reducible repeat (first | refine blk_drewN ?_ _ | refine blk_drew ?_ | refine blk_alloc ?_ _)); exact BK584.out) hb); have n7_ := Aside0.mk (blk_below (g := gb589) (o := .cells #[.slice Ao31 t585.length co31] 29 (0, 0)) (by (with_reducible repeat (first | refine blk_drewN ?_ _ | refine blk_drew ?_ | refine blk_alloc ?_ _)); exact BK589.out) hb); have n8_ := Aside0.mk (below_step (by repeat (first | (with_reducible first | exact HB.out | apply below_alloc | apply pw_below_drewN | apply below_drew1 | refine below_set ?_ GE576.out | refine below_set ?_ GE584.out | refine below_set ?_ GE589.out) | exact HB.out)) hb); clear HO_15; clear HO_19; clear HO_577000; clear HO_585000; clear HO_590000; clear BK576; clear BK584; clear BK589; clear HB; have HO_15 := n0_; have HO_19 := n1_; have HO_577000 := n2_; have HO_585000 := n3_; have HO_590000 := n4_; have BK576 := n5_; have BK584 := n6_; have BK589 := n7_; have HB := n8_; clear n0_ n1_ n2_ n3_ n4_ n5_ n6_ n7_ n8_; (try clear hb); (try clear hb2); (try clear hk); (try clear hi)))
                go_ret
                exact ⟨by first | rfl | (simp [errW_none, errW_some] <;> rfl) | (simp [*, errW_none, errW_some] <;> rfl), by repeat (first | (with_reducible first | exact HB.out | apply below_alloc | apply pw_below_drewN | apply below_drew1 | refine below_set ?_ GE576.out | refine below_set ?_ GE584.out | refine below_set ?_ GE589.out) | exact HB.out)⟩
              · replace c68 := Bool.eq_false_iff.mpr c68
                subst c68
                have H1 : (some false) = some r := by rw [if_neg (show ¬ (false = true) by decide)] at H; exact H
                clear H
                have H := H1
                clear H1
                exact absurd ((Option.some.inj H).trans HT_.out) (by decide)

/-- THE ONE PURE STATEMENT of arboristlaw10_FillOnce. -/
def arboristlaw10_FillOnce.Pure : Prop := ∀ (a0 : Int) (l1 : List (List Int)) (l2 : List Int), (Lit.int .i64 a0).wf = true → (l1.length ≤ maxLen ∧ ∀ z0 ∈ l1, (z0.length ≤ maxLen ∧ ∀ z1 ∈ z0, (Lit.int .i64 z1).wf = true)) → (l2.length ≤ maxLen ∧ ∀ z0 ∈ l2, (Lit.int .i64 z0).wf = true) → ∃ k, arboristlaw10_FillOnce.f k a0 l1 l2 = some true

end Go.Proofs.YtopjffgmpphdbaaDoor.Pr
