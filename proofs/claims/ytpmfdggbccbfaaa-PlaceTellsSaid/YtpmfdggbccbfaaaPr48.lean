-- Printed by a program of this session's own (wip/tools/pp.py) over the kit's print.py; Lean checks it.
import Derived.Test.YtpmfdggbccbfaaaPr1
import Derived.Test.YtpmfdggbccbfaaaPr0
import Derived.Test.YtpmfdggbccbfaaaPr30
import Derived.Test.YtpmfdggbccbfaaaPr32
import Derived.Test.YtpmfdggbccbfaaaPr33
import Derived.Test.YtpmfdggbccbfaaaPr35
import Derived.Test.YtpmfdggbccbfaaaPr38
import Derived.Test.YtpmfdggbccbfaaaPr40
import Derived.Test.YtpmfdggbccbfaaaPr41
import Derived.Test.YtpmfdggbccbfaaaPr42
import Derived.Test.YtpmfdggbccbfaaaPr44
import Derived.Test.YtpmfdggbccbfaaaPr45
import Derived.Test.YtpmfdggbccbfaaaPr47
namespace Go.Proofs.Ytpmfdggbccbfaaa.Pr
open Go.RowKit Go.Proofs.YtpmfdggbccbfaaaW.PrintWords Go.Proofs.YtpmfdggbccbfaaaW.PrintLast Go.Proofs.YtpmfdggbccbfaaaW.PrintMore
attribute [local go_sem] max2_int min2_int max_two min_two max_three min_three max_four min_four   -- for this text's walks alone
set_option linter.unusedVariables false
set_option linter.unusedSimpArgs false

/-! ### arboristlaw13_PlaceTells: function 9 -/
def arboristlaw13_PlaceTells.j0 : Nat → Int → Bool → Bool → List (List Int) → List Int → Option (Bool)
  | 0, _, _, _, _, _ => none
  | k + 1, x2, x9, x57, x643000, x643001 => if x57 = true then (some false) else (if x9 = true then ((place_Separator.f x643000 x643001 x2).bind fun t659 => ((arboristref13_Separator.f k x643000 x643001 x2).bind fun t662 => ((arboristref01_Compare.f k t659 t662).bind fun t665 => (if t665 = 0 then ((place_Children.f k x643000 x643001 x2).bind fun t666 => ((arboristref13_Children.f k x643000 x643001 x2).bind fun t669 => ((arboristref01_Compare.f k t666 t669).bind fun t672 => (if t672 = 0 then ((place_After.f k x643000 x643001).bind fun t673 => ((arboristref13_After.f k x643000 x643001).bind fun t676 => ((arboristref01_Compare.f k t673 t676).bind fun t679 => (some (t679 == 0))))) else (some false))))) else (some false))))) else (some false))
def arboristlaw13_PlaceTells.f (k : Nat) (l0 : List Int) (l1 : List (List Int)) (a2 : Int) (l3 : List (List Int)) : Option (Bool) := (arboristlaw13_shown.f k).bind fun t635 => ((arboristlaw13_shape.f k l0 l1).bind fun bt636 => ((arboristlaw13_shape.f k ([] : List Int) l3).bind fun bt643 => ((place_Place.f bt636.1 bt636.2 bt643.1).bind fun bt649 => ((arboristref13_Place.f k bt636.1 bt636.2 bt643.1).bind fun bt653 => (if (bt653.2 != (bt649.2 == 0)) = true then (arboristlaw13_PlaceTells.j0 k a2 t635 true bt636.1 bt636.2) else (if bt653.2 = true then ((arboristref01_Compare.f k bt649.1 bt653.1).bind fun t657 => (arboristlaw13_PlaceTells.j0 k a2 t635 (t657 != 0) bt636.1 bt636.2)) else (if bt649.2 = 5 then (if (bt649.1.length : Int) > 0 then (arboristlaw13_PlaceTells.j0 k a2 t635 true bt636.1 bt636.2) else ((arboristref01_Compare.f k bt649.1 bt653.1).bind fun t658 => (arboristlaw13_PlaceTells.j0 k a2 t635 (t658 != 0) bt636.1 bt636.2))) else (arboristlaw13_PlaceTells.j0 k a2 t635 true bt636.1 bt636.2))))))))
theorem arboristlaw13_PlaceTells.mono_l : ∀ k, (∀ y0 y1 y2 y3 y4, LeO (arboristlaw13_PlaceTells.j0 k y0 y1 y2 y3 y4) (arboristlaw13_PlaceTells.j0 (k + 1) y0 y1 y2 y3 y4))
  | 0 => fun _ _ _ _ _ r h => by simp [arboristlaw13_PlaceTells.j0] at h
  | k + 1 => by
    have ih0 := arboristlaw13_PlaceTells.mono_l k
    all_goals intros
    all_goals (first | unfold arboristlaw13_PlaceTells.j0)
    all_goals repeat' first
    | (with_reducible exact ih0 _ _ _ _ _)
    | (with_reducible exact arboristlaw13_shape.mono _ _ _)
    | (with_reducible exact arboristlaw13_shown.mono _)
    | (with_reducible exact arboristref01_Compare.mono _ _ _)
    | (with_reducible exact arboristref13_After.mono _ _ _)
    | (with_reducible exact arboristref13_Children.mono _ _ _ _)
    | (with_reducible exact arboristref13_Place.mono _ _ _ _)
    | (with_reducible exact arboristref13_Separator.mono _ _ _ _)
    | (with_reducible exact place_After.mono _ _ _)
    | (with_reducible exact place_Children.mono _ _ _ _)
    | (with_reducible exact LeO.refl _)
    | (with_reducible exact LeO.none _)
    | (with_reducible refine LeO.ite ?_ ?_)
    | (with_reducible refine LeO.bind ?_ (fun _ => ?_))
    | exact ih0 _ _ _ _ _
    | exact arboristlaw13_shape.mono _ _ _
    | exact arboristlaw13_shown.mono _
    | exact arboristref01_Compare.mono _ _ _
    | exact arboristref13_After.mono _ _ _
    | exact arboristref13_Children.mono _ _ _ _
    | exact arboristref13_Place.mono _ _ _ _
    | exact arboristref13_Separator.mono _ _ _ _
    | exact place_After.mono _ _ _
    | exact place_Children.mono _ _ _ _
    | exact LeO.none _
    | refine LeO.ite ?_ ?_
    | refine LeO.bind ?_ (fun _ => ?_)
theorem arboristlaw13_PlaceTells.mono : ∀ a0 a1 a2 a3 k, LeO (arboristlaw13_PlaceTells.f k a0 a1 a2 a3) (arboristlaw13_PlaceTells.f (k + 1) a0 a1 a2 a3) := by
  intro a0 a1 a2 a3 k
  have ih0 := arboristlaw13_PlaceTells.mono_l k
  unfold arboristlaw13_PlaceTells.f
  repeat' first
      | (with_reducible exact ih0 _ _ _ _ _)
      | (with_reducible exact arboristlaw13_shape.mono _ _ _)
      | (with_reducible exact arboristlaw13_shown.mono _)
      | (with_reducible exact arboristref01_Compare.mono _ _ _)
      | (with_reducible exact arboristref13_After.mono _ _ _)
      | (with_reducible exact arboristref13_Children.mono _ _ _ _)
      | (with_reducible exact arboristref13_Place.mono _ _ _ _)
      | (with_reducible exact arboristref13_Separator.mono _ _ _ _)
      | (with_reducible exact place_After.mono _ _ _)
      | (with_reducible exact place_Children.mono _ _ _ _)
      | (with_reducible exact LeO.refl _)
      | (with_reducible exact LeO.none _)
      | (with_reducible refine LeO.ite ?_ ?_)
      | (with_reducible refine LeO.bind ?_ (fun _ => ?_))
      | exact ih0 _ _ _ _ _
      | exact arboristlaw13_shape.mono _ _ _
      | exact arboristlaw13_shown.mono _
      | exact arboristref01_Compare.mono _ _ _
      | exact arboristref13_After.mono _ _ _
      | exact arboristref13_Children.mono _ _ _ _
      | exact arboristref13_Place.mono _ _ _ _
      | exact arboristref13_Separator.mono _ _ _ _
      | exact place_After.mono _ _ _
      | exact place_Children.mono _ _ _ _
      | exact LeO.none _
      | refine LeO.ite ?_ ?_
      | refine LeO.bind ?_ (fun _ => ?_)
def arboristlaw13_PlaceTells.T8 : Bool × List (List Nat × List Nat) := (true, [([], []), ([0], [0]), ([1], [1]), ([1], [1]), ([2, 3, 1, 1], [1, 2, 3]), ([1], [1]), ([1], [1]), ([5, 6, 4, 1], [1, 5, 6]), ([4, 7, 7, 1], [1, 4, 7]), ([8, 1], [1, 8]), ([1, 9], [1, 9]), ([10, 8], [10]), ([11], [11]), ([11], [11]), ([12, 13, 11, 11], [11, 12, 13]), ([11], [11]), ([11], [11]), ([15, 16, 14, 11], [11, 15, 16]), ([14, 17, 17, 11], [11, 14, 17]), ([18, 11], [11, 18]), ([11, 19], [11, 19]), ([20, 18], [20]), ([21], [21]), ([22, 21, 21], [21, 22]), ([21], [21]), ([24, 23, 21], [21, 24]), ([23, 25, 25, 21], [21, 23, 25]), ([26, 21], [21, 26]), ([21, 27], [21, 27]), ([28, 26, 0, 1, 2, 3, 4, 5, 6, 7, 8, 9, 10, 11, 12, 13, 14, 15, 16, 17, 18, 19, 20, 21, 22, 23, 24, 25, 26, 27, 28], [28])])
def arboristlaw13_PlaceTells.B8 : List Nat := [0, 1, 3, 3, 15, 3, 3, 127, 255, 511, 1023, 2047, 4095, 4095, 16383, 4095, 4095, 131071, 262143, 524287, 1048575, 2097151, 4194303, 8388607, 4194303, 33554431, 67108863, 134217727, 268435455, 536870911]
theorem arboristlaw13_PlaceTells.tab8 : rtab .any (opsOf Try.f9 8) = arboristlaw13_PlaceTells.T8 := by kernel_rfl
theorem arboristlaw13_PlaceTells.bits8 : waitsOk arboristlaw13_PlaceTells.T8.2 arboristlaw13_PlaceTells.B8 = true := by kernel_rfl
set_option maxHeartbeats 8000000 in
set_option maxRecDepth 100000 in
theorem arboristlaw13_PlaceTells.calls (k : Nat) (A0 : Option Addr) (c0 : Nat) (l0 : List Int) (A1 : Option Addr) (c1 : Nat) (l1 : List (List Int)) (a2 : Int) (A3 : Option Addr) (c3 : Nat) (l3 : List (List Int)) (r : Bool) (w : World) (hr0 : Kd.C (Kd.int .i64) w A0 l0.length l0) (hc0 : l0.length ≤ c0) (hr1 : Kd.C (Kd.slice 3 (Kd.int .i64)) w A1 l1.length l1) (hc1 : l1.length ≤ c1) (hr3 : Kd.C (Kd.slice 3 (Kd.int .i64)) w A3 l3.length l3) (hc3 : l3.length ≤ c3) (hT : r = true) (h : arboristlaw13_PlaceTells.f k l0 l1 a2 l3 = some r) :
    Calls Try.prog 9 #[.slice A0 l0.length c0, .slice A1 l1.length c1, .int .i64 a2, .slice A3 l3.length c3] w fun e w' => e = .returned (.bool r) ∧ Below w.heap.size w w' := by
  have HT_ := Aside0.mk (show r = true from hT)
  clear hT
  have hu25 := Try.underlying25
  have HR0 := Aside0.mk hr0
  have HC0 := Aside0.mk hc0
  clear hr0 hc0
  have HR1 := Aside0.mk hr1
  have HC1 := Aside0.mk hc1
  clear hr1 hc1
  have HR3 := Aside0.mk hr3
  have HC3 := Aside0.mk hc3
  clear hr3 hc3
  have HB := Aside0.mk (Below.refl w.heap.size w)
  have H : ((arboristlaw13_shown.f k).bind fun t635 => ((arboristlaw13_shape.f k l0 l1).bind fun bt636 => ((arboristlaw13_shape.f k ([] : List Int) l3).bind fun bt643 => ((place_Place.f bt636.1 bt636.2 bt643.1).bind fun bt649 => ((arboristref13_Place.f k bt636.1 bt636.2 bt643.1).bind fun bt653 => (if (bt653.2 != (bt649.2 == 0)) = true then (arboristlaw13_PlaceTells.j0 k a2 t635 true bt636.1 bt636.2) else (if bt653.2 = true then ((arboristref01_Compare.f k bt649.1 bt653.1).bind fun t657 => (arboristlaw13_PlaceTells.j0 k a2 t635 (t657 != 0) bt636.1 bt636.2)) else (if bt649.2 = 5 then (if (bt649.1.length : Int) > 0 then (arboristlaw13_PlaceTells.j0 k a2 t635 true bt636.1 bt636.2) else ((arboristref01_Compare.f k bt649.1 bt653.1).bind fun t658 => (arboristlaw13_PlaceTells.j0 k a2 t635 (t658 != 0) bt636.1 bt636.2))) else (arboristlaw13_PlaceTells.j0 k a2 t635 true bt636.1 bt636.2))))))))) = some r := h
  clear h
  replace H := Option.bind_eq_some_iff.mp H
  obtain ⟨t635, A50, H⟩ := H
  replace H : ((arboristlaw13_shape.f k l0 l1).bind fun bt636 => ((arboristlaw13_shape.f k ([] : List Int) l3).bind fun bt643 => ((place_Place.f bt636.1 bt636.2 bt643.1).bind fun bt649 => ((arboristref13_Place.f k bt636.1 bt636.2 bt643.1).bind fun bt653 => (if (bt653.2 != (bt649.2 == 0)) = true then (arboristlaw13_PlaceTells.j0 k a2 t635 true bt636.1 bt636.2) else (if bt653.2 = true then ((arboristref01_Compare.f k bt649.1 bt653.1).bind fun t657 => (arboristlaw13_PlaceTells.j0 k a2 t635 (t657 != 0) bt636.1 bt636.2)) else (if bt649.2 = 5 then (if (bt649.1.length : Int) > 0 then (arboristlaw13_PlaceTells.j0 k a2 t635 true bt636.1 bt636.2) else ((arboristref01_Compare.f k bt649.1 bt653.1).bind fun t658 => (arboristlaw13_PlaceTells.j0 k a2 t635 (t658 != 0) bt636.1 bt636.2))) else (arboristlaw13_PlaceTells.j0 k a2 t635 true bt636.1 bt636.2)))))))) = some r := H
  have A5 := Aside0.mk A50
  clear A50
  replace H := Option.bind_eq_some_iff.mp H
  obtain ⟨⟨t636, t639⟩, A60, H⟩ := H
  replace H : ((arboristlaw13_shape.f k ([] : List Int) l3).bind fun bt643 => ((place_Place.f t636 t639 bt643.1).bind fun bt649 => ((arboristref13_Place.f k t636 t639 bt643.1).bind fun bt653 => (if (bt653.2 != (bt649.2 == 0)) = true then (arboristlaw13_PlaceTells.j0 k a2 t635 true t636 t639) else (if bt653.2 = true then ((arboristref01_Compare.f k bt649.1 bt653.1).bind fun t657 => (arboristlaw13_PlaceTells.j0 k a2 t635 (t657 != 0) t636 t639)) else (if bt649.2 = 5 then (if (bt649.1.length : Int) > 0 then (arboristlaw13_PlaceTells.j0 k a2 t635 true t636 t639) else ((arboristref01_Compare.f k bt649.1 bt653.1).bind fun t658 => (arboristlaw13_PlaceTells.j0 k a2 t635 (t658 != 0) t636 t639))) else (arboristlaw13_PlaceTells.j0 k a2 t635 true t636 t639))))))) = some r := H
  have A6 := Aside0.mk A60
  clear A60
  replace H := Option.bind_eq_some_iff.mp H
  obtain ⟨⟨t643, t646⟩, A70, H⟩ := H
  replace H : ((place_Place.f t636 t639 t643).bind fun bt649 => ((arboristref13_Place.f k t636 t639 t643).bind fun bt653 => (if (bt653.2 != (bt649.2 == 0)) = true then (arboristlaw13_PlaceTells.j0 k a2 t635 true t636 t639) else (if bt653.2 = true then ((arboristref01_Compare.f k bt649.1 bt653.1).bind fun t657 => (arboristlaw13_PlaceTells.j0 k a2 t635 (t657 != 0) t636 t639)) else (if bt649.2 = 5 then (if (bt649.1.length : Int) > 0 then (arboristlaw13_PlaceTells.j0 k a2 t635 true t636 t639) else ((arboristref01_Compare.f k bt649.1 bt653.1).bind fun t658 => (arboristlaw13_PlaceTells.j0 k a2 t635 (t658 != 0) t636 t639))) else (arboristlaw13_PlaceTells.j0 k a2 t635 true t636 t639)))))) = some r := H
  have A7 := Aside0.mk A70
  clear A70
  replace H := Option.bind_eq_some_iff.mp H
  obtain ⟨⟨t649, t652⟩, A80, H⟩ := H
  replace H : ((arboristref13_Place.f k t636 t639 t643).bind fun bt653 => (if (bt653.2 != (t652 == 0)) = true then (arboristlaw13_PlaceTells.j0 k a2 t635 true t636 t639) else (if bt653.2 = true then ((arboristref01_Compare.f k t649 bt653.1).bind fun t657 => (arboristlaw13_PlaceTells.j0 k a2 t635 (t657 != 0) t636 t639)) else (if t652 = 5 then (if (t649.length : Int) > 0 then (arboristlaw13_PlaceTells.j0 k a2 t635 true t636 t639) else ((arboristref01_Compare.f k t649 bt653.1).bind fun t658 => (arboristlaw13_PlaceTells.j0 k a2 t635 (t658 != 0) t636 t639))) else (arboristlaw13_PlaceTells.j0 k a2 t635 true t636 t639))))) = some r := H
  have A8 := Aside0.mk A80
  clear A80
  replace H := Option.bind_eq_some_iff.mp H
  obtain ⟨⟨t653, t656⟩, A90, H⟩ := H
  replace H : (if (t656 != (t652 == 0)) = true then (arboristlaw13_PlaceTells.j0 k a2 t635 true t636 t639) else (if t656 = true then ((arboristref01_Compare.f k t649 t653).bind fun t657 => (arboristlaw13_PlaceTells.j0 k a2 t635 (t657 != 0) t636 t639)) else (if t652 = 5 then (if (t649.length : Int) > 0 then (arboristlaw13_PlaceTells.j0 k a2 t635 true t636 t639) else ((arboristref01_Compare.f k t649 t653).bind fun t658 => (arboristlaw13_PlaceTells.j0 k a2 t635 (t658 != 0) t636 t639))) else (arboristlaw13_PlaceTells.j0 k a2 t635 true t636 t639)))) = some r := H
  have A9 := Aside0.mk A90
  clear A90
  have HC10 := Aside0.mk H
  clear H
  have hfd_0 : ∀ (a b : Value) (w : World), (Instr.field 25 (.agg #[a, b]) 0).run Try.prog w = .ok a w := fun _ _ _ => by first | rfl | kernel_rfl
  go_enter Try.func9, Try.ntmps9
  go_upto_region 6 with (first | ((with_reducible refine gate_callee (f := 26) rfl ?_); refine goesL_ (some 16) rfl rfl Try.func26 (by kernel_rfl) rfl #[] rfl (by (try simp only [List.map_toArray, List.map_cons, List.map_nil]); first | done | rfl | (simp only [List.length_drop, List.length_take]; rfl)) ?_; (with_reducible refine (arboristlaw13_shown.calls k  t635 _ A5.out).mono ?_); rintro e w11 ⟨rfl, hb⟩; refine ⟨_, rfl, ?_⟩; have n0_ := Aside0.mk (below_step (by repeat (first | (with_reducible first | exact HB.out | apply below_alloc | apply pw_below_drewN | apply below_drew1) | exact HB.out)) hb); clear HB; have HB := n0_; clear n0_; (try clear hb); (try clear hb2); (try clear hk); (try clear hi)) | ((with_reducible refine gate_callee (f := 27) rfl ?_); refine goesL_ (some 19) rfl rfl Try.func27 (by kernel_rfl) rfl #[.slice A0 l0.length c0, .slice A1 l1.length c1] rfl (by (try simp only [List.map_toArray, List.map_cons, List.map_nil]); first | done | rfl | (simp only [List.length_drop, List.length_take]; rfl)) ?_; (with_reducible refine (arboristlaw13_shape.calls k _ _ l0 _ _ l1 t636 t639 _ ?side1 ?side2 ?side3 ?side4 A6.out).mono ?_); (case side1 => repeat (first | exact (Kd.C_below HR0.out HB.out) | (with_reducible refine Kd.C_alloc ?_ _) | (with_reducible refine Kd.C_drewN ?_ _) | (with_reducible refine Kd.C_drew ?_))); (case side2 => exact HC0.out); (case side3 => repeat (first | exact (Kd.C_below HR1.out HB.out) | (with_reducible refine Kd.C_alloc ?_ _) | (with_reducible refine Kd.C_drewN ?_ _) | (with_reducible refine Kd.C_drew ?_))); (case side4 => exact HC1.out); rintro e w12 ⟨v637, v640, rfl, ho0, ho1, hb⟩; refine ⟨_, rfl, ?_⟩; have n0_ := Aside0.mk (Kd.S_lower ho0 (below_size (by repeat (first | (with_reducible first | exact HB.out | apply below_alloc | apply pw_below_drewN | apply below_drew1) | exact HB.out)))); have n1_ := Aside0.mk (Kd.R_lower ho1 (below_size (by repeat (first | (with_reducible first | exact HB.out | apply below_alloc | apply pw_below_drewN | apply below_drew1) | exact HB.out)))); have n2_ := Aside0.mk (below_step (by repeat (first | (with_reducible first | exact HB.out | apply below_alloc | apply pw_below_drewN | apply below_drew1) | exact HB.out)) hb); clear HB; have HO638 := n0_; have HO641 := n1_; have HB := n2_; clear n0_ n1_ n2_; (try clear hb); (try clear hb2); (try clear hk); (try clear hi); (try clear ho0); (try clear ho1)) | ((with_reducible refine gate_dst (N := 10) rfl ?_); (try (refine gate_guard (by rfl) ?_; dsimp only)); refine box_event ?hg (N := 10) ?hd (cs := #[.slice none 0 0, .slice none 0 0]) (t := 25) ?hr ?_; (case hd => rfl); (case hg => rfl); (case hr => first | (go_simp; done) | (go_simp; rfl)); intro gb642 hg w13 hbox hb; have n0_ := Aside0.mk (Kd.S_below (by (with_reducible repeat (first | apply Kd.S_alloc | apply Kd.S_drewN | apply Kd.S_drew)); exact HO638.out) hb); have n1_ := Aside0.mk (Kd.R_below (by (with_reducible repeat (first | apply Kd.R_alloc | apply Kd.R_drewN | apply Kd.R_drew)); exact HO641.out) hb); have n2_ := Aside0.mk (below_step (by repeat (first | (with_reducible first | exact HB.out | apply below_alloc | apply pw_below_drewN | apply below_drew1) | exact HB.out)) hb); have n3_ := Aside0.mk (hbox); have n4_ := Aside0.mk ((by rw [hg]; exact (below_size (by repeat (first | (with_reducible first | exact HB.out | apply below_alloc | apply pw_below_drewN | apply below_drew1) | exact HB.out))) : w.heap.size ≤ gb642)); have n5_ := Aside0.mk ((by rw [hg]; exact (below_size (by repeat (first | (with_reducible first | exact HB.out | apply below_alloc | apply pw_below_drewN | apply below_drew1) | exact HB.out))) : w.heap.size ≤ gb642)); clear HO638; clear HO641; clear HB; have HO638 := n0_; have HO641 := n1_; have HB := n2_; have BK642 := n3_; have GW642 := n4_; have GE642 := n5_; clear n0_ n1_ n2_ n3_ n4_ n5_; clear hb hbox hg; obtain ⟨Ao14, co14, eo14⟩ := Kd.S_slice HO638.out; subst eo14; have hcz15_0 : w13.cell? ⟨gb642, 0, none⟩ = some (.slice none 0 0) := (blk_cell BK642.out 0).trans rfl; have hcz15_1 : w13.cell? ⟨gb642, 1, none⟩ = some (.slice none 0 0) := (blk_cell BK642.out 1).trans rfl; have hfz15_0 := blk_frozen BK642.out 0; have hfz15_1 := blk_frozen BK642.out 1; obtain ⟨Ao16, co16, eo16⟩ := Kd.R_slice HO641.out; subst eo16) | ((with_reducible refine gate_callee (f := 27) rfl ?_); refine goesL_ (some 21) rfl rfl Try.func27 (by kernel_rfl) rfl #[.slice none 0 0, .slice A3 l3.length c3] rfl (by (try simp only [List.map_toArray, List.map_cons, List.map_nil]); first | done | rfl | (simp only [List.length_drop, List.length_take]; rfl)) ?_; (refine (arboristlaw13_shape.calls k _ _ ([] : List Int) _ _ l3 t643 t646 _ ?side1 ?side2 ?side3 ?side4 A7.out).mono ?_); (case side1 => exact Kd.C_nil _ _); (case side2 => exact Nat.le_refl _); (case side3 => exact Kd.C_below HR3.out (by repeat (first | (with_reducible first | exact HB.out | apply below_alloc | apply pw_below_drewN | apply below_drew1 | refine below_set ?_ GE642.out) | exact HB.out))); (case side4 => exact HC3.out); rintro e w17 ⟨v644, v647, rfl, ho0, ho1, hb⟩; refine ⟨_, rfl, ?_⟩; have n0_ := Aside0.mk (Kd.S_mono (Kd.S_told (Kd.S_told (Kd.S_old (by (with_reducible repeat (first | apply Kd.S_alloc | apply Kd.S_drewN | apply Kd.S_drew)); exact (Kd.S_mono (Kd.S_far (p := ⟨gb642, 1, none⟩) (Kd.S_far (p := ⟨gb642, 0, none⟩) (Kd.S_types HO638.out BK642.out (by decide)) (fun _ hk => hk.2) (.slice Ao14 t636.length co14)) (fun _ hk => hk.2) (.slice Ao16 t639.length co16)) (fun _ h_ => h_.1))) hb) (Kd.S_base ho0)) (Kd.R_base ho1)) (fun _ h_ => h_.1)); have n1_ := Aside0.mk (Kd.R_elder' (by (with_reducible repeat (first | apply Kd.R_alloc | apply Kd.R_drewN | apply Kd.R_drew)); exact (Kd.R_mono (Kd.R_far (p := ⟨gb642, 1, none⟩) (Kd.R_far (p := ⟨gb642, 0, none⟩) (Kd.R_types HO641.out BK642.out (by decide)) (fun _ hk => hk.2) (.slice Ao14 t636.length co14)) (fun _ hk => hk.2) (.slice Ao16 t639.length co16)) (fun _ h_ => h_.1))) (Kd.R_base ho1) hb); have n2_ := Aside0.mk (Kd.S_lower (Kd.S_new' (Kd.S_new' ho0 (Kd.S_lt (by (with_reducible repeat (first | apply Kd.S_alloc | apply Kd.S_drewN | apply Kd.S_drew)); exact (Kd.S_mono (Kd.S_far (p := ⟨gb642, 1, none⟩) (Kd.S_far (p := ⟨gb642, 0, none⟩) (Kd.S_types HO638.out BK642.out (by decide)) (fun _ hk => hk.2) (.slice Ao14 t636.length co14)) (fun _ hk => hk.2) (.slice Ao16 t639.length co16)) (fun _ h_ => h_.1))))) (Kd.R_lt (by (with_reducible repeat (first | apply Kd.R_alloc | apply Kd.R_drewN | apply Kd.R_drew)); exact (Kd.R_mono (Kd.R_far (p := ⟨gb642, 1, none⟩) (Kd.R_far (p := ⟨gb642, 0, none⟩) (Kd.R_types HO641.out BK642.out (by decide)) (fun _ hk => hk.2) (.slice Ao14 t636.length co14)) (fun _ hk => hk.2) (.slice Ao16 t639.length co16)) (fun _ h_ => h_.1))))) (below_size (by repeat (first | (with_reducible first | exact HB.out | apply below_alloc | apply pw_below_drewN | apply below_drew1 | refine below_set ?_ GE642.out) | exact HB.out)))); have n3_ := Aside0.mk (Kd.R_lower (Kd.R_new' ho1 (Kd.R_lt (by (with_reducible repeat (first | apply Kd.R_alloc | apply Kd.R_drewN | apply Kd.R_drew)); exact (Kd.R_mono (Kd.R_far (p := ⟨gb642, 1, none⟩) (Kd.R_far (p := ⟨gb642, 0, none⟩) (Kd.R_types HO641.out BK642.out (by decide)) (fun _ hk => hk.2) (.slice Ao14 t636.length co14)) (fun _ hk => hk.2) (.slice Ao16 t639.length co16)) (fun _ h_ => h_.1))))) (below_size (by repeat (first | (with_reducible first | exact HB.out | apply below_alloc | apply pw_below_drewN | apply below_drew1 | refine below_set ?_ GE642.out) | exact HB.out)))); have n4_ := Aside0.mk (blk_below (g := gb642) (o := .cells #[.slice Ao14 t636.length co14, .slice Ao16 t639.length co16] 25 (0, 0)) (by (with_reducible repeat (first | refine blk_drewN ?_ _ | refine blk_drew ?_ | refine blk_alloc ?_ _)); refine blk_put (cs := #[.slice Ao14 t636.length co14, .slice none 0 0]) ?_ 1 _ rfl; (with_reducible repeat (first | refine blk_drewN ?_ _ | refine blk_drew ?_ | refine blk_alloc ?_ _)); refine blk_put (cs := #[.slice none 0 0, .slice none 0 0]) ?_ 0 _ rfl; (with_reducible repeat (first | refine blk_drewN ?_ _ | refine blk_drew ?_ | refine blk_alloc ?_ _)); exact BK642.out) hb); have n5_ := Aside0.mk (below_step (by repeat (first | (with_reducible first | exact HB.out | apply below_alloc | apply pw_below_drewN | apply below_drew1 | refine below_set ?_ GE642.out) | exact HB.out)) hb); clear HO638; clear HO641; clear BK642; clear HB; have HO638 := n0_; have HO641 := n1_; have HO645 := n2_; have HO648 := n3_; have BK642 := n4_; have HB := n5_; clear n0_ n1_ n2_ n3_ n4_ n5_; (try clear hb); (try clear hb2); (try clear hk); (try clear hi); (try clear ho0); (try clear ho1); have hcz18_0 : w17.cell? ⟨gb642, 0, none⟩ = some (.slice Ao14 t636.length co14) := (blk_cell BK642.out 0).trans rfl; have hcz18_1 : w17.cell? ⟨gb642, 1, none⟩ = some (.slice Ao16 t639.length co16) := (blk_cell BK642.out 1).trans rfl; have hfz18_0 := blk_frozen BK642.out 0; have hfz18_1 := blk_frozen BK642.out 1; obtain ⟨Ao19, co19, eo19⟩ := Kd.S_slice HO645.out; subst eo19) | ((with_reducible refine gate_callee (f := 28) rfl ?_); refine goesL_ (some 26) rfl rfl Try.func28 (by kernel_rfl) rfl #[.agg #[.slice Ao14 t636.length co14, .slice Ao16 t639.length co16], .slice Ao19 t643.length co19] rfl (by (try simp only [List.map_toArray, List.map_cons, List.map_nil]); first | done | rfl | (simp only [List.length_drop, List.length_take]; rfl)) ?_; (with_reducible refine (place_Place.calls _ _ t636 _ _ t639 _ _ t643 t649 t652 _ ?side1 ?side2 ?side3 ?side4 ?side5 ?side6 A8.out).mono ?_); (case side1 => repeat (first | exact (Kd.S_reads' HO638.out).2.2 | (with_reducible refine Kd.C_alloc ?_ _) | (with_reducible refine Kd.C_drewN ?_ _) | (with_reducible refine Kd.C_drew ?_))); (case side2 => exact (Kd.S_reads' HO638.out).2.1); (case side3 => repeat (first | exact (Kd.R_reads' HO641.out).2.2 | (with_reducible refine Kd.C_alloc ?_ _) | (with_reducible refine Kd.C_drewN ?_ _) | (with_reducible refine Kd.C_drew ?_))); (case side4 => exact (Kd.R_reads' HO641.out).2.1); (case side5 => repeat (first | exact (Kd.S_reads' HO645.out).2.2 | (with_reducible refine Kd.C_alloc ?_ _) | (with_reducible refine Kd.C_drewN ?_ _) | (with_reducible refine Kd.C_drew ?_))); (case side6 => exact (Kd.S_reads' HO645.out).2.1); rintro e w20 ⟨v650, rfl, ho0, hb⟩; refine ⟨_, rfl, ?_⟩; have n0_ := Aside0.mk (Kd.S_elder' (by (with_reducible repeat (first | apply Kd.S_alloc | apply Kd.S_drewN | apply Kd.S_drew)); exact HO638.out) (Kd.R_base ho0) hb); have n1_ := Aside0.mk (Kd.R_elder' (by (with_reducible repeat (first | apply Kd.R_alloc | apply Kd.R_drewN | apply Kd.R_drew)); exact HO641.out) (Kd.R_base ho0) hb); have n2_ := Aside0.mk (Kd.S_elder' (by (with_reducible repeat (first | apply Kd.S_alloc | apply Kd.S_drewN | apply Kd.S_drew)); exact HO645.out) (Kd.R_base ho0) hb); have n3_ := Aside0.mk (Kd.R_elder' (by (with_reducible repeat (first | apply Kd.R_alloc | apply Kd.R_drewN | apply Kd.R_drew)); exact HO648.out) (Kd.R_base ho0) hb); have n4_ := Aside0.mk (Kd.R_lower (Kd.R_new' (Kd.R_new' ho0 (Kd.R_lt (by (with_reducible repeat (first | apply Kd.R_alloc | apply Kd.R_drewN | apply Kd.R_drew)); exact HO641.out))) (Kd.R_lt (by (with_reducible repeat (first | apply Kd.R_alloc | apply Kd.R_drewN | apply Kd.R_drew)); exact HO648.out))) (below_size (by repeat (first | (with_reducible first | exact HB.out | apply below_alloc | apply pw_below_drewN | apply below_drew1 | refine below_set ?_ GE642.out) | exact HB.out)))); have n5_ := Aside0.mk (blk_below (g := gb642) (o := .cells #[.slice Ao14 t636.length co14, .slice Ao16 t639.length co16] 25 (0, 0)) (by (with_reducible repeat (first | refine blk_drewN ?_ _ | refine blk_drew ?_ | refine blk_alloc ?_ _)); exact BK642.out) hb); have n6_ := Aside0.mk (below_step (by repeat (first | (with_reducible first | exact HB.out | apply below_alloc | apply pw_below_drewN | apply below_drew1 | refine below_set ?_ GE642.out) | exact HB.out)) hb); clear HO638; clear HO641; clear HO645; clear HO648; clear BK642; clear HB; have HO638 := n0_; have HO641 := n1_; have HO645 := n2_; have HO648 := n3_; have HO651 := n4_; have BK642 := n5_; have HB := n6_; clear n0_ n1_ n2_ n3_ n4_ n5_ n6_; (try clear hb); (try clear hb2); (try clear hk); (try clear hi); (try clear ho0); have hcz21_0 : w20.cell? ⟨gb642, 0, none⟩ = some (.slice Ao14 t636.length co14) := (blk_cell BK642.out 0).trans rfl; have hcz21_1 : w20.cell? ⟨gb642, 1, none⟩ = some (.slice Ao16 t639.length co16) := (blk_cell BK642.out 1).trans rfl; have hfz21_0 := blk_frozen BK642.out 0; have hfz21_1 := blk_frozen BK642.out 1) | ((with_reducible refine gate_callee (f := 29) rfl ?_); refine goesL_ (some 32) rfl rfl Try.func29 (by kernel_rfl) rfl #[.agg #[.slice Ao14 t636.length co14, .slice Ao16 t639.length co16], .slice Ao19 t643.length co19] rfl (by (try simp only [List.map_toArray, List.map_cons, List.map_nil]); first | done | rfl | (simp only [List.length_drop, List.length_take]; rfl)) ?_; (with_reducible refine (arboristref13_Place.calls k _ _ t636 _ _ t639 _ _ t643 t653 t656 _ ?side1 ?side2 ?side3 ?side4 ?side5 ?side6 A9.out).mono ?_); (case side1 => repeat (first | exact (Kd.S_reads' HO638.out).2.2 | (with_reducible refine Kd.C_alloc ?_ _) | (with_reducible refine Kd.C_drewN ?_ _) | (with_reducible refine Kd.C_drew ?_))); (case side2 => exact (Kd.S_reads' HO638.out).2.1); (case side3 => repeat (first | exact (Kd.R_reads' HO641.out).2.2 | (with_reducible refine Kd.C_alloc ?_ _) | (with_reducible refine Kd.C_drewN ?_ _) | (with_reducible refine Kd.C_drew ?_))); (case side4 => exact (Kd.R_reads' HO641.out).2.1); (case side5 => repeat (first | exact (Kd.S_reads' HO645.out).2.2 | (with_reducible refine Kd.C_alloc ?_ _) | (with_reducible refine Kd.C_drewN ?_ _) | (with_reducible refine Kd.C_drew ?_))); (case side6 => exact (Kd.S_reads' HO645.out).2.1); rintro e w22 ⟨v654, rfl, ho0, hb⟩; refine ⟨_, rfl, ?_⟩; have n0_ := Aside0.mk (Kd.S_elder' (by (with_reducible repeat (first | apply Kd.S_alloc | apply Kd.S_drewN | apply Kd.S_drew)); exact HO638.out) (Kd.R_base ho0) hb); have n1_ := Aside0.mk (Kd.R_elder' (by (with_reducible repeat (first | apply Kd.R_alloc | apply Kd.R_drewN | apply Kd.R_drew)); exact HO641.out) (Kd.R_base ho0) hb); have n2_ := Aside0.mk (Kd.S_elder' (by (with_reducible repeat (first | apply Kd.S_alloc | apply Kd.S_drewN | apply Kd.S_drew)); exact HO645.out) (Kd.R_base ho0) hb); have n3_ := Aside0.mk (Kd.R_elder' (by (with_reducible repeat (first | apply Kd.R_alloc | apply Kd.R_drewN | apply Kd.R_drew)); exact HO648.out) (Kd.R_base ho0) hb); have n4_ := Aside0.mk (Kd.R_elder' (by (with_reducible repeat (first | apply Kd.R_alloc | apply Kd.R_drewN | apply Kd.R_drew)); exact HO651.out) (Kd.R_base ho0) hb); have n5_ := Aside0.mk (Kd.R_lower (Kd.R_new' (Kd.R_new' (Kd.R_new' ho0 (Kd.R_lt (by (with_reducible repeat (first | apply Kd.R_alloc | apply Kd.R_drewN | apply Kd.R_drew)); exact HO641.out))) (Kd.R_lt (by (with_reducible repeat (first | apply Kd.R_alloc | apply Kd.R_drewN | apply Kd.R_drew)); exact HO648.out))) (Kd.R_lt (by (with_reducible repeat (first | apply Kd.R_alloc | apply Kd.R_drewN | apply Kd.R_drew)); exact HO651.out))) (below_size (by repeat (first | (with_reducible first | exact HB.out | apply below_alloc | apply pw_below_drewN | apply below_drew1 | refine below_set ?_ GE642.out) | exact HB.out)))); have n6_ := Aside0.mk (blk_below (g := gb642) (o := .cells #[.slice Ao14 t636.length co14, .slice Ao16 t639.length co16] 25 (0, 0)) (by (with_reducible repeat (first | refine blk_drewN ?_ _ | refine blk_drew ?_ | refine blk_alloc ?_ _)); exact BK642.out) hb); have n7_ := Aside0.mk (below_step (by repeat (first | (with_reducible first | exact HB.out | apply below_alloc | apply pw_below_drewN | apply below_drew1 | refine below_set ?_ GE642.out) | exact HB.out)) hb); clear HO638; clear HO641; clear HO645; clear HO648; clear HO651; clear BK642; clear HB; have HO638 := n0_; have HO641 := n1_; have HO645 := n2_; have HO648 := n3_; have HO651 := n4_; have HO655 := n5_; have BK642 := n6_; have HB := n7_; clear n0_ n1_ n2_ n3_ n4_ n5_ n6_ n7_; (try clear hb); (try clear hb2); (try clear hk); (try clear hi); (try clear ho0)))
  (try simp only [Act.put, List.setIfInBounds_toArray, List.set_cons_zero, List.set_cons_succ])
  go_cut [57] (fun v57 wc => ∃ (kq : Nat) (x57_9 : Bool), v57 = .bool x57_9 ∧ Aside0 (arboristlaw13_PlaceTells.j0 kq a2 t635 x57_9 t636 t639 = some r) ∧ Aside0 (kq ≤ k) ∧ Aside0 (Kd.S (Kd.slice 3 (Kd.int .i64)) 23 wc w.heap.size (fun k_ => some k_ ≠ ((.slice Ao16 t639.length co16) : Value).ownBlock) (.slice Ao14 t636.length co14) t636) ∧ Aside0 (Kd.R (Kd.int .i64) 3 wc w.heap.size (fun _ => True) (.slice Ao16 t639.length co16) t639) ∧ Aside0 (wc.heap[gb642]? = some (.cells #[(.slice Ao14 t636.length co14), (.slice Ao16 t639.length co16)] 25 (0, 0))) ∧ Aside0 (Below w.heap.size w wc))
  case first =>
    have H := HC10.out
    clear HC10
    by_cases c23 : (t656 != (t652 == 0)) = true
    · rw [if_pos c23] at H
      have c23b0 : (t656 != (t652 == 0)) = true := c23
      (try (have c23b1 : decide (t656 = (t652 == 0)) = false := by simpa using c23))
      (try (have c23b2 : (t656 == (t652 == 0)) = false := by simpa using c23))
      (try (have c23b3 : ¬ (t656 = (t652 == 0)) := by simpa using c23))
      clear c23
      (first | rw [c23b0] | (simp only [i64_w, i32_w]; rw [c23b0]) | skip)
      have H' := Aside0.mk H
      clear H
      go_wp2
      go_meet
      case rel => exact ⟨_, (true), (by first | rfl | (simp; done) | (simp [*]; done)), H', ⟨by first | omega | exact Nat.le_refl _⟩, ⟨by (with_reducible repeat (first | apply Kd.S_alloc | apply Kd.S_drewN | apply Kd.S_drew)); exact Kd.S_mono HO638.out (fun _ hk => hk.1.1.1.1)⟩, ⟨by (with_reducible repeat (first | apply Kd.R_alloc | apply Kd.R_drewN | apply Kd.R_drew)); exact Kd.R_mono HO641.out (fun _ hk => trivial)⟩, ⟨by (with_reducible repeat (first | refine blk_drewN ?_ _ | refine blk_drew ?_ | refine blk_alloc ?_ _)); exact BK642.out⟩, ⟨by repeat (first | (with_reducible first | exact HB.out | apply below_alloc | apply pw_below_drewN | apply below_drew1 | refine below_set ?_ GE642.out) | exact HB.out)⟩⟩
    · rw [if_neg c23] at H
      have c23b0 : (t656 != (t652 == 0)) = false := by simpa using c23
      (try (have c23b1 : decide (t656 = (t652 == 0)) = true := by simpa using c23))
      (try (have c23b2 : (t656 == (t652 == 0)) = true := by simpa using c23))
      clear c23
      (first | rw [c23b0] | (simp only [i64_w, i32_w]; rw [c23b0]) | skip)
      by_cases c24 : t656 = true
      · subst c24
        have H1 : ((arboristref01_Compare.f k t649 t653).bind fun t657 => (arboristlaw13_PlaceTells.j0 k a2 t635 (t657 != 0) t636 t639)) = some r := by rw [if_pos rfl] at H; exact H
        clear H
        have H := H1
        clear H1
        replace H := Option.bind_eq_some_iff.mp H
        obtain ⟨t657, A250, H⟩ := H
        replace H : (arboristlaw13_PlaceTells.j0 k a2 t635 (t657 != 0) t636 t639) = some r := H
        have A25 := Aside0.mk A250
        clear A250
        have H' := Aside0.mk H
        clear H
        obtain ⟨Ao26, co26, eo26⟩ := Kd.R_slice HO651.out
        subst eo26
        obtain ⟨Ao27, co27, eo27⟩ := Kd.R_slice HO655.out
        subst eo27
        go_wp2_with (first | (go_at_call 30; (with_reducible refine (arboristref01_Compare.calls k _ _ t649 _ _ t653 t657 _ ?side1 ?side2 ?side3 ?side4 A25.out).mono ?_); (case side1 => repeat (first | exact (Kd.R_reads' HO651.out).2.2 | (with_reducible refine Kd.C_alloc ?_ _) | (with_reducible refine Kd.C_drewN ?_ _) | (with_reducible refine Kd.C_drew ?_))); (case side2 => exact (Kd.R_reads' HO651.out).2.1); (case side3 => repeat (first | exact (Kd.R_reads' HO655.out).2.2 | (with_reducible refine Kd.C_alloc ?_ _) | (with_reducible refine Kd.C_drewN ?_ _) | (with_reducible refine Kd.C_drew ?_))); (case side4 => exact (Kd.R_reads' HO655.out).2.1); rintro e w' ⟨rfl, ⟨nd, rfl⟩⟩))
        go_meet
        case rel => exact ⟨_, ((t657 != 0)), (by first | rfl | (simp; done) | (simp [*]; done)), H', ⟨by first | omega | exact Nat.le_refl _⟩, ⟨by (with_reducible repeat (first | apply Kd.S_alloc | apply Kd.S_drewN | apply Kd.S_drew)); exact Kd.S_mono HO638.out (fun _ hk => hk.1.1.1.1)⟩, ⟨by (with_reducible repeat (first | apply Kd.R_alloc | apply Kd.R_drewN | apply Kd.R_drew)); exact Kd.R_mono HO641.out (fun _ hk => trivial)⟩, ⟨by (with_reducible repeat (first | refine blk_drewN ?_ _ | refine blk_drew ?_ | refine blk_alloc ?_ _)); exact BK642.out⟩, ⟨by repeat (first | (with_reducible first | exact HB.out | apply below_alloc | apply pw_below_drewN | apply below_drew1 | refine below_set ?_ GE642.out) | exact HB.out)⟩⟩
      · replace c24 := Bool.eq_false_iff.mpr c24
        subst c24
        have H1 : (if t652 = 5 then (if (t649.length : Int) > 0 then (arboristlaw13_PlaceTells.j0 k a2 t635 true t636 t639) else ((arboristref01_Compare.f k t649 t653).bind fun t658 => (arboristlaw13_PlaceTells.j0 k a2 t635 (t658 != 0) t636 t639))) else (arboristlaw13_PlaceTells.j0 k a2 t635 true t636 t639)) = some r := by rw [if_neg (show ¬ (false = true) by decide)] at H; exact H
        clear H
        have H := H1
        clear H1
        by_cases c28 : t652 = 5
        · rw [if_pos c28] at H
          have c28b0 : (t652 == 5) = true := beq_iff_eq.mpr c28
          have c28b1 : (t652 != 5) = false := bne_eq_false_iff_eq.mpr c28
          clear c28
          by_cases c29 : (t649.length : Int) > 0
          · rw [if_pos c29] at H
            have c29b0 : decide (0 < (t649.length : Int)) = true := decide_eq_true c29
            have c29b1 : decide (0 < t649.length) = true := decide_eq_true (by omega)
            clear c29
            have H' := Aside0.mk H
            clear H
            obtain ⟨Ao30, co30, eo30⟩ := Kd.R_slice HO651.out
            subst eo30
            go_wp2
            go_meet
            case rel => exact ⟨_, (true), (by first | rfl | (simp; done) | (simp [*]; done)), H', ⟨by first | omega | exact Nat.le_refl _⟩, ⟨by (with_reducible repeat (first | apply Kd.S_alloc | apply Kd.S_drewN | apply Kd.S_drew)); exact Kd.S_mono HO638.out (fun _ hk => hk.1.1.1.1)⟩, ⟨by (with_reducible repeat (first | apply Kd.R_alloc | apply Kd.R_drewN | apply Kd.R_drew)); exact Kd.R_mono HO641.out (fun _ hk => trivial)⟩, ⟨by (with_reducible repeat (first | refine blk_drewN ?_ _ | refine blk_drew ?_ | refine blk_alloc ?_ _)); exact BK642.out⟩, ⟨by repeat (first | (with_reducible first | exact HB.out | apply below_alloc | apply pw_below_drewN | apply below_drew1 | refine below_set ?_ GE642.out) | exact HB.out)⟩⟩
          · rw [if_neg c29] at H
            have c29b0 : decide (0 < (t649.length : Int)) = false := decide_eq_false c29
            have c29b1 : decide (0 < t649.length) = false := decide_eq_false (by omega)
            clear c29
            replace H := Option.bind_eq_some_iff.mp H
            obtain ⟨t658, A310, H⟩ := H
            replace H : (arboristlaw13_PlaceTells.j0 k a2 t635 (t658 != 0) t636 t639) = some r := H
            have A31 := Aside0.mk A310
            clear A310
            have H' := Aside0.mk H
            clear H
            obtain ⟨Ao32, co32, eo32⟩ := Kd.R_slice HO651.out
            subst eo32
            obtain ⟨Ao33, co33, eo33⟩ := Kd.R_slice HO655.out
            subst eo33
            go_wp2_with (first | (go_at_call 30; (with_reducible refine (arboristref01_Compare.calls k _ _ t649 _ _ t653 t658 _ ?side1 ?side2 ?side3 ?side4 A31.out).mono ?_); (case side1 => repeat (first | exact (Kd.R_reads' HO651.out).2.2 | (with_reducible refine Kd.C_alloc ?_ _) | (with_reducible refine Kd.C_drewN ?_ _) | (with_reducible refine Kd.C_drew ?_))); (case side2 => exact (Kd.R_reads' HO651.out).2.1); (case side3 => repeat (first | exact (Kd.R_reads' HO655.out).2.2 | (with_reducible refine Kd.C_alloc ?_ _) | (with_reducible refine Kd.C_drewN ?_ _) | (with_reducible refine Kd.C_drew ?_))); (case side4 => exact (Kd.R_reads' HO655.out).2.1); rintro e w' ⟨rfl, ⟨nd, rfl⟩⟩))
            go_meet
            case rel => exact ⟨_, ((t658 != 0)), (by first | rfl | (simp; done) | (simp [*]; done)), H', ⟨by first | omega | exact Nat.le_refl _⟩, ⟨by (with_reducible repeat (first | apply Kd.S_alloc | apply Kd.S_drewN | apply Kd.S_drew)); exact Kd.S_mono HO638.out (fun _ hk => hk.1.1.1.1)⟩, ⟨by (with_reducible repeat (first | apply Kd.R_alloc | apply Kd.R_drewN | apply Kd.R_drew)); exact Kd.R_mono HO641.out (fun _ hk => trivial)⟩, ⟨by (with_reducible repeat (first | refine blk_drewN ?_ _ | refine blk_drew ?_ | refine blk_alloc ?_ _)); exact BK642.out⟩, ⟨by repeat (first | (with_reducible first | exact HB.out | apply below_alloc | apply pw_below_drewN | apply below_drew1 | refine below_set ?_ GE642.out) | exact HB.out)⟩⟩
        · rw [if_neg c28] at H
          have c28b0 : (t652 == 5) = false := beq_eq_false_iff_ne.mpr c28
          have c28b1 : (t652 != 5) = true := bne_iff_ne.mpr c28
          have H' := Aside0.mk H
          clear H
          go_wp2
          go_meet
          case rel => exact ⟨_, (true), (by first | rfl | (simp; done) | (simp [*]; done)), H', ⟨by first | omega | exact Nat.le_refl _⟩, ⟨by (with_reducible repeat (first | apply Kd.S_alloc | apply Kd.S_drewN | apply Kd.S_drew)); exact Kd.S_mono HO638.out (fun _ hk => hk.1.1.1.1)⟩, ⟨by (with_reducible repeat (first | apply Kd.R_alloc | apply Kd.R_drewN | apply Kd.R_drew)); exact Kd.R_mono HO641.out (fun _ hk => trivial)⟩, ⟨by (with_reducible repeat (first | refine blk_drewN ?_ _ | refine blk_drew ?_ | refine blk_alloc ?_ _)); exact BK642.out⟩, ⟨by repeat (first | (with_reducible first | exact HB.out | apply below_alloc | apply pw_below_drewN | apply below_drew1 | refine below_set ?_ GE642.out) | exact HB.out)⟩⟩
  case rest =>
    clear HC10
    try clear c1
    try clear c2
    try clear p2
    try clear c3
    try clear c9
    try clear c23
    try clear c23b0
    try clear c23b1
    try clear c23b2
    try clear c24
    try clear c26
    try clear c27
    try clear c28
    try clear c28b0
    try clear c28b1
    try clear c29
    try clear c29b0
    try clear c29b1
    try clear hcz15_0
    try clear hcz15_1
    try clear hcz18_0
    try clear hcz18_1
    try clear hcz21_0
    try clear hcz21_1
    try clear hfz15_0
    try clear hfz15_1
    try clear hfz18_0
    try clear hfz18_1
    try clear hfz21_0
    try clear hfz21_1
    obtain ⟨kq, x57_9, rfl, HA, HJ9, HO_643000, HO_643001, BK642, HB⟩ := hcut
    cases kq with
    | zero => exact absurd HA.out (by simp [arboristlaw13_PlaceTells.j0])
    | succ kj9 =>
      have H := HA.out
      clear HA
      simp only [arboristlaw13_PlaceTells.j0] at H
      by_cases c34 : x57_9 = true
      · subst c34
        have H1 : (some false) = some r := by rw [if_pos rfl] at H; exact H
        clear H
        have H := H1
        clear H1
        exact absurd ((Option.some.inj H).trans HT_.out) (by decide)
      · replace c34 := Bool.eq_false_iff.mpr c34
        subst c34
        have H1 : (if t635 = true then ((place_Separator.f t636 t639 a2).bind fun t659 => ((arboristref13_Separator.f kj9 t636 t639 a2).bind fun t662 => ((arboristref01_Compare.f kj9 t659 t662).bind fun t665 => (if t665 = 0 then ((place_Children.f kj9 t636 t639 a2).bind fun t666 => ((arboristref13_Children.f kj9 t636 t639 a2).bind fun t669 => ((arboristref01_Compare.f kj9 t666 t669).bind fun t672 => (if t672 = 0 then ((place_After.f kj9 t636 t639).bind fun t673 => ((arboristref13_After.f kj9 t636 t639).bind fun t676 => ((arboristref01_Compare.f kj9 t673 t676).bind fun t679 => (some (t679 == 0))))) else (some false))))) else (some false))))) else (some false)) = some r := by rw [if_neg (show ¬ (false = true) by decide)] at H; exact H
        clear H
        have H := H1
        clear H1
        by_cases c35 : t635 = true
        · subst c35
          have H1 : ((place_Separator.f t636 t639 a2).bind fun t659 => ((arboristref13_Separator.f kj9 t636 t639 a2).bind fun t662 => ((arboristref01_Compare.f kj9 t659 t662).bind fun t665 => (if t665 = 0 then ((place_Children.f kj9 t636 t639 a2).bind fun t666 => ((arboristref13_Children.f kj9 t636 t639 a2).bind fun t669 => ((arboristref01_Compare.f kj9 t666 t669).bind fun t672 => (if t672 = 0 then ((place_After.f kj9 t636 t639).bind fun t673 => ((arboristref13_After.f kj9 t636 t639).bind fun t676 => ((arboristref01_Compare.f kj9 t673 t676).bind fun t679 => (some (t679 == 0))))) else (some false))))) else (some false))))) = some r := by rw [if_pos rfl] at H; exact H
          clear H
          have H := H1
          clear H1
          replace H := Option.bind_eq_some_iff.mp H
          obtain ⟨t659, A360, H⟩ := H
          replace H : ((arboristref13_Separator.f kj9 t636 t639 a2).bind fun t662 => ((arboristref01_Compare.f kj9 t659 t662).bind fun t665 => (if t665 = 0 then ((place_Children.f kj9 t636 t639 a2).bind fun t666 => ((arboristref13_Children.f kj9 t636 t639 a2).bind fun t669 => ((arboristref01_Compare.f kj9 t666 t669).bind fun t672 => (if t672 = 0 then ((place_After.f kj9 t636 t639).bind fun t673 => ((arboristref13_After.f kj9 t636 t639).bind fun t676 => ((arboristref01_Compare.f kj9 t673 t676).bind fun t679 => (some (t679 == 0))))) else (some false))))) else (some false)))) = some r := H
          have A36 := Aside0.mk A360
          clear A360
          replace H := Option.bind_eq_some_iff.mp H
          obtain ⟨t662, A370, H⟩ := H
          replace H : ((arboristref01_Compare.f kj9 t659 t662).bind fun t665 => (if t665 = 0 then ((place_Children.f kj9 t636 t639 a2).bind fun t666 => ((arboristref13_Children.f kj9 t636 t639 a2).bind fun t669 => ((arboristref01_Compare.f kj9 t666 t669).bind fun t672 => (if t672 = 0 then ((place_After.f kj9 t636 t639).bind fun t673 => ((arboristref13_After.f kj9 t636 t639).bind fun t676 => ((arboristref01_Compare.f kj9 t673 t676).bind fun t679 => (some (t679 == 0))))) else (some false))))) else (some false))) = some r := H
          have A37 := Aside0.mk A370
          clear A370
          replace H := Option.bind_eq_some_iff.mp H
          obtain ⟨t665, A380, H⟩ := H
          replace H : (if t665 = 0 then ((place_Children.f kj9 t636 t639 a2).bind fun t666 => ((arboristref13_Children.f kj9 t636 t639 a2).bind fun t669 => ((arboristref01_Compare.f kj9 t666 t669).bind fun t672 => (if t672 = 0 then ((place_After.f kj9 t636 t639).bind fun t673 => ((arboristref13_After.f kj9 t636 t639).bind fun t676 => ((arboristref01_Compare.f kj9 t673 t676).bind fun t679 => (some (t679 == 0))))) else (some false))))) else (some false)) = some r := H
          have A38 := Aside0.mk A380
          clear A380
          by_cases c39 : t665 = 0
          · rw [if_pos c39] at H
            have c39b0 : (t665 == 0) = true := beq_iff_eq.mpr c39
            have c39b1 : (t665 != 0) = false := bne_eq_false_iff_eq.mpr c39
            clear c39
            replace H := Option.bind_eq_some_iff.mp H
            obtain ⟨t666, A400, H⟩ := H
            replace H : ((arboristref13_Children.f kj9 t636 t639 a2).bind fun t669 => ((arboristref01_Compare.f kj9 t666 t669).bind fun t672 => (if t672 = 0 then ((place_After.f kj9 t636 t639).bind fun t673 => ((arboristref13_After.f kj9 t636 t639).bind fun t676 => ((arboristref01_Compare.f kj9 t673 t676).bind fun t679 => (some (t679 == 0))))) else (some false)))) = some r := H
            have A40 := Aside0.mk A400
            clear A400
            replace H := Option.bind_eq_some_iff.mp H
            obtain ⟨t669, A410, H⟩ := H
            replace H : ((arboristref01_Compare.f kj9 t666 t669).bind fun t672 => (if t672 = 0 then ((place_After.f kj9 t636 t639).bind fun t673 => ((arboristref13_After.f kj9 t636 t639).bind fun t676 => ((arboristref01_Compare.f kj9 t673 t676).bind fun t679 => (some (t679 == 0))))) else (some false))) = some r := H
            have A41 := Aside0.mk A410
            clear A410
            replace H := Option.bind_eq_some_iff.mp H
            obtain ⟨t672, A420, H⟩ := H
            replace H : (if t672 = 0 then ((place_After.f kj9 t636 t639).bind fun t673 => ((arboristref13_After.f kj9 t636 t639).bind fun t676 => ((arboristref01_Compare.f kj9 t673 t676).bind fun t679 => (some (t679 == 0))))) else (some false)) = some r := H
            have A42 := Aside0.mk A420
            clear A420
            by_cases c43 : t672 = 0
            · rw [if_pos c43] at H
              have c43b0 : (t672 == 0) = true := beq_iff_eq.mpr c43
              have c43b1 : (t672 != 0) = false := bne_eq_false_iff_eq.mpr c43
              clear c43
              replace H := Option.bind_eq_some_iff.mp H
              obtain ⟨t673, A440, H⟩ := H
              replace H : ((arboristref13_After.f kj9 t636 t639).bind fun t676 => ((arboristref01_Compare.f kj9 t673 t676).bind fun t679 => (some (t679 == 0)))) = some r := H
              have A44 := Aside0.mk A440
              clear A440
              replace H := Option.bind_eq_some_iff.mp H
              obtain ⟨t676, A450, H⟩ := H
              replace H : ((arboristref01_Compare.f kj9 t673 t676).bind fun t679 => (some (t679 == 0))) = some r := H
              have A45 := Aside0.mk A450
              clear A450
              replace H := Option.bind_eq_some_iff.mp H
              obtain ⟨t679, A460, H⟩ := H
              replace H : (some (t679 == 0)) = some r := H
              have A46 := Aside0.mk A460
              clear A460
              obtain rfl := Option.some.inj H
              try go_wp2
              have n0_ := Aside0.mk (Kd.S_drew HO_643000.out)
              have n1_ := Aside0.mk (Kd.R_drew HO_643001.out)
              have n2_ := Aside0.mk (blk_drew BK642.out)
              have n3_ := Aside0.mk (below_drew1 HB.out)
              clear HO_643000
              clear HO_643001
              clear BK642
              clear HB
              have HO_643000 := n0_
              have HO_643001 := n1_
              have BK642 := n2_
              have HB := n3_
              clear n0_ n1_ n2_ n3_
              refine start_ (n := 30) (S := fun w' => w'.cell? ⟨gb642, 0, none⟩ = some (.slice Ao14 t636.length co14) ∧ w'.cell? ⟨gb642, 1, none⟩ = some (.slice Ao16 t639.length co16)) (ds := []) (bs 30 0) (by kernel_rfl) rfl rfl ⟨(blk_cell BK642.out 0).trans rfl, (blk_cell BK642.out 1).trans rfl⟩ (fun hHeld => ?_); refine with_tabW arboristlaw13_PlaceTells.tab8 arboristlaw13_PlaceTells.bits8 (fun HT_ HW_ => ?_)
              generalize wc.drew = w47 at HO_643000 HO_643001 BK642 HB hHeld ⊢
              refine pure_ (i := 0) (N := some 58) (v := ?_) (a' := ?_) (bs 30 1) rfl rfl (any_of HT_.out (by kernel_rfl)) (fun _ _ _ h => h) (Or.inl ⟨by rfl, ?_⟩) ?_ ?_
              rotate_left; (intro w'; go_simp; with_reducible rfl); rotate_left; (simp only [Act.put, List.setIfInBounds_toArray, List.set_cons_zero, List.set_cons_succ, i64_w, i32_w]; rfl)
              refine pure_ (i := 1) (N := some 59) (v := ?_) (a' := ?_) (bs 30 3) rfl rfl (any_of HT_.out (by kernel_rfl)) (fun _ _ _ h => h) (Or.inl ⟨by rfl, ?_⟩) ?_ ?_
              rotate_left; (intro w'; go_simp; with_reducible rfl); rotate_left; (simp only [Act.put, List.setIfInBounds_toArray, List.set_cons_zero, List.set_cons_succ, i64_w, i32_w]; rfl)
              refine pure_ (i := 3) (N := some 61) (v := ?_) (a' := ?_) (bs 30 11) rfl rfl (any_of HT_.out (by kernel_rfl)) (fun _ _ _ h => h) (Or.inl ⟨by rfl, ?_⟩) ?_ ?_
              rotate_left; (intro w'; go_simp; with_reducible rfl); rotate_left; (simp only [Act.put, List.setIfInBounds_toArray, List.set_cons_zero, List.set_cons_succ, i64_w, i32_w]; rfl)
              refine pure_ (i := 6) (N := some 64) (v := ?_) (a' := ?_) (bs 30 75) rfl rfl (any_of HT_.out (by kernel_rfl)) (fun _ _ _ h => h) (Or.inl ⟨by rfl, ?_⟩) ?_ ?_
              rotate_left; (intro w'; go_simp; with_reducible rfl); rotate_left; (simp only [Act.put, List.setIfInBounds_toArray, List.set_cons_zero, List.set_cons_succ, i64_w, i32_w]; rfl)
              refine take_ (i := 2) (N := some 60) (v := ?_) (a' := ?_) (bs 30 79) rfl rfl (take_ofW HT_.out HW_.out (by kernel_rfl)) (fun _ _ _ h => h) (Or.inl ⟨by rfl, ?_⟩) hHeld ?_ ?_
              rotate_left
              · rintro w' ⟨s0, s1⟩
                go_simp
                with_reducible rfl
              rotate_left; (simp only [Act.put, List.setIfInBounds_toArray, List.set_cons_zero, List.set_cons_succ, i64_w, i32_w]; rfl)
              refine take_ (i := 5) (N := some 63) (v := ?_) (a' := ?_) (bs 30 111) rfl rfl (take_ofW HT_.out HW_.out (by kernel_rfl)) (fun _ _ _ h => h) (Or.inl ⟨by rfl, ?_⟩) hHeld ?_ ?_
              rotate_left
              · rintro w' ⟨s0, s1⟩
                go_simp
                with_reducible rfl
              rotate_left; (simp only [Act.put, List.setIfInBounds_toArray, List.set_cons_zero, List.set_cons_succ, i64_w, i32_w]; rfl)
              refine one_ (i := 4) (N := some 62) (bs 30 127) rfl rfl (one_of HT_.out (by kernel_rfl)) (by decide) (fun K hK => ?_)
              refine goes_ Try.func31 (by kernel_rfl) rfl #[.agg #[.slice Ao14 t636.length co14, .slice Ao16 t639.length co16], .int .i64 a2] (by rfl) rfl rfl (by (try simp only [List.map_toArray, List.map_cons, List.map_nil]); first | done | rfl | (simp only [List.length_drop, List.length_take]; rfl)) ?_
              with_reducible refine (place_Separator.calls _ _ t636 _ _ t639 a2 t659 _ ?side1 ?side2 ?side3 ?side4 A36.out).mono ?_
              (case side1 => repeat (first | exact (Kd.S_reads' HO_643000.out).2.2 | (with_reducible refine Kd.C_alloc ?_ _) | (with_reducible refine Kd.C_drewN ?_ _) | (with_reducible refine Kd.C_drew ?_)))
              (case side2 => exact (Kd.S_reads' HO_643000.out).2.1)
              (case side3 => repeat (first | exact (Kd.R_reads' HO_643001.out).2.2 | (with_reducible refine Kd.C_alloc ?_ _) | (with_reducible refine Kd.C_drewN ?_ _) | (with_reducible refine Kd.C_drew ?_)))
              (case side4 => exact (Kd.R_reads' HO_643001.out).2.1)
              rintro e w48 ⟨v660, rfl, ho0, hb⟩
              refine ⟨_, rfl, ?_⟩
              have n0_ := Aside0.mk (Kd.S_elder' (by (with_reducible repeat (first | apply Kd.S_alloc | apply Kd.S_drewN | apply Kd.S_drew)); exact HO_643000.out) (Kd.R_base ho0) hb)
              have n1_ := Aside0.mk (Kd.R_elder' (by (with_reducible repeat (first | apply Kd.R_alloc | apply Kd.R_drewN | apply Kd.R_drew)); exact HO_643001.out) (Kd.R_base ho0) hb)
              have n2_ := Aside0.mk (Kd.R_lower (Kd.R_new' ho0 (Kd.R_lt (by (with_reducible repeat (first | apply Kd.R_alloc | apply Kd.R_drewN | apply Kd.R_drew)); exact HO_643001.out))) (below_size (by repeat (first | (with_reducible first | exact HB.out | apply below_alloc | apply pw_below_drewN | apply below_drew1 | refine below_set ?_ GE642.out) | exact HB.out))))
              have n3_ := Aside0.mk (blk_below (g := gb642) (o := .cells #[.slice Ao14 t636.length co14, .slice Ao16 t639.length co16] 25 (0, 0)) (by (with_reducible repeat (first | refine blk_drewN ?_ _ | refine blk_drew ?_ | refine blk_alloc ?_ _)); exact BK642.out) hb)
              have n4_ := Aside0.mk (below_step (by repeat (first | (with_reducible first | exact HB.out | apply below_alloc | apply pw_below_drewN | apply below_drew1 | refine below_set ?_ GE642.out) | exact HB.out)) hb)
              clear HO_643000
              clear HO_643001
              clear BK642
              clear HB
              have HO_643000 := n0_
              have HO_643001 := n1_
              have HO661 := n2_
              have BK642 := n3_
              have HB := n4_
              clear n0_ n1_ n2_ n3_ n4_
              (try clear hb)
              (try clear hb2)
              (try clear hk)
              (try clear hi)
              (try clear ho0)
              refine hK.out _ _ ⟨(blk_cell BK642.out 0).trans rfl, (blk_cell BK642.out 1).trans rfl⟩ (fun hHeld => ?_)
              clear hK K
              refine norm_ (a' := ?_) ?_ ?_
              rotate_left
              · show Act.put _ (some 62) _ = _
                simp only [Act.put, List.setIfInBounds_toArray, List.set_cons_zero, List.set_cons_succ, i64_w, i32_w]
                rfl
              refine one_ (i := 7) (N := some 65) (bs 30 255) rfl rfl (one_of HT_.out (by kernel_rfl)) (by decide) (fun K hK => ?_)
              refine goes_ Try.func32 (by kernel_rfl) rfl #[.agg #[.slice Ao14 t636.length co14, .slice Ao16 t639.length co16], .int .i64 a2] (by rfl) rfl rfl (by (try simp only [List.map_toArray, List.map_cons, List.map_nil]); first | done | rfl | (simp only [List.length_drop, List.length_take]; rfl)) ?_
              with_reducible refine (arboristref13_Separator.calls kj9 _ _ t636 _ _ t639 a2 t662 _ ?side1 ?side2 ?side3 ?side4 A37.out).mono ?_
              (case side1 => repeat (first | exact (Kd.S_reads' HO_643000.out).2.2 | (with_reducible refine Kd.C_alloc ?_ _) | (with_reducible refine Kd.C_drewN ?_ _) | (with_reducible refine Kd.C_drew ?_)))
              (case side2 => exact (Kd.S_reads' HO_643000.out).2.1)
              (case side3 => repeat (first | exact (Kd.R_reads' HO_643001.out).2.2 | (with_reducible refine Kd.C_alloc ?_ _) | (with_reducible refine Kd.C_drewN ?_ _) | (with_reducible refine Kd.C_drew ?_)))
              (case side4 => exact (Kd.R_reads' HO_643001.out).2.1)
              rintro e w49 ⟨v663, rfl, ho0, hb⟩
              refine ⟨_, rfl, ?_⟩
              have n0_ := Aside0.mk (Kd.S_elder' (by (with_reducible repeat (first | apply Kd.S_alloc | apply Kd.S_drewN | apply Kd.S_drew)); exact HO_643000.out) (Kd.R_base ho0) hb)
              have n1_ := Aside0.mk (Kd.R_elder' (by (with_reducible repeat (first | apply Kd.R_alloc | apply Kd.R_drewN | apply Kd.R_drew)); exact HO_643001.out) (Kd.R_base ho0) hb)
              have n2_ := Aside0.mk (Kd.R_elder' (by (with_reducible repeat (first | apply Kd.R_alloc | apply Kd.R_drewN | apply Kd.R_drew)); exact HO661.out) (Kd.R_base ho0) hb)
              have n3_ := Aside0.mk (Kd.R_lower (Kd.R_new' (Kd.R_new' ho0 (Kd.R_lt (by (with_reducible repeat (first | apply Kd.R_alloc | apply Kd.R_drewN | apply Kd.R_drew)); exact HO_643001.out))) (Kd.R_lt (by (with_reducible repeat (first | apply Kd.R_alloc | apply Kd.R_drewN | apply Kd.R_drew)); exact HO661.out))) (below_size (by repeat (first | (with_reducible first | exact HB.out | apply below_alloc | apply pw_below_drewN | apply below_drew1 | refine below_set ?_ GE642.out) | exact HB.out))))
              have n4_ := Aside0.mk (blk_below (g := gb642) (o := .cells #[.slice Ao14 t636.length co14, .slice Ao16 t639.length co16] 25 (0, 0)) (by (with_reducible repeat (first | refine blk_drewN ?_ _ | refine blk_drew ?_ | refine blk_alloc ?_ _)); exact BK642.out) hb)
              have n5_ := Aside0.mk (below_step (by repeat (first | (with_reducible first | exact HB.out | apply below_alloc | apply pw_below_drewN | apply below_drew1 | refine below_set ?_ GE642.out) | exact HB.out)) hb)
              clear HO_643000
              clear HO_643001
              clear HO661
              clear BK642
              clear HB
              have HO_643000 := n0_
              have HO_643001 := n1_
              have HO661 := n2_
              have HO664 := n3_
              have BK642 := n4_
              have HB := n5_
              clear n0_ n1_ n2_ n3_ n4_ n5_
              (try clear hb)
              (try clear hb2)
              (try clear hk)
              (try clear hi)
              (try clear ho0)
              obtain ⟨Ao50, co50, eo50⟩ := Kd.R_slice HO661.out
              (first | subst eo50 | (injection eo50 with f1_ f2_ f3_; have f4_ := f1_.symm; have f5_ := f3_.symm; clear f1_ f2_ f3_; subst f4_; subst f5_))
              obtain ⟨Ao51, co51, eo51⟩ := Kd.R_slice HO664.out
              (first | subst eo51 | (injection eo51 with f1_ f2_ f3_; have f4_ := f1_.symm; have f5_ := f3_.symm; clear f1_ f2_ f3_; subst f4_; subst f5_))
              refine hK.out _ _ ⟨(blk_cell BK642.out 0).trans rfl, (blk_cell BK642.out 1).trans rfl⟩ (fun hHeld => ?_)
              clear hK K
              refine norm_ (a' := ?_) ?_ ?_
              rotate_left
              · show Act.put _ (some 65) _ = _
                simp only [Act.put, List.setIfInBounds_toArray, List.set_cons_zero, List.set_cons_succ, i64_w, i32_w]
                rfl
              refine one_ (i := 8) (N := some 66) (bs 30 511) rfl rfl (one_of HT_.out (by kernel_rfl)) (by decide) (fun K hK => ?_)
              refine goes_ Try.func30 (by kernel_rfl) rfl #[.slice Ao50 t659.length co50, .slice Ao51 t662.length co51] (by rfl) rfl rfl (by (try simp only [List.map_toArray, List.map_cons, List.map_nil]); first | done | rfl | (simp only [List.length_drop, List.length_take]; rfl)) ?_
              with_reducible refine (arboristref01_Compare.calls kj9 _ _ t659 _ _ t662 t665 _ ?side1 ?side2 ?side3 ?side4 A38.out).mono ?_
              (case side1 => repeat (first | exact (Kd.R_reads' HO661.out).2.2 | (with_reducible refine Kd.C_alloc ?_ _) | (with_reducible refine Kd.C_drewN ?_ _) | (with_reducible refine Kd.C_drew ?_)))
              (case side2 => exact (Kd.R_reads' HO661.out).2.1)
              (case side3 => repeat (first | exact (Kd.R_reads' HO664.out).2.2 | (with_reducible refine Kd.C_alloc ?_ _) | (with_reducible refine Kd.C_drewN ?_ _) | (with_reducible refine Kd.C_drew ?_)))
              (case side4 => exact (Kd.R_reads' HO664.out).2.1)
              rintro e w' ⟨rfl, ⟨nd, rfl⟩⟩
              refine ⟨_, rfl, ?_⟩
              refine hK.out _ _ ⟨(blk_cell BK642.out 0).trans rfl, (blk_cell BK642.out 1).trans rfl⟩ (fun hHeld => ?_)
              clear hK K
              refine norm_ (a' := ?_) ?_ ?_
              rotate_left
              · show Act.put _ (some 66) _ = _
                simp only [Act.put, List.setIfInBounds_toArray, List.set_cons_zero, List.set_cons_succ, i64_w, i32_w]
                rfl
              refine pure_ (i := 9) (N := some 67) (v := ?_) (a' := ?_) (bs 30 1023) rfl rfl (any_of HT_.out (by kernel_rfl)) (fun _ _ _ h => h) (Or.inl ⟨by rfl, ?_⟩) ?_ ?_
              rotate_left; (intro w'; go_simp; with_reducible rfl); rotate_left; (simp only [Act.put, List.setIfInBounds_toArray, List.set_cons_zero, List.set_cons_succ, i64_w, i32_w]; rfl)
              refine pure_ (i := 10) (N := some 68) (v := ?_) (a' := ?_) (bs 30 2047) rfl rfl (any_of HT_.out (by kernel_rfl)) (fun _ _ _ h => h) (Or.inl ⟨by rfl, ?_⟩) ?_ ?_
              rotate_left; (intro w'; go_simp; with_reducible rfl); rotate_left; (simp only [Act.put, List.setIfInBounds_toArray, List.set_cons_zero, List.set_cons_succ, i64_w, i32_w]; rfl)
              refine pure_ (i := 11) (N := some 69) (v := ?_) (a' := ?_) (bs 30 4095) rfl rfl (any_of HT_.out (by kernel_rfl)) (fun _ _ _ h => h) (Or.inl ⟨by rfl, ?_⟩) ?_ ?_
              rotate_left; (intro w'; go_simp; with_reducible rfl); rotate_left; (simp only [Act.put, List.setIfInBounds_toArray, List.set_cons_zero, List.set_cons_succ, i64_w, i32_w]; rfl)
              refine pure_ (i := 13) (N := some 71) (v := ?_) (a' := ?_) (bs 30 12287) rfl rfl (any_of HT_.out (by kernel_rfl)) (fun _ _ _ h => h) (Or.inl ⟨by rfl, ?_⟩) ?_ ?_
              rotate_left; (intro w'; go_simp; with_reducible rfl); rotate_left; (simp only [Act.put, List.setIfInBounds_toArray, List.set_cons_zero, List.set_cons_succ, i64_w, i32_w]; rfl)
              refine pure_ (i := 16) (N := some 74) (v := ?_) (a' := ?_) (bs 30 77823) rfl rfl (any_of HT_.out (by kernel_rfl)) (fun _ _ _ h => h) (Or.inl ⟨by rfl, ?_⟩) ?_ ?_
              rotate_left; (intro w'; go_simp; with_reducible rfl); rotate_left; (simp only [Act.put, List.setIfInBounds_toArray, List.set_cons_zero, List.set_cons_succ, i64_w, i32_w]; rfl)
              refine take_ (i := 12) (N := some 70) (v := ?_) (a' := ?_) (bs 30 81919) rfl rfl (take_ofW HT_.out HW_.out (by kernel_rfl)) (fun _ _ _ h => h) (Or.inl ⟨by rfl, ?_⟩) hHeld ?_ ?_
              rotate_left
              · rintro w' ⟨s0, s1⟩
                go_simp
                with_reducible rfl
              rotate_left; (simp only [Act.put, List.setIfInBounds_toArray, List.set_cons_zero, List.set_cons_succ, i64_w, i32_w]; rfl)
              refine take_ (i := 15) (N := some 73) (v := ?_) (a' := ?_) (bs 30 114687) rfl rfl (take_ofW HT_.out HW_.out (by kernel_rfl)) (fun _ _ _ h => h) (Or.inl ⟨by rfl, ?_⟩) hHeld ?_ ?_
              rotate_left
              · rintro w' ⟨s0, s1⟩
                go_simp
                with_reducible rfl
              rotate_left; (simp only [Act.put, List.setIfInBounds_toArray, List.set_cons_zero, List.set_cons_succ, i64_w, i32_w]; rfl)
              refine one_ (i := 14) (N := some 72) (bs 30 131071) rfl rfl (one_of HT_.out (by kernel_rfl)) (by decide) (fun K hK => ?_)
              refine goes_ Try.func33 (by kernel_rfl) rfl #[.agg #[.slice Ao14 t636.length co14, .slice Ao16 t639.length co16], .int .i64 a2] (by rfl) rfl rfl (by (try simp only [List.map_toArray, List.map_cons, List.map_nil]); first | done | rfl | (simp only [List.length_drop, List.length_take]; rfl)) ?_
              with_reducible refine (place_Children.calls kj9 _ _ t636 _ _ t639 a2 t666 _ ?side1 ?side2 ?side3 ?side4 A40.out).mono ?_
              (case side1 => repeat (first | exact (Kd.S_reads' HO_643000.out).2.2 | (with_reducible refine Kd.C_alloc ?_ _) | (with_reducible refine Kd.C_drewN ?_ _) | (with_reducible refine Kd.C_drew ?_)))
              (case side2 => exact (Kd.S_reads' HO_643000.out).2.1)
              (case side3 => repeat (first | exact (Kd.R_reads' HO_643001.out).2.2 | (with_reducible refine Kd.C_alloc ?_ _) | (with_reducible refine Kd.C_drewN ?_ _) | (with_reducible refine Kd.C_drew ?_)))
              (case side4 => exact (Kd.R_reads' HO_643001.out).2.1)
              rintro e w52 ⟨v667, rfl, ho0, hb⟩
              refine ⟨_, rfl, ?_⟩
              have n0_ := Aside0.mk (Kd.S_elder' (by (with_reducible repeat (first | apply Kd.S_alloc | apply Kd.S_drewN | apply Kd.S_drew)); exact HO_643000.out) (Kd.R_base ho0) hb)
              have n1_ := Aside0.mk (Kd.R_elder' (by (with_reducible repeat (first | apply Kd.R_alloc | apply Kd.R_drewN | apply Kd.R_drew)); exact HO_643001.out) (Kd.R_base ho0) hb)
              have n2_ := Aside0.mk (Kd.R_elder' (by (with_reducible repeat (first | apply Kd.R_alloc | apply Kd.R_drewN | apply Kd.R_drew)); exact HO661.out) (Kd.R_base ho0) hb)
              have n3_ := Aside0.mk (Kd.R_elder' (by (with_reducible repeat (first | apply Kd.R_alloc | apply Kd.R_drewN | apply Kd.R_drew)); exact HO664.out) (Kd.R_base ho0) hb)
              have n4_ := Aside0.mk (Kd.R_lower (Kd.R_new' (Kd.R_new' (Kd.R_new' ho0 (Kd.R_lt (by (with_reducible repeat (first | apply Kd.R_alloc | apply Kd.R_drewN | apply Kd.R_drew)); exact HO_643001.out))) (Kd.R_lt (by (with_reducible repeat (first | apply Kd.R_alloc | apply Kd.R_drewN | apply Kd.R_drew)); exact HO661.out))) (Kd.R_lt (by (with_reducible repeat (first | apply Kd.R_alloc | apply Kd.R_drewN | apply Kd.R_drew)); exact HO664.out))) (below_size (by repeat (first | (with_reducible first | exact HB.out | apply below_alloc | apply pw_below_drewN | apply below_drew1 | refine below_set ?_ GE642.out) | exact HB.out))))
              have n5_ := Aside0.mk (blk_below (g := gb642) (o := .cells #[.slice Ao14 t636.length co14, .slice Ao16 t639.length co16] 25 (0, 0)) (by (with_reducible repeat (first | refine blk_drewN ?_ _ | refine blk_drew ?_ | refine blk_alloc ?_ _)); exact BK642.out) hb)
              have n6_ := Aside0.mk (below_step (by repeat (first | (with_reducible first | exact HB.out | apply below_alloc | apply pw_below_drewN | apply below_drew1 | refine below_set ?_ GE642.out) | exact HB.out)) hb)
              clear HO_643000
              clear HO_643001
              clear HO661
              clear HO664
              clear BK642
              clear HB
              have HO_643000 := n0_
              have HO_643001 := n1_
              have HO661 := n2_
              have HO664 := n3_
              have HO668 := n4_
              have BK642 := n5_
              have HB := n6_
              clear n0_ n1_ n2_ n3_ n4_ n5_ n6_
              (try clear hb)
              (try clear hb2)
              (try clear hk)
              (try clear hi)
              (try clear ho0)
              refine hK.out _ _ ⟨(blk_cell BK642.out 0).trans rfl, (blk_cell BK642.out 1).trans rfl⟩ (fun hHeld => ?_)
              clear hK K
              refine norm_ (a' := ?_) ?_ ?_
              rotate_left
              · show Act.put _ (some 72) _ = _
                simp only [Act.put, List.setIfInBounds_toArray, List.set_cons_zero, List.set_cons_succ, i64_w, i32_w]
                rfl
              refine one_ (i := 17) (N := some 75) (bs 30 262143) rfl rfl (one_of HT_.out (by kernel_rfl)) (by decide) (fun K hK => ?_)
              refine goes_ Try.func34 (by kernel_rfl) rfl #[.agg #[.slice Ao14 t636.length co14, .slice Ao16 t639.length co16], .int .i64 a2] (by rfl) rfl rfl (by (try simp only [List.map_toArray, List.map_cons, List.map_nil]); first | done | rfl | (simp only [List.length_drop, List.length_take]; rfl)) ?_
              with_reducible refine (arboristref13_Children.calls kj9 _ _ t636 _ _ t639 a2 t669 _ ?side1 ?side2 ?side3 ?side4 A41.out).mono ?_
              (case side1 => repeat (first | exact (Kd.S_reads' HO_643000.out).2.2 | (with_reducible refine Kd.C_alloc ?_ _) | (with_reducible refine Kd.C_drewN ?_ _) | (with_reducible refine Kd.C_drew ?_)))
              (case side2 => exact (Kd.S_reads' HO_643000.out).2.1)
              (case side3 => repeat (first | exact (Kd.R_reads' HO_643001.out).2.2 | (with_reducible refine Kd.C_alloc ?_ _) | (with_reducible refine Kd.C_drewN ?_ _) | (with_reducible refine Kd.C_drew ?_)))
              (case side4 => exact (Kd.R_reads' HO_643001.out).2.1)
              rintro e w53 ⟨v670, rfl, ho0, hb⟩
              refine ⟨_, rfl, ?_⟩
              have n0_ := Aside0.mk (Kd.S_elder' (by (with_reducible repeat (first | apply Kd.S_alloc | apply Kd.S_drewN | apply Kd.S_drew)); exact HO_643000.out) (Kd.R_base ho0) hb)
              have n1_ := Aside0.mk (Kd.R_elder' (by (with_reducible repeat (first | apply Kd.R_alloc | apply Kd.R_drewN | apply Kd.R_drew)); exact HO_643001.out) (Kd.R_base ho0) hb)
              have n2_ := Aside0.mk (Kd.R_elder' (by (with_reducible repeat (first | apply Kd.R_alloc | apply Kd.R_drewN | apply Kd.R_drew)); exact HO661.out) (Kd.R_base ho0) hb)
              have n3_ := Aside0.mk (Kd.R_elder' (by (with_reducible repeat (first | apply Kd.R_alloc | apply Kd.R_drewN | apply Kd.R_drew)); exact HO664.out) (Kd.R_base ho0) hb)
              have n4_ := Aside0.mk (Kd.R_elder' (by (with_reducible repeat (first | apply Kd.R_alloc | apply Kd.R_drewN | apply Kd.R_drew)); exact HO668.out) (Kd.R_base ho0) hb)
              have n5_ := Aside0.mk (Kd.R_lower (Kd.R_new' (Kd.R_new' (Kd.R_new' (Kd.R_new' ho0 (Kd.R_lt (by (with_reducible repeat (first | apply Kd.R_alloc | apply Kd.R_drewN | apply Kd.R_drew)); exact HO_643001.out))) (Kd.R_lt (by (with_reducible repeat (first | apply Kd.R_alloc | apply Kd.R_drewN | apply Kd.R_drew)); exact HO661.out))) (Kd.R_lt (by (with_reducible repeat (first | apply Kd.R_alloc | apply Kd.R_drewN | apply Kd.R_drew)); exact HO664.out))) (Kd.R_lt (by (with_reducible repeat (first | apply Kd.R_alloc | apply Kd.R_drewN | apply Kd.R_drew)); exact HO668.out))) (below_size (by repeat (first | (with_reducible first | exact HB.out | apply below_alloc | apply pw_below_drewN | apply below_drew1 | refine below_set ?_ GE642.out) | exact HB.out))))
              have n6_ := Aside0.mk (blk_below (g := gb642) (o := .cells #[.slice Ao14 t636.length co14, .slice Ao16 t639.length co16] 25 (0, 0)) (by (with_reducible repeat (first | refine blk_drewN ?_ _ | refine blk_drew ?_ | refine blk_alloc ?_ _)); exact BK642.out) hb)
              have n7_ := Aside0.mk (below_step (by repeat (first | (with_reducible first | exact HB.out | apply below_alloc | apply pw_below_drewN | apply below_drew1 | refine below_set ?_ GE642.out) | exact HB.out)) hb)
              clear HO_643000
              clear HO_643001
              clear HO661
              clear HO664
              clear HO668
              clear BK642
              clear HB
              have HO_643000 := n0_
              have HO_643001 := n1_
              have HO661 := n2_
              have HO664 := n3_
              have HO668 := n4_
              have HO671 := n5_
              have BK642 := n6_
              have HB := n7_
              clear n0_ n1_ n2_ n3_ n4_ n5_ n6_ n7_
              (try clear hb)
              (try clear hb2)
              (try clear hk)
              (try clear hi)
              (try clear ho0)
              obtain ⟨Ao54, co54, eo54⟩ := Kd.R_slice HO668.out
              (first | subst eo54 | (injection eo54 with f1_ f2_ f3_; have f4_ := f1_.symm; have f5_ := f3_.symm; clear f1_ f2_ f3_; subst f4_; subst f5_))
              obtain ⟨Ao55, co55, eo55⟩ := Kd.R_slice HO671.out
              (first | subst eo55 | (injection eo55 with f1_ f2_ f3_; have f4_ := f1_.symm; have f5_ := f3_.symm; clear f1_ f2_ f3_; subst f4_; subst f5_))
              refine hK.out _ _ ⟨(blk_cell BK642.out 0).trans rfl, (blk_cell BK642.out 1).trans rfl⟩ (fun hHeld => ?_)
              clear hK K
              refine norm_ (a' := ?_) ?_ ?_
              rotate_left
              · show Act.put _ (some 75) _ = _
                simp only [Act.put, List.setIfInBounds_toArray, List.set_cons_zero, List.set_cons_succ, i64_w, i32_w]
                rfl
              refine one_ (i := 18) (N := some 76) (bs 30 524287) rfl rfl (one_of HT_.out (by kernel_rfl)) (by decide) (fun K hK => ?_)
              refine goes_ Try.func30 (by kernel_rfl) rfl #[.slice Ao54 t666.length co54, .slice Ao55 t669.length co55] (by rfl) rfl rfl (by (try simp only [List.map_toArray, List.map_cons, List.map_nil]); first | done | rfl | (simp only [List.length_drop, List.length_take]; rfl)) ?_
              with_reducible refine (arboristref01_Compare.calls kj9 _ _ t666 _ _ t669 t672 _ ?side1 ?side2 ?side3 ?side4 A42.out).mono ?_
              (case side1 => repeat (first | exact (Kd.R_reads' HO668.out).2.2 | (with_reducible refine Kd.C_alloc ?_ _) | (with_reducible refine Kd.C_drewN ?_ _) | (with_reducible refine Kd.C_drew ?_)))
              (case side2 => exact (Kd.R_reads' HO668.out).2.1)
              (case side3 => repeat (first | exact (Kd.R_reads' HO671.out).2.2 | (with_reducible refine Kd.C_alloc ?_ _) | (with_reducible refine Kd.C_drewN ?_ _) | (with_reducible refine Kd.C_drew ?_)))
              (case side4 => exact (Kd.R_reads' HO671.out).2.1)
              rintro e w' ⟨rfl, ⟨nd, rfl⟩⟩
              refine ⟨_, rfl, ?_⟩
              refine hK.out _ _ ⟨(blk_cell BK642.out 0).trans rfl, (blk_cell BK642.out 1).trans rfl⟩ (fun hHeld => ?_)
              clear hK K
              refine norm_ (a' := ?_) ?_ ?_
              rotate_left
              · show Act.put _ (some 76) _ = _
                simp only [Act.put, List.setIfInBounds_toArray, List.set_cons_zero, List.set_cons_succ, i64_w, i32_w]
                rfl
              refine pure_ (i := 19) (N := some 77) (v := ?_) (a' := ?_) (bs 30 1048575) rfl rfl (any_of HT_.out (by kernel_rfl)) (fun _ _ _ h => h) (Or.inl ⟨by rfl, ?_⟩) ?_ ?_
              rotate_left; (intro w'; go_simp; with_reducible rfl); rotate_left; (simp only [Act.put, List.setIfInBounds_toArray, List.set_cons_zero, List.set_cons_succ, i64_w, i32_w]; rfl)
              refine pure_ (i := 20) (N := some 78) (v := ?_) (a' := ?_) (bs 30 2097151) rfl rfl (any_of HT_.out (by kernel_rfl)) (fun _ _ _ h => h) (Or.inl ⟨by rfl, ?_⟩) ?_ ?_
              rotate_left; (intro w'; go_simp; with_reducible rfl); rotate_left; (simp only [Act.put, List.setIfInBounds_toArray, List.set_cons_zero, List.set_cons_succ, i64_w, i32_w]; rfl)
              refine pure_ (i := 21) (N := some 79) (v := ?_) (a' := ?_) (bs 30 4194303) rfl rfl (any_of HT_.out (by kernel_rfl)) (fun _ _ _ h => h) (Or.inl ⟨by rfl, ?_⟩) ?_ ?_
              rotate_left; (intro w'; go_simp; with_reducible rfl); rotate_left; (simp only [Act.put, List.setIfInBounds_toArray, List.set_cons_zero, List.set_cons_succ, i64_w, i32_w]; rfl)
              refine take_ (i := 22) (N := some 80) (v := ?_) (a' := ?_) (bs 30 8388607) rfl rfl (take_ofW HT_.out HW_.out (by kernel_rfl)) (fun _ _ _ h => h) (Or.inl ⟨by rfl, ?_⟩) hHeld ?_ ?_
              rotate_left
              · rintro w' ⟨s0, s1⟩
                go_simp
                with_reducible rfl
              rotate_left; (simp only [Act.put, List.setIfInBounds_toArray, List.set_cons_zero, List.set_cons_succ, i64_w, i32_w]; rfl)
              refine take_ (i := 24) (N := some 82) (v := ?_) (a' := ?_) (bs 30 25165823) rfl rfl (take_ofW HT_.out HW_.out (by kernel_rfl)) (fun _ _ _ h => h) (Or.inl ⟨by rfl, ?_⟩) hHeld ?_ ?_
              rotate_left
              · rintro w' ⟨s0, s1⟩
                go_simp
                with_reducible rfl
              rotate_left; (simp only [Act.put, List.setIfInBounds_toArray, List.set_cons_zero, List.set_cons_succ, i64_w, i32_w]; rfl)
              refine one_ (i := 23) (N := some 81) (bs 30 33554431) rfl rfl (one_of HT_.out (by kernel_rfl)) (by decide) (fun K hK => ?_)
              refine goes_ Try.func35 (by kernel_rfl) rfl #[.agg #[.slice Ao14 t636.length co14, .slice Ao16 t639.length co16]] (by rfl) rfl rfl (by (try simp only [List.map_toArray, List.map_cons, List.map_nil]); first | done | rfl | (simp only [List.length_drop, List.length_take]; rfl)) ?_
              with_reducible refine (place_After.calls kj9 _ _ t636 _ _ t639 t673 _ ?side1 ?side2 ?side3 ?side4 A44.out).mono ?_
              (case side1 => repeat (first | exact (Kd.S_reads' HO_643000.out).2.2 | (with_reducible refine Kd.C_alloc ?_ _) | (with_reducible refine Kd.C_drewN ?_ _) | (with_reducible refine Kd.C_drew ?_)))
              (case side2 => exact (Kd.S_reads' HO_643000.out).2.1)
              (case side3 => repeat (first | exact (Kd.R_reads' HO_643001.out).2.2 | (with_reducible refine Kd.C_alloc ?_ _) | (with_reducible refine Kd.C_drewN ?_ _) | (with_reducible refine Kd.C_drew ?_)))
              (case side4 => exact (Kd.R_reads' HO_643001.out).2.1)
              rintro e w56 ⟨v674, rfl, ho0, hb⟩
              refine ⟨_, rfl, ?_⟩
              have n0_ := Aside0.mk (Kd.S_elder' (by (with_reducible repeat (first | apply Kd.S_alloc | apply Kd.S_drewN | apply Kd.S_drew)); exact HO_643000.out) (Kd.R_base ho0) hb)
              have n1_ := Aside0.mk (Kd.R_elder' (by (with_reducible repeat (first | apply Kd.R_alloc | apply Kd.R_drewN | apply Kd.R_drew)); exact HO_643001.out) (Kd.R_base ho0) hb)
              have n2_ := Aside0.mk (Kd.R_elder' (by (with_reducible repeat (first | apply Kd.R_alloc | apply Kd.R_drewN | apply Kd.R_drew)); exact HO661.out) (Kd.R_base ho0) hb)
              have n3_ := Aside0.mk (Kd.R_elder' (by (with_reducible repeat (first | apply Kd.R_alloc | apply Kd.R_drewN | apply Kd.R_drew)); exact HO664.out) (Kd.R_base ho0) hb)
              have n4_ := Aside0.mk (Kd.R_elder' (by (with_reducible repeat (first | apply Kd.R_alloc | apply Kd.R_drewN | apply Kd.R_drew)); exact HO668.out) (Kd.R_base ho0) hb)
              have n5_ := Aside0.mk (Kd.R_elder' (by (with_reducible repeat (first | apply Kd.R_alloc | apply Kd.R_drewN | apply Kd.R_drew)); exact HO671.out) (Kd.R_base ho0) hb)
              have n6_ := Aside0.mk (Kd.R_lower (Kd.R_new' (Kd.R_new' (Kd.R_new' (Kd.R_new' (Kd.R_new' ho0 (Kd.R_lt (by (with_reducible repeat (first | apply Kd.R_alloc | apply Kd.R_drewN | apply Kd.R_drew)); exact HO_643001.out))) (Kd.R_lt (by (with_reducible repeat (first | apply Kd.R_alloc | apply Kd.R_drewN | apply Kd.R_drew)); exact HO661.out))) (Kd.R_lt (by (with_reducible repeat (first | apply Kd.R_alloc | apply Kd.R_drewN | apply Kd.R_drew)); exact HO664.out))) (Kd.R_lt (by (with_reducible repeat (first | apply Kd.R_alloc | apply Kd.R_drewN | apply Kd.R_drew)); exact HO668.out))) (Kd.R_lt (by (with_reducible repeat (first | apply Kd.R_alloc | apply Kd.R_drewN | apply Kd.R_drew)); exact HO671.out))) (below_size (by repeat (first | (with_reducible first | exact HB.out | apply below_alloc | apply pw_below_drewN | apply below_drew1 | refine below_set ?_ GE642.out) | exact HB.out))))
              have n7_ := Aside0.mk (blk_below (g := gb642) (o := .cells #[.slice Ao14 t636.length co14, .slice Ao16 t639.length co16] 25 (0, 0)) (by (with_reducible repeat (first | refine blk_drewN ?_ _ | refine blk_drew ?_ | refine blk_alloc ?_ _)); exact BK642.out) hb)
              have n8_ := Aside0.mk (below_step (by repeat (first | (with_reducible first | exact HB.out | apply below_alloc | apply pw_below_drewN | apply below_drew1 | refine below_set ?_ GE642.out) | exact HB.out)) hb)
              clear HO_643000
              clear HO_643001
              clear HO661
              clear HO664
              clear HO668
              clear HO671
              clear BK642
              clear HB
              have HO_643000 := n0_
              have HO_643001 := n1_
              have HO661 := n2_
              have HO664 := n3_
              have HO668 := n4_
              have HO671 := n5_
              have HO675 := n6_
              have BK642 := n7_
              have HB := n8_
              clear n0_ n1_ n2_ n3_ n4_ n5_ n6_ n7_ n8_
              (try clear hb)
              (try clear hb2)
              (try clear hk)
              (try clear hi)
              (try clear ho0)
              refine hK.out _ _ ⟨(blk_cell BK642.out 0).trans rfl, (blk_cell BK642.out 1).trans rfl⟩ (fun hHeld => ?_)
              clear hK K
              refine norm_ (a' := ?_) ?_ ?_
              rotate_left
              · show Act.put _ (some 81) _ = _
                simp only [Act.put, List.setIfInBounds_toArray, List.set_cons_zero, List.set_cons_succ, i64_w, i32_w]
                rfl
              refine one_ (i := 25) (N := some 83) (bs 30 67108863) rfl rfl (one_of HT_.out (by kernel_rfl)) (by decide) (fun K hK => ?_)
              refine goes_ Try.func36 (by kernel_rfl) rfl #[.agg #[.slice Ao14 t636.length co14, .slice Ao16 t639.length co16]] (by rfl) rfl rfl (by (try simp only [List.map_toArray, List.map_cons, List.map_nil]); first | done | rfl | (simp only [List.length_drop, List.length_take]; rfl)) ?_
              with_reducible refine (arboristref13_After.calls kj9 _ _ t636 _ _ t639 t676 _ ?side1 ?side2 ?side3 ?side4 A45.out).mono ?_
              (case side1 => repeat (first | exact (Kd.S_reads' HO_643000.out).2.2 | (with_reducible refine Kd.C_alloc ?_ _) | (with_reducible refine Kd.C_drewN ?_ _) | (with_reducible refine Kd.C_drew ?_)))
              (case side2 => exact (Kd.S_reads' HO_643000.out).2.1)
              (case side3 => repeat (first | exact (Kd.R_reads' HO_643001.out).2.2 | (with_reducible refine Kd.C_alloc ?_ _) | (with_reducible refine Kd.C_drewN ?_ _) | (with_reducible refine Kd.C_drew ?_)))
              (case side4 => exact (Kd.R_reads' HO_643001.out).2.1)
              rintro e w57 ⟨v677, rfl, ho0, hb⟩
              refine ⟨_, rfl, ?_⟩
              have n0_ := Aside0.mk (Kd.S_elder' (by (with_reducible repeat (first | apply Kd.S_alloc | apply Kd.S_drewN | apply Kd.S_drew)); exact HO_643000.out) (Kd.R_base ho0) hb)
              have n1_ := Aside0.mk (Kd.R_elder' (by (with_reducible repeat (first | apply Kd.R_alloc | apply Kd.R_drewN | apply Kd.R_drew)); exact HO_643001.out) (Kd.R_base ho0) hb)
              have n2_ := Aside0.mk (Kd.R_elder' (by (with_reducible repeat (first | apply Kd.R_alloc | apply Kd.R_drewN | apply Kd.R_drew)); exact HO661.out) (Kd.R_base ho0) hb)
              have n3_ := Aside0.mk (Kd.R_elder' (by (with_reducible repeat (first | apply Kd.R_alloc | apply Kd.R_drewN | apply Kd.R_drew)); exact HO664.out) (Kd.R_base ho0) hb)
              have n4_ := Aside0.mk (Kd.R_elder' (by (with_reducible repeat (first | apply Kd.R_alloc | apply Kd.R_drewN | apply Kd.R_drew)); exact HO668.out) (Kd.R_base ho0) hb)
              have n5_ := Aside0.mk (Kd.R_elder' (by (with_reducible repeat (first | apply Kd.R_alloc | apply Kd.R_drewN | apply Kd.R_drew)); exact HO671.out) (Kd.R_base ho0) hb)
              have n6_ := Aside0.mk (Kd.R_elder' (by (with_reducible repeat (first | apply Kd.R_alloc | apply Kd.R_drewN | apply Kd.R_drew)); exact HO675.out) (Kd.R_base ho0) hb)
              have n7_ := Aside0.mk (Kd.R_lower (Kd.R_new' (Kd.R_new' (Kd.R_new' (Kd.R_new' (Kd.R_new' (Kd.R_new' ho0 (Kd.R_lt (by (with_reducible repeat (first | apply Kd.R_alloc | apply Kd.R_drewN | apply Kd.R_drew)); exact HO_643001.out))) (Kd.R_lt (by (with_reducible repeat (first | apply Kd.R_alloc | apply Kd.R_drewN | apply Kd.R_drew)); exact HO661.out))) (Kd.R_lt (by (with_reducible repeat (first | apply Kd.R_alloc | apply Kd.R_drewN | apply Kd.R_drew)); exact HO664.out))) (Kd.R_lt (by (with_reducible repeat (first | apply Kd.R_alloc | apply Kd.R_drewN | apply Kd.R_drew)); exact HO668.out))) (Kd.R_lt (by (with_reducible repeat (first | apply Kd.R_alloc | apply Kd.R_drewN | apply Kd.R_drew)); exact HO671.out))) (Kd.R_lt (by (with_reducible repeat (first | apply Kd.R_alloc | apply Kd.R_drewN | apply Kd.R_drew)); exact HO675.out))) (below_size (by repeat (first | (with_reducible first | exact HB.out | apply below_alloc | apply pw_below_drewN | apply below_drew1 | refine below_set ?_ GE642.out) | exact HB.out))))
              have n8_ := Aside0.mk (blk_below (g := gb642) (o := .cells #[.slice Ao14 t636.length co14, .slice Ao16 t639.length co16] 25 (0, 0)) (by (with_reducible repeat (first | refine blk_drewN ?_ _ | refine blk_drew ?_ | refine blk_alloc ?_ _)); exact BK642.out) hb)
              have n9_ := Aside0.mk (below_step (by repeat (first | (with_reducible first | exact HB.out | apply below_alloc | apply pw_below_drewN | apply below_drew1 | refine below_set ?_ GE642.out) | exact HB.out)) hb)
              clear HO_643000
              clear HO_643001
              clear HO661
              clear HO664
              clear HO668
              clear HO671
              clear HO675
              clear BK642
              clear HB
              have HO_643000 := n0_
              have HO_643001 := n1_
              have HO661 := n2_
              have HO664 := n3_
              have HO668 := n4_
              have HO671 := n5_
              have HO675 := n6_
              have HO678 := n7_
              have BK642 := n8_
              have HB := n9_
              clear n0_ n1_ n2_ n3_ n4_ n5_ n6_ n7_ n8_ n9_
              (try clear hb)
              (try clear hb2)
              (try clear hk)
              (try clear hi)
              (try clear ho0)
              obtain ⟨Ao58, co58, eo58⟩ := Kd.R_slice HO675.out
              (first | subst eo58 | (injection eo58 with f1_ f2_ f3_; have f4_ := f1_.symm; have f5_ := f3_.symm; clear f1_ f2_ f3_; subst f4_; subst f5_))
              obtain ⟨Ao59, co59, eo59⟩ := Kd.R_slice HO678.out
              (first | subst eo59 | (injection eo59 with f1_ f2_ f3_; have f4_ := f1_.symm; have f5_ := f3_.symm; clear f1_ f2_ f3_; subst f4_; subst f5_))
              refine hK.out _ _ ⟨(blk_cell BK642.out 0).trans rfl, (blk_cell BK642.out 1).trans rfl⟩ (fun hHeld => ?_)
              clear hK K
              refine norm_ (a' := ?_) ?_ ?_
              rotate_left
              · show Act.put _ (some 83) _ = _
                simp only [Act.put, List.setIfInBounds_toArray, List.set_cons_zero, List.set_cons_succ, i64_w, i32_w]
                rfl
              refine one_ (i := 26) (N := some 84) (bs 30 134217727) rfl rfl (one_of HT_.out (by kernel_rfl)) (by decide) (fun K hK => ?_)
              refine goes_ Try.func30 (by kernel_rfl) rfl #[.slice Ao58 t673.length co58, .slice Ao59 t676.length co59] (by rfl) rfl rfl (by (try simp only [List.map_toArray, List.map_cons, List.map_nil]); first | done | rfl | (simp only [List.length_drop, List.length_take]; rfl)) ?_
              with_reducible refine (arboristref01_Compare.calls kj9 _ _ t673 _ _ t676 t679 _ ?side1 ?side2 ?side3 ?side4 A46.out).mono ?_
              (case side1 => repeat (first | exact (Kd.R_reads' HO675.out).2.2 | (with_reducible refine Kd.C_alloc ?_ _) | (with_reducible refine Kd.C_drewN ?_ _) | (with_reducible refine Kd.C_drew ?_)))
              (case side2 => exact (Kd.R_reads' HO675.out).2.1)
              (case side3 => repeat (first | exact (Kd.R_reads' HO678.out).2.2 | (with_reducible refine Kd.C_alloc ?_ _) | (with_reducible refine Kd.C_drewN ?_ _) | (with_reducible refine Kd.C_drew ?_)))
              (case side4 => exact (Kd.R_reads' HO678.out).2.1)
              rintro e w' ⟨rfl, ⟨nd, rfl⟩⟩
              refine ⟨_, rfl, ?_⟩
              refine hK.out _ _ ⟨(blk_cell BK642.out 0).trans rfl, (blk_cell BK642.out 1).trans rfl⟩ (fun hHeld => ?_)
              clear hK K
              refine norm_ (a' := ?_) ?_ ?_
              rotate_left
              · show Act.put _ (some 84) _ = _
                simp only [Act.put, List.setIfInBounds_toArray, List.set_cons_zero, List.set_cons_succ, i64_w, i32_w]
                rfl
              refine pure_ (i := 27) (N := some 85) (v := ?_) (a' := ?_) (bs 30 268435455) rfl rfl (any_of HT_.out (by kernel_rfl)) (fun _ _ _ h => h) (Or.inl ⟨by rfl, ?_⟩) ?_ ?_
              rotate_left; (intro w'; go_simp; with_reducible rfl); rotate_left; (simp only [Act.put, List.setIfInBounds_toArray, List.set_cons_zero, List.set_cons_succ, i64_w, i32_w]; rfl)
              refine pure_ (i := 28) (N := some 86) (v := ?_) (a' := ?_) (bs 30 536870911) rfl rfl (any_of HT_.out (by kernel_rfl)) (fun _ _ _ h => h) (Or.inl ⟨by rfl, ?_⟩) ?_ ?_
              rotate_left; (intro w'; go_simp; with_reducible rfl); rotate_left; (simp only [Act.put, List.setIfInBounds_toArray, List.set_cons_zero, List.set_cons_succ, i64_w, i32_w]; rfl)
              refine pure_ (i := 29) (N := some 8) (v := ?_) (a' := ?_) (bs 30 1073741823) rfl rfl (any_of HT_.out (by kernel_rfl)) (fun _ _ _ h => h) (Or.inl ⟨by rfl, ?_⟩) ?_ ?_
              rotate_left; (intro w'; go_simp; with_reducible rfl); rotate_left; (simp only [Act.put, List.setIfInBounds_toArray, List.set_cons_zero, List.set_cons_succ, i64_w, i32_w]; rfl)
              refine done_ (done_of HT_.out (by kernel_rfl)) ?_
              try go_wp2
              go_ret
              exact ⟨by first | rfl | (simp [errW_none, errW_some] <;> rfl) | (simp [*, errW_none, errW_some] <;> rfl), by repeat (first | (with_reducible first | exact HB.out | apply below_alloc | apply pw_below_drewN | apply below_drew1 | refine below_set ?_ GE642.out) | exact HB.out)⟩
            · rw [if_neg c43] at H
              have c43b0 : (t672 == 0) = false := beq_eq_false_iff_ne.mpr c43
              have c43b1 : (t672 != 0) = true := bne_iff_ne.mpr c43
              exact absurd ((Option.some.inj H).trans HT_.out) (by decide)
          · rw [if_neg c39] at H
            have c39b0 : (t665 == 0) = false := beq_eq_false_iff_ne.mpr c39
            have c39b1 : (t665 != 0) = true := bne_iff_ne.mpr c39
            exact absurd ((Option.some.inj H).trans HT_.out) (by decide)
        · replace c35 := Bool.eq_false_iff.mpr c35
          subst c35
          have H1 : (some false) = some r := by rw [if_neg (show ¬ (false = true) by decide)] at H; exact H
          clear H
          have H := H1
          clear H1
          exact absurd ((Option.some.inj H).trans HT_.out) (by decide)

/-- THE ONE PURE STATEMENT of arboristlaw13_PlaceTells. -/
def arboristlaw13_PlaceTells.Pure : Prop := ∀ (l0 : List Int) (l1 : List (List Int)) (a2 : Int) (l3 : List (List Int)), (l0.length ≤ maxLen ∧ ∀ z0 ∈ l0, (Lit.int .i64 z0).wf = true) → (l1.length ≤ maxLen ∧ ∀ z0 ∈ l1, (z0.length ≤ maxLen ∧ ∀ z1 ∈ z0, (Lit.int .i64 z1).wf = true)) → (Lit.int .i64 a2).wf = true → (l3.length ≤ maxLen ∧ ∀ z0 ∈ l3, (z0.length ≤ maxLen ∧ ∀ z1 ∈ z0, (Lit.int .i64 z1).wf = true)) → ∃ k, arboristlaw13_PlaceTells.f k l0 l1 a2 l3 = some true

end Go.Proofs.Ytpmfdggbccbfaaa.Pr
