-- Printed by a program of this session's own (wip/tools/pp.py) over the kit's print.py; Lean checks it.
import Derived.Test.YtpmfdggbccbfaaaPr0
import Derived.Test.YtpmfdggbccbfaaaPr18
import Derived.Test.YtpmfdggbccbfaaaPr30
import Derived.Test.YtpmfdggbccbfaaaPr38
import Derived.Test.YtpmfdggbccbfaaaPr40
namespace Go.Proofs.Ytpmfdggbccbfaaa.Pr
open Go.RowKit Go.Proofs.YtpmfdggbccbfaaaW.PrintWords Go.Proofs.YtpmfdggbccbfaaaW.PrintLast Go.Proofs.YtpmfdggbccbfaaaW.PrintMore
attribute [local go_sem] max2_int min2_int max_two min_two max_three min_three max_four min_four   -- for this text's walks alone
set_option linter.unusedVariables false
set_option linter.unusedSimpArgs false

/-! ### arboristlaw13_PlaceFirst: function 14 -/
mutual
def arboristlaw13_PlaceFirst.l0 : Nat → Bool → List Int → Int → Int → List (List Int) → List Int → Option (Bool)
  | 0, _, _, _, _, _, _ => none
  | k + 1, x5, x7, x8, x9, x1040000, x1040001 => if x9 < 10 then ((place_Place.f x1040000 x1040001 (([x7] : List (List Int)))).bind fun bt1053 => (arboristlaw13_PlaceFirst.l1 k x5 x7 x8 x9 bt1053.1 bt1053.2 (-1) 0 x1040000 x1040001)) else (some x5)
def arboristlaw13_PlaceFirst.l1 : Nat → Bool → List Int → Int → Int → List Int → Int → Int → Int → List (List Int) → List Int → Option (Bool)
  | 0, _, _, _, _, _, _, _, _, _, _ => none
  | k + 1, x5, x7, x8, x9, x10, x11, x12, x13, x1040000, x1040001 => if x13 < (x1040000.length : Int) then (arboristlaw13_PlaceFirst.j2 k x5 x7 x8 x9 x10 x11 x12 x13 (decide (x12 < 0)) x1040000 x1040001) else (arboristlaw13_PlaceFirst.j2 k x5 x7 x8 x9 x10 x11 x12 x13 false x1040000 x1040001)
def arboristlaw13_PlaceFirst.j2 : Nat → Bool → List Int → Int → Int → List Int → Int → Int → Int → Bool → List (List Int) → List Int → Option (Bool)
  | 0, _, _, _, _, _, _, _, _, _, _, _ => none
  | k + 1, x5, x7, x8, x9, x10, x11, x12, x13, x43, x1040000, x1040001 => if x43 = true then (if 0 ≤ x13 then (if x13 < (x1040000.length : Int) then ((arboristref01_Within.f k x7 (rd_L1 x1040000 x13)).bind fun t1058 => (if t1058 = true then (arboristlaw13_PlaceFirst.l1 k x5 x7 x8 x9 x10 x11 x13 (wrap64 (x13 + 1)) x1040000 x1040001) else (arboristlaw13_PlaceFirst.l1 k x5 x7 x8 x9 x10 x11 x12 (wrap64 (x13 + 1)) x1040000 x1040001))) else (none)) else (none)) else (if x12 < 0 then (if x5 = true then (if x11 = 5 then (some ((x10.length : Int) == 0)) else (some false)) else (some false)) else (if x11 = 0 then (if (x10.length : Int) = 1 then (if 0 < (x10.length : Int) then (if (rd x10 0) = x12 then (arboristlaw13_PlaceFirst.j3 k x5 x7 x9 x12 (decide (x12 ≤ x8)) x1040000 x1040001) else (arboristlaw13_PlaceFirst.j3 k x5 x7 x9 x12 true x1040000 x1040001)) else (none)) else (arboristlaw13_PlaceFirst.j3 k x5 x7 x9 x12 true x1040000 x1040001)) else (arboristlaw13_PlaceFirst.j3 k x5 x7 x9 x12 true x1040000 x1040001)))
def arboristlaw13_PlaceFirst.j3 : Nat → Bool → List Int → Int → Int → Bool → List (List Int) → List Int → Option (Bool)
  | 0, _, _, _, _, _, _, _ => none
  | k + 1, x5, x7, x9, x12, x85, x1040000, x1040001 => if x85 = true then (some false) else (if (x7.length : Int) = 0 then (some x5) else (if 0 ≤ x12 then (if x12 < (x1040000.length : Int) then (arboristlaw13_PlaceFirst.l0 k x5 x7 x12 (wrap64 (x9 + 1)) (x1040000.set (x12 : Int).toNat (([] : List Int))) x1040001) else (none)) else (none)))
end
def arboristlaw13_PlaceFirst.f (k : Nat) (l0 : List (List Int)) (l1 : List Int) : Option (Bool) := (arboristlaw13_shown.f k).bind fun t1032 => ((arboristlaw13_shape.f k ([] : List Int) l0).bind fun bt1033 => ((arboristlaw13_shape.f k ([] : List Int) (([l1] : List (List Int)))).bind fun bt1043 => (if 0 < (bt1043.1.length : Int) then (arboristlaw13_PlaceFirst.l0 k t1032 (rd_L1 bt1043.1 0) (-1) 0 bt1033.1 bt1033.2) else (none))))
theorem arboristlaw13_PlaceFirst.mono_l : ∀ k, (∀ y0 y1 y2 y3 y4 y5, LeO (arboristlaw13_PlaceFirst.l0 k y0 y1 y2 y3 y4 y5) (arboristlaw13_PlaceFirst.l0 (k + 1) y0 y1 y2 y3 y4 y5)) ∧ (∀ y0 y1 y2 y3 y4 y5 y6 y7 y8 y9, LeO (arboristlaw13_PlaceFirst.l1 k y0 y1 y2 y3 y4 y5 y6 y7 y8 y9) (arboristlaw13_PlaceFirst.l1 (k + 1) y0 y1 y2 y3 y4 y5 y6 y7 y8 y9)) ∧ (∀ y0 y1 y2 y3 y4 y5 y6 y7 y8 y9 y10, LeO (arboristlaw13_PlaceFirst.j2 k y0 y1 y2 y3 y4 y5 y6 y7 y8 y9 y10) (arboristlaw13_PlaceFirst.j2 (k + 1) y0 y1 y2 y3 y4 y5 y6 y7 y8 y9 y10)) ∧ (∀ y0 y1 y2 y3 y4 y5 y6, LeO (arboristlaw13_PlaceFirst.j3 k y0 y1 y2 y3 y4 y5 y6) (arboristlaw13_PlaceFirst.j3 (k + 1) y0 y1 y2 y3 y4 y5 y6))
  | 0 => ⟨fun _ _ _ _ _ _ r h => by simp [arboristlaw13_PlaceFirst.l0] at h, fun _ _ _ _ _ _ _ _ _ _ r h => by simp [arboristlaw13_PlaceFirst.l1] at h, fun _ _ _ _ _ _ _ _ _ _ _ r h => by simp [arboristlaw13_PlaceFirst.j2] at h, fun _ _ _ _ _ _ _ r h => by simp [arboristlaw13_PlaceFirst.j3] at h⟩
  | k + 1 => by
    obtain ⟨ih0, ih1, ih2, ih3⟩ := arboristlaw13_PlaceFirst.mono_l k
    refine ⟨?_, ?_, ?_, ?_⟩
    all_goals intros
    all_goals (first | unfold arboristlaw13_PlaceFirst.l0 | unfold arboristlaw13_PlaceFirst.l1 | unfold arboristlaw13_PlaceFirst.j2 | unfold arboristlaw13_PlaceFirst.j3)
    all_goals repeat' first
    | (with_reducible exact ih0 _ _ _ _ _ _)
    | (with_reducible exact ih1 _ _ _ _ _ _ _ _ _ _)
    | (with_reducible exact ih2 _ _ _ _ _ _ _ _ _ _ _)
    | (with_reducible exact ih3 _ _ _ _ _ _ _)
    | (with_reducible exact arboristlaw13_shape.mono _ _ _)
    | (with_reducible exact arboristlaw13_shown.mono _)
    | (with_reducible exact arboristref01_Within.mono _ _ _)
    | (with_reducible exact LeO.refl _)
    | (with_reducible exact LeO.none _)
    | (with_reducible refine LeO.ite ?_ ?_)
    | (with_reducible refine LeO.bind ?_ (fun _ => ?_))
    | exact ih0 _ _ _ _ _ _
    | exact ih1 _ _ _ _ _ _ _ _ _ _
    | exact ih2 _ _ _ _ _ _ _ _ _ _ _
    | exact ih3 _ _ _ _ _ _ _
    | exact arboristlaw13_shape.mono _ _ _
    | exact arboristlaw13_shown.mono _
    | exact arboristref01_Within.mono _ _ _
    | exact LeO.none _
    | refine LeO.ite ?_ ?_
    | refine LeO.bind ?_ (fun _ => ?_)
theorem arboristlaw13_PlaceFirst.mono : ∀ a0 a1 k, LeO (arboristlaw13_PlaceFirst.f k a0 a1) (arboristlaw13_PlaceFirst.f (k + 1) a0 a1) := by
  intro a0 a1 k
  obtain ⟨ih0, ih1, ih2, ih3⟩ := arboristlaw13_PlaceFirst.mono_l k
  unfold arboristlaw13_PlaceFirst.f
  repeat' first
      | (with_reducible exact ih0 _ _ _ _ _ _)
      | (with_reducible exact ih1 _ _ _ _ _ _ _ _ _ _)
      | (with_reducible exact ih2 _ _ _ _ _ _ _ _ _ _ _)
      | (with_reducible exact ih3 _ _ _ _ _ _ _)
      | (with_reducible exact arboristlaw13_shape.mono _ _ _)
      | (with_reducible exact arboristlaw13_shown.mono _)
      | (with_reducible exact arboristref01_Within.mono _ _ _)
      | (with_reducible exact LeO.refl _)
      | (with_reducible exact LeO.none _)
      | (with_reducible refine LeO.ite ?_ ?_)
      | (with_reducible refine LeO.bind ?_ (fun _ => ?_))
      | exact ih0 _ _ _ _ _ _
      | exact ih1 _ _ _ _ _ _ _ _ _ _
      | exact ih2 _ _ _ _ _ _ _ _ _ _ _
      | exact ih3 _ _ _ _ _ _ _
      | exact arboristlaw13_shape.mono _ _ _
      | exact arboristlaw13_shown.mono _
      | exact arboristref01_Within.mono _ _ _
      | exact LeO.none _
      | refine LeO.ite ?_ ?_
      | refine LeO.bind ?_ (fun _ => ?_)
set_option maxHeartbeats 8000000 in
set_option maxRecDepth 100000 in
theorem arboristlaw13_PlaceFirst.calls (k : Nat) (A0 : Option Addr) (c0 : Nat) (l0 : List (List Int)) (P1_ : Nat → Prop) (A1 : Option Addr) (c1 : Nat) (l1 : List Int) (r : Bool) (w : World) (hr0 : Kd.C (Kd.slice 3 (Kd.int .i64)) w A0 l0.length l0) (hc0 : l0.length ≤ c0) (hs1 : Kd.V (Kd.int .i64) 3 w w.heap.size (fun k_ => P1_ k_) (.slice A1 l1.length c1) l1) (hT : r = true) (h : arboristlaw13_PlaceFirst.f k l0 l1 = some r) :
    Calls Try.prog 14 #[.slice A0 l0.length c0, .slice A1 l1.length c1] w fun e w' => e = .returned (.bool r) ∧ Below w.heap.size w w' := by
  have HTr_ := Aside0.mk (show r = true from hT)
  clear hT
  have hu25 := Try.underlying25
  have hfd25 : ∀ (a b : Value) (w : World), (Instr.field 25 (.agg #[a, b]) 0).run Try.prog w = .ok a w := fun _ _ _ => by first | kernel_rfl | rfl
  have HR0 := Aside0.mk hr0
  have HC0 := Aside0.mk hc0
  clear hr0 hc0
  have HO1 := Aside0.mk (show Kd.V (Kd.int .i64) 3 w w.heap.size (fun k_ => (P1_ k_ ∨ w.heap.size ≤ k_)) (.slice A1 l1.length c1) l1 from Kd.V_mono hs1 (fun k_ hk => .inl hk))
  have HB := Aside0.mk (Below.refl w.heap.size w)
  have H : ((arboristlaw13_shown.f k).bind fun t1032 => ((arboristlaw13_shape.f k ([] : List Int) l0).bind fun bt1033 => ((arboristlaw13_shape.f k ([] : List Int) (([l1] : List (List Int)))).bind fun bt1043 => (if 0 < (bt1043.1.length : Int) then (arboristlaw13_PlaceFirst.l0 k t1032 (rd_L1 bt1043.1 0) (-1) 0 bt1033.1 bt1033.2) else (none))))) = some r := h
  clear h
  replace H := Option.bind_eq_some_iff.mp H
  obtain ⟨t1032, A30, H⟩ := H
  replace H : ((arboristlaw13_shape.f k ([] : List Int) l0).bind fun bt1033 => ((arboristlaw13_shape.f k ([] : List Int) (([l1] : List (List Int)))).bind fun bt1043 => (if 0 < (bt1043.1.length : Int) then (arboristlaw13_PlaceFirst.l0 k t1032 (rd_L1 bt1043.1 0) (-1) 0 bt1033.1 bt1033.2) else (none)))) = some r := H
  have A3 := Aside0.mk A30
  clear A30
  replace H := Option.bind_eq_some_iff.mp H
  obtain ⟨⟨t1033, t1036⟩, A40, H⟩ := H
  replace H : ((arboristlaw13_shape.f k ([] : List Int) (([l1] : List (List Int)))).bind fun bt1043 => (if 0 < (bt1043.1.length : Int) then (arboristlaw13_PlaceFirst.l0 k t1032 (rd_L1 bt1043.1 0) (-1) 0 t1033 t1036) else (none))) = some r := H
  have A4 := Aside0.mk A40
  clear A40
  obtain ⟨y1040, hy1040⟩ : ∃ y_ : List (List Int), y_ = (([l1] : List (List Int))) := ⟨_, rfl⟩
  replace H : ((arboristlaw13_shape.f k ([] : List Int) y1040).bind fun bt1043 => (if 0 < (bt1043.1.length : Int) then (arboristlaw13_PlaceFirst.l0 k t1032 (rd_L1 bt1043.1 0) (-1) 0 t1033 t1036) else (none))) = some r := by first | (rw [hy1040]; with_reducible exact H) | (have H2_ := (Option.bind_some _ _).symm.trans H; rw [hy1040]; with_reducible exact H2_) | (have H2_ := (Option.bind_some _ _).symm.trans H; with_reducible exact H2_) | with_reducible exact H | (rw [hy1040]; exact H) | exact H
  have Ny1040 := Aside0.mk hy1040
  clear hy1040
  replace H := Option.bind_eq_some_iff.mp H
  obtain ⟨⟨t1043, t1046⟩, A50, H⟩ := H
  replace H : (if 0 < (t1043.length : Int) then (arboristlaw13_PlaceFirst.l0 k t1032 (rd_L1 t1043 0) (-1) 0 t1033 t1036) else (none)) = some r := H
  have A5 := Aside0.mk A50
  clear A50
  by_cases c6 : 0 < (t1043.length : Int)
  · rw [if_pos c6] at H
    have c6b0 : decide (0 < (t1043.length : Int)) = true := decide_eq_true c6
    have c6b1 : decide (0 < t1043.length) = true := decide_eq_true (by omega)
    clear c6
    have H' := Aside0.mk H
    clear H
    go_enter Try.func14, Try.ntmps14
    go_wp2_with (first | ((with_reducible refine gate_callee (f := 26) rfl ?_); refine goesL_ (some 15) rfl rfl Try.func26 (by kernel_rfl) rfl #[] rfl (by (try simp only [List.map_toArray, List.map_cons, List.map_nil]); first | done | rfl | (simp only [List.length_drop, List.length_take]; rfl)) ?_; (with_reducible refine (arboristlaw13_shown.calls k  t1032 _ A3.out).mono ?_); rintro e w7 ⟨rfl, hb⟩; refine ⟨_, rfl, ?_⟩; have n0_ := Aside0.mk (Kd.V_below (by (with_reducible repeat (first | apply Kd.V_alloc | apply Kd.V_drewN | apply Kd.V_drew)); exact HO1.out) hb); have n1_ := Aside0.mk (below_step (by repeat (first | (with_reducible first | exact HB.out | apply below_alloc | apply pw_below_drewN | apply below_drew1) | exact HB.out)) hb); clear HO1; clear HB; have HO1 := n0_; have HB := n1_; clear n0_ n1_; (try clear hb); (try clear hb2); (try clear hk); (try clear hi)) | ((with_reducible refine gate_callee (f := 27) rfl ?_); refine goesL_ (some 17) rfl rfl Try.func27 (by kernel_rfl) rfl #[.slice none 0 0, .slice A0 l0.length c0] rfl (by (try simp only [List.map_toArray, List.map_cons, List.map_nil]); first | done | rfl | (simp only [List.length_drop, List.length_take]; rfl)) ?_; (refine (arboristlaw13_shape.calls k _ _ ([] : List Int) _ _ l0 t1033 t1036 _ ?side1 ?side2 ?side3 ?side4 A4.out).mono ?_); (case side1 => exact Kd.C_nil _ _); (case side2 => exact Nat.le_refl _); (case side3 => repeat (first | exact (Kd.C_below HR0.out HB.out) | (with_reducible refine Kd.C_alloc ?_ _) | (with_reducible refine Kd.C_drewN ?_ _) | (with_reducible refine Kd.C_drew ?_))); (case side4 => exact HC0.out); rintro e w8 ⟨v1034, v1037, rfl, ho0, ho1, hb⟩; refine ⟨_, rfl, ?_⟩; have n0_ := Aside0.mk (Kd.V_mono (Kd.V_told (Kd.V_told (Kd.V_old (by (with_reducible repeat (first | apply Kd.V_alloc | apply Kd.V_drewN | apply Kd.V_drew)); exact HO1.out) hb) (by first | exact Kd.N_base ho0 | exact Kd.N_base (Kd.S_N ho0))) (Kd.R_base ho1)) (fun _ h_ => h_.1)); have n1_ := Aside0.mk (Kd.N_lower (Kd.N_mono (ok' := fun k_ => (P1_ k_ ∨ w.heap.size ≤ k_) ∧ some k_ ≠ (v1037 : Value).ownBlock) (Kd.S_N (Kd.S_bound ho0)) (fun k_ hk_ => ⟨(.inr (Nat.le_trans (below_size (by repeat (first | (with_reducible first | exact HB.out | apply below_alloc | apply pw_below_drewN | apply below_drew1) | exact HB.out))) hk_.2.1)), hk_.1⟩)) (below_size (by repeat (first | (with_reducible first | exact HB.out | apply below_alloc | apply pw_below_drewN | apply below_drew1) | exact HB.out)))); have n2_ := Aside0.mk (Kd.R_lower (Kd.R_newM (M := fun k_ => (w.heap.size ≤ k_)) ho1 (below_size (by repeat (first | (with_reducible first | exact HB.out | apply below_alloc | apply pw_below_drewN | apply below_drew1) | exact HB.out))) (fun k_ h_ => h_)) (below_size (by repeat (first | (with_reducible first | exact HB.out | apply below_alloc | apply pw_below_drewN | apply below_drew1) | exact HB.out)))); have n3_ := Aside0.mk (below_step (by repeat (first | (with_reducible first | exact HB.out | apply below_alloc | apply pw_below_drewN | apply below_drew1) | exact HB.out)) hb); clear HO1; clear HB; have HO1 := n0_; have HO1035 := n1_; have HO1038 := n2_; have HB := n3_; clear n0_ n1_ n2_ n3_; (try clear hb); (try clear hb2); (try clear hk); (try clear hi); (try clear ho0); (try clear ho1)) | ((with_reducible refine gate_dst (N := 6) rfl ?_); (try (refine gate_guard (by rfl) ?_; dsimp only)); refine box_event ?hg (N := 6) ?hd (cs := #[.slice none 0 0, .slice none 0 0]) (t := 25) ?hr ?_; (case hd => rfl); (case hg => rfl); (case hr => first | (go_simp; done) | (go_simp; rfl)); intro gb1039 hg w9 hbox hb; have n0_ := Aside0.mk (Kd.V_below (Kd.V_elderB (by (with_reducible repeat (first | apply Kd.V_alloc | apply Kd.V_drewN | apply Kd.V_drew)); exact HO1.out) gb1039 (Nat.le_of_eq hg.symm)) hb); have n1_ := Aside0.mk (Kd.N_below (Kd.N_elderB (by (with_reducible repeat (first | apply Kd.N_alloc | apply Kd.N_drewN | apply Kd.N_drew)); exact HO1035.out) gb1039 (Nat.le_of_eq hg.symm)) hb); have n2_ := Aside0.mk (Kd.R_below (by (with_reducible repeat (first | apply Kd.R_alloc | apply Kd.R_drewN | apply Kd.R_drew)); exact HO1038.out) hb); have n3_ := Aside0.mk (below_step (by repeat (first | (with_reducible first | exact HB.out | apply below_alloc | apply pw_below_drewN | apply below_drew1) | exact HB.out)) hb); have n4_ := Aside0.mk (hbox); have n5_ := Aside0.mk ((by rw [hg]; exact (below_size (by repeat (first | (with_reducible first | exact HB.out | apply below_alloc | apply pw_below_drewN | apply below_drew1) | exact HB.out))) : w.heap.size ≤ gb1039)); have n6_ := Aside0.mk ((by rw [hg]; exact (below_size (by repeat (first | (with_reducible first | exact HB.out | apply below_alloc | apply pw_below_drewN | apply below_drew1) | exact HB.out))) : w.heap.size ≤ gb1039)); clear HO1; clear HO1035; clear HO1038; clear HB; have HO1 := n0_; have HO1035 := n1_; have HO1038 := n2_; have HB := n3_; have BK1039 := n4_; have GW1039 := n5_; have GE1039 := n6_; clear n0_ n1_ n2_ n3_ n4_ n5_ n6_; clear hb hbox hg; obtain ⟨Ao10, co10, eo10⟩ := Kd.N_slice HO1035.out; subst eo10; have hcz11_0 : w9.cell? ⟨gb1039, 0, none⟩ = some (.slice none 0 0) := (blk_cell BK1039.out 0).trans rfl; have hcz11_1 : w9.cell? ⟨gb1039, 1, none⟩ = some (.slice none 0 0) := (blk_cell BK1039.out 1).trans rfl; have hfz11_0 := blk_frozen BK1039.out 0; have hfz11_1 := blk_frozen BK1039.out 1; obtain ⟨Ao12, co12, eo12⟩ := Kd.R_slice HO1038.out; subst eo12) | ((with_reducible refine gate_store (t := 25) (p := 6) rfl ?_); refine store_event (t := 25) (p := 6) (v := ?vo_w13) (w1 := ((w9.setCell ⟨gb1039, 0, none⟩ (.slice Ao10 t1033.length co10)).setCell ⟨gb1039, 1, none⟩ (.slice Ao12 t1036.length co12))) ?hg ?ho ?hn ?hr ?_; (case ho => rfl); (case hg => rfl); (case hn => rfl); (case hr => first | (go_simp; done) | (go_simp; rfl)); intro w13 hw; have n0_ : Aside0 (Kd.V (Kd.int .i64) 3 w13 w.heap.size (fun k_ => (P1_ k_ ∨ w.heap.size ≤ k_) ∧ some k_ ≠ (.slice Ao10 t1033.length co10 : Value).ownBlock ∧ some k_ ≠ (.slice Ao12 t1036.length co12 : Value).ownBlock ∧ k_ ≠ gb1039) (.slice A1 l1.length c1) l1) := ⟨(by rw [hw]; exact (by (with_reducible repeat (first | apply Kd.V_alloc | apply Kd.V_drewN | apply Kd.V_drew)); exact Kd.V_mono (Kd.V_far (p := ⟨gb1039, 1, none⟩) (Kd.V_far (p := ⟨gb1039, 0, none⟩) (Kd.V_mono HO1.out (fun k_ hk => (⟨hk, hk.2⟩ : _ ∧ k_ ≠ gb1039))) (fun _ hk => hk.2) (.slice Ao10 t1033.length co10)) (fun _ hk => hk.2) (.slice Ao12 t1036.length co12)) (fun _ hk => ⟨hk.1.1.1.1, ⟨hk.1.1.1.2, ⟨hk.1.1.2, hk.1.2⟩⟩⟩)))⟩; have n1_ : Aside0 (Kd.N (Kd.slice 3 (Kd.int .i64)) 23 w13 w.heap.size (fun k_ => (P1_ k_ ∨ w.heap.size ≤ k_) ∧ some k_ ≠ (.slice Ao12 t1036.length co12 : Value).ownBlock ∧ k_ ≠ gb1039) (.slice Ao10 t1033.length co10) t1033) := ⟨(by rw [hw]; exact (by (with_reducible repeat (first | apply Kd.N_alloc | apply Kd.N_drewN | apply Kd.N_drew)); exact Kd.N_mono (Kd.N_far (p := ⟨gb1039, 1, none⟩) (Kd.N_far (p := ⟨gb1039, 0, none⟩) (Kd.N_mono HO1035.out (fun k_ hk => (⟨hk, hk.2⟩ : _ ∧ k_ ≠ gb1039))) (fun _ hk => hk.2) (.slice Ao10 t1033.length co10)) (fun _ hk => hk.2) (.slice Ao12 t1036.length co12)) (fun _ hk => ⟨hk.1.1.1, ⟨hk.1.1.2, hk.1.2⟩⟩)))⟩; have n2_ : Aside0 (Kd.R (Kd.int .i64) 3 w13 w.heap.size (fun k_ => (w.heap.size ≤ k_)) (.slice Ao12 t1036.length co12) t1036) := ⟨(by rw [hw]; exact (by (with_reducible repeat (first | apply Kd.R_alloc | apply Kd.R_drewN | apply Kd.R_drew)); exact Kd.R_mono (Kd.R_far (p := ⟨gb1039, 1, none⟩) (Kd.R_far (p := ⟨gb1039, 0, none⟩) (Kd.R_types HO1038.out BK1039.out (by decide)) (fun _ hk => hk.2) (.slice Ao10 t1033.length co10)) (fun _ hk => hk.2) (.slice Ao12 t1036.length co12)) (fun _ hk => hk.1.1)))⟩; have n3_ : Aside0 (w13.heap[gb1039]? = some (.cells #[.slice Ao10 t1033.length co10, .slice Ao12 t1036.length co12] 25 (0, 0))) := ⟨(by rw [hw]; exact (by (with_reducible repeat (first | refine blk_drewN ?_ _ | refine blk_drew ?_ | refine blk_alloc ?_ _)); refine blk_put (cs := #[.slice Ao10 t1033.length co10, .slice none 0 0]) ?_ 1 _ rfl; (with_reducible repeat (first | refine blk_drewN ?_ _ | refine blk_drew ?_ | refine blk_alloc ?_ _)); refine blk_put (cs := #[.slice none 0 0, .slice none 0 0]) ?_ 0 _ rfl; (with_reducible repeat (first | refine blk_drewN ?_ _ | refine blk_drew ?_ | refine blk_alloc ?_ _)); exact BK1039.out))⟩; have n4_ : Aside0 (Below w.heap.size w w13) := ⟨(by rw [hw]; exact (by repeat (first | (with_reducible first | exact HB.out | apply below_alloc | apply pw_below_drewN | apply below_drew1 | refine below_set ?_ GE1039.out) | exact HB.out)))⟩; clear hw; clear HO1; clear HO1035; clear HO1038; clear BK1039; clear HB; have HO1 := n0_; have HO1035 := n1_; have HO1038 := n2_; have BK1039 := n3_; have HB := n4_; clear n0_ n1_ n2_ n3_ n4_) | ((with_reducible refine gate_dst (N := 19) rfl ?_); (try (refine gate_guard (by rfl) ?_; dsimp only)); refine Kd.N_lit (Kd.slice 3 (Kd.int .i64)) _ 23 ?hg (N' := 19) ?hd (xs := ([l1] : List (List Int))) (inner := [.slice A1 l1.length c1]) (ok := (fun k_ => (P1_ k_ ∨ w.heap.size ≤ k_) ∧ some k_ ≠ (.slice Ao10 t1033.length co10 : Value).ownBlock ∧ some k_ ≠ (.slice Ao12 t1036.length co12 : Value).ownBlock ∧ k_ ≠ gb1039)) (okp := (fun k_ => (P1_ k_ ∨ w.heap.size ≤ k_) ∧ some k_ ≠ (.slice Ao10 t1033.length co10 : Value).ownBlock ∧ some k_ ≠ (.slice Ao12 t1036.length co12 : Value).ownBlock ∧ k_ ≠ gb1039)) ?hr ?hp (fun _ hk => hk) ((show ∀ k_, w13.heap.size ≤ k_ → (fun k_ => (P1_ k_ ∨ w.heap.size ≤ k_) ∧ some k_ ≠ (.slice Ao10 t1033.length co10 : Value).ownBlock ∧ some k_ ≠ (.slice Ao12 t1036.length co12 : Value).ownBlock ∧ k_ ≠ gb1039) k_ from fun k_ hk => ⟨(.inr (Nat.le_trans (below_size (by repeat (first | (with_reducible first | exact HB.out | apply below_alloc | apply pw_below_drewN | apply below_drew1 | refine below_set ?_ GE1039.out) | exact HB.out))) hk)), Kd.fresh' (Kd.N_lt (by (with_reducible repeat (first | apply Kd.N_alloc | apply Kd.N_drewN | apply Kd.N_drew)); exact HO1035.out)) k_ hk, Kd.fresh' (Kd.R_lt (by (with_reducible repeat (first | apply Kd.R_alloc | apply Kd.R_drewN | apply Kd.R_drew)); exact HO1038.out)) k_ hk, Kd.freshB (g := gb1039) (o := .cells #[.slice Ao10 t1033.length co10, .slice Ao12 t1036.length co12] 25 (0, 0)) (by (with_reducible repeat (first | refine blk_drewN ?_ _ | refine blk_drew ?_ | refine blk_alloc ?_ _)); exact BK1039.out) k_ hk⟩) _ (Nat.le_refl _)) (Below.refl _ _) (Nat.le_refl _) (by simp) ?_; (case hd => rfl); (case hg => rfl); (case hr => first | (go_simp; done) | (go_simp; rfl)); (case hp => exact (Reps.one (show Kd.FK (Kd.slice 3 (Kd.int .i64)) _ _ l1 [.slice A1 l1.length c1] from (Kd.FK_slice_mk (Kd.V_reads' (Kd.V_mono (ok' := (fun k_ => (P1_ k_ ∨ w.heap.size ≤ k_) ∧ some k_ ≠ (.slice Ao10 t1033.length co10 : Value).ownBlock ∧ some k_ ≠ (.slice Ao12 t1036.length co12 : Value).ownBlock ∧ k_ ≠ gb1039)) (HO1.out) (fun k_ hk => ⟨hk.1, ⟨hk.2.1, ⟨hk.2.2.1, hk.2.2.2⟩⟩⟩))).2.1 (Kd.V_F (Kd.V_mono (ok' := (fun k_ => (P1_ k_ ∨ w.heap.size ≤ k_) ∧ some k_ ≠ (.slice Ao10 t1033.length co10 : Value).ownBlock ∧ some k_ ≠ (.slice Ao12 t1036.length co12 : Value).ownBlock ∧ k_ ≠ gb1039)) (HO1.out) (fun k_ hk => ⟨hk.1, ⟨hk.2.1, ⟨hk.2.2.1, hk.2.2.2⟩⟩⟩))))) (Reps.none _ _))); intro v1041 w14 ho15 hb hg_ hnew_; clear hg_ hnew_; (first | rw [← Ny1040.out] at ho15 | (simp only [Int.reduceToNat] at ho15; rw [← Ny1040.out] at ho15)); have n0_ := Aside0.mk (Kd.V_elder' (by (with_reducible repeat (first | apply Kd.V_alloc | apply Kd.V_drewN | apply Kd.V_drew)); exact HO1.out) (by first | exact Kd.N_base ho15 | exact Kd.N_base (Kd.S_N ho15)) hb); have n1_ := Aside0.mk (Kd.N_elder' (by (with_reducible repeat (first | apply Kd.N_alloc | apply Kd.N_drewN | apply Kd.N_drew)); exact HO1035.out) (by first | exact Kd.N_base ho15 | exact Kd.N_base (Kd.S_N ho15)) hb); have n2_ := Aside0.mk (Kd.R_below (by (with_reducible repeat (first | apply Kd.R_alloc | apply Kd.R_drewN | apply Kd.R_drew)); exact HO1038.out) hb); have n3_ := Aside0.mk (Kd.N_lower ho15 (below_size (by repeat (first | (with_reducible first | exact HB.out | apply below_alloc | apply pw_below_drewN | apply below_drew1 | refine below_set ?_ GE1039.out) | exact HB.out)))); have n4_ := Aside0.mk (blk_below (g := gb1039) (o := .cells #[.slice Ao10 t1033.length co10, .slice Ao12 t1036.length co12] 25 (0, 0)) (by (with_reducible repeat (first | refine blk_drewN ?_ _ | refine blk_drew ?_ | refine blk_alloc ?_ _)); exact BK1039.out) hb); have n5_ := Aside0.mk (below_step (by repeat (first | (with_reducible first | exact HB.out | apply below_alloc | apply pw_below_drewN | apply below_drew1 | refine below_set ?_ GE1039.out) | exact HB.out)) hb); clear HO1; clear HO1035; clear HO1038; clear BK1039; clear HB; have HO1 := n0_; have HO1035 := n1_; have HO1038 := n2_; have HO1042 := n3_; have BK1039 := n4_; have HB := n5_; clear n0_ n1_ n2_ n3_ n4_ n5_; clear hb ho15; obtain ⟨Ao16, co16, eo16⟩ := Kd.N_slice HO1042.out; subst eo16) | ((with_reducible refine gate_callee (f := 27) rfl ?_); refine goesL_ (some 20) rfl rfl Try.func27 (by kernel_rfl) rfl #[.slice none 0 0, .slice Ao16 y1040.length co16] rfl (by (try simp only [List.map_toArray, List.map_cons, List.map_nil]); first | done | rfl | (simp only [List.length_drop, List.length_take]; rfl)) ?_; (refine (arboristlaw13_shape.calls k _ _ ([] : List Int) _ _ y1040 t1043 t1046 _ ?side1 ?side2 ?side3 ?side4 A5.out).mono ?_); (case side1 => exact Kd.C_nil _ _); (case side2 => exact Nat.le_refl _); (case side3 => repeat (first | exact (Kd.N_reads' HO1042.out).2.2 | (with_reducible refine Kd.C_alloc ?_ _) | (with_reducible refine Kd.C_drewN ?_ _) | (with_reducible refine Kd.C_drew ?_))); (case side4 => exact (Kd.N_reads' HO1042.out).2.1); rintro e w17 ⟨v1044, v1047, rfl, ho0, ho1, hb⟩; refine ⟨_, rfl, ?_⟩; have n0_ := Aside0.mk (Kd.V_mono (Kd.V_told (Kd.V_told (Kd.V_old (by (with_reducible repeat (first | apply Kd.V_alloc | apply Kd.V_drewN | apply Kd.V_drew)); exact HO1.out) hb) (by first | exact Kd.N_base ho0 | exact Kd.N_base (Kd.S_N ho0))) (Kd.R_base ho1)) (fun _ h_ => h_.1)); have n1_ := Aside0.mk (Kd.N_mono (Kd.N_told (Kd.N_told (Kd.N_old (by (with_reducible repeat (first | apply Kd.N_alloc | apply Kd.N_drewN | apply Kd.N_drew)); exact HO1035.out) hb) (by first | exact Kd.N_base ho0 | exact Kd.N_base (Kd.S_N ho0))) (Kd.R_base ho1)) (fun _ h_ => h_.1)); have n2_ := Aside0.mk (Kd.R_elder' (by (with_reducible repeat (first | apply Kd.R_alloc | apply Kd.R_drewN | apply Kd.R_drew)); exact HO1038.out) (Kd.R_base ho1) hb); have n3_ := Aside0.mk (Kd.N_mono (Kd.N_told (Kd.N_told (Kd.N_old (by (with_reducible repeat (first | apply Kd.N_alloc | apply Kd.N_drewN | apply Kd.N_drew)); exact HO1042.out) hb) (by first | exact Kd.N_base ho0 | exact Kd.N_base (Kd.S_N ho0))) (Kd.R_base ho1)) (fun _ h_ => h_.1)); have n4_ := Aside0.mk (Kd.N_lower (Kd.N_mono (ok' := fun k_ => (P1_ k_ ∨ w.heap.size ≤ k_) ∧ some k_ ≠ (v1047 : Value).ownBlock ∧ some k_ ≠ (.slice Ao10 t1033.length co10 : Value).ownBlock ∧ some k_ ≠ (.slice Ao12 t1036.length co12 : Value).ownBlock ∧ some k_ ≠ (.slice Ao16 y1040.length co16 : Value).ownBlock ∧ k_ ≠ gb1039) (Kd.S_N (Kd.S_bound ho0)) (fun k_ hk_ => ⟨(.inr (Nat.le_trans (below_size (by repeat (first | (with_reducible first | exact HB.out | apply below_alloc | apply pw_below_drewN | apply below_drew1 | refine below_set ?_ GE1039.out) | exact HB.out))) hk_.2.1)), hk_.1, (Kd.fresh' (Kd.N_lt (by (with_reducible repeat (first | apply Kd.N_alloc | apply Kd.N_drewN | apply Kd.N_drew)); exact HO1035.out)) k_ hk_.2.1), (Kd.fresh' (Kd.R_lt (by (with_reducible repeat (first | apply Kd.R_alloc | apply Kd.R_drewN | apply Kd.R_drew)); exact HO1038.out)) k_ hk_.2.1), (Kd.fresh' (Kd.N_lt (by (with_reducible repeat (first | apply Kd.N_alloc | apply Kd.N_drewN | apply Kd.N_drew)); exact HO1042.out)) k_ hk_.2.1), (Kd.freshB (g := gb1039) (o := .cells #[.slice Ao10 t1033.length co10, .slice Ao12 t1036.length co12] 25 (0, 0)) (by (with_reducible repeat (first | refine blk_drewN ?_ _ | refine blk_drew ?_ | refine blk_alloc ?_ _)); exact BK1039.out) k_ hk_.2.1)⟩)) (below_size (by repeat (first | (with_reducible first | exact HB.out | apply below_alloc | apply pw_below_drewN | apply below_drew1 | refine below_set ?_ GE1039.out) | exact HB.out)))); have n5_ := Aside0.mk (Kd.R_lower (Kd.R_new' (Kd.R_newM (M := fun k_ => (w.heap.size ≤ k_)) ho1 (below_size (by repeat (first | (with_reducible first | exact HB.out | apply below_alloc | apply pw_below_drewN | apply below_drew1 | refine below_set ?_ GE1039.out) | exact HB.out))) (fun k_ h_ => h_)) (Kd.R_lt (by (with_reducible repeat (first | apply Kd.R_alloc | apply Kd.R_drewN | apply Kd.R_drew)); exact HO1038.out))) (below_size (by repeat (first | (with_reducible first | exact HB.out | apply below_alloc | apply pw_below_drewN | apply below_drew1 | refine below_set ?_ GE1039.out) | exact HB.out)))); have n6_ := Aside0.mk (blk_below (g := gb1039) (o := .cells #[.slice Ao10 t1033.length co10, .slice Ao12 t1036.length co12] 25 (0, 0)) (by (with_reducible repeat (first | refine blk_drewN ?_ _ | refine blk_drew ?_ | refine blk_alloc ?_ _)); exact BK1039.out) hb); have n7_ := Aside0.mk (below_step (by repeat (first | (with_reducible first | exact HB.out | apply below_alloc | apply pw_below_drewN | apply below_drew1 | refine below_set ?_ GE1039.out) | exact HB.out)) hb); clear HO1; clear HO1035; clear HO1038; clear HO1042; clear BK1039; clear HB; have HO1 := n0_; have HO1035 := n1_; have HO1038 := n2_; have HO1042 := n3_; have HO1045 := n4_; have HO1048 := n5_; have BK1039 := n6_; have HB := n7_; clear n0_ n1_ n2_ n3_ n4_ n5_ n6_ n7_; (try clear hb); (try clear hb2); (try clear hk); (try clear hi); (try clear ho0); (try clear ho1); obtain ⟨Ao18, co18, eo18⟩ := Kd.N_slice HO1045.out; subst eo18; have p1049 : 0 ≤ (0 : Int) := (by omega); have q1049 : 0 < (t1043.length : Int) := of_decide_eq_true (by first | (with_reducible assumption) | assumption); obtain ⟨ad1049, A1049_0, c1049_0, e1049, hx1049_0, hl1049_0, hi1049_0⟩ := at_L1 (Kd.N_reads' HO1045.out).2.2 0 p1049 q1049; cases e1049; obtain ⟨ce1049, hce1049, hMe1049, hcc1049⟩ := Kd.N_get HO1045.out [] 0 p1049 (by first | exact q1049 | exact of_decide_eq_true (by first | (with_reducible assumption) | assumption) | (have e_ := (Kd.N_reads' HO1045.out).1; omega)); obtain ⟨ua1049_0, uc1049_0, rfl, ul1049_0, ge1049_0⟩ := Kd.FK_slice_open hMe1049; have hv1049_0 := hcc1049 0 _ rfl; rw [Nat.add_zero, show ((Kd.slice 3 (Kd.int .i64))).sz = 1 from rfl, Nat.mul_one] at hv1049_0; replace hv1049_0 := Option.some.inj (hv1049_0.symm.trans hx1049_0); injection hv1049_0 with hva_ hvn_ hvc_; rw [hva_] at ge1049_0; rw [hvc_] at ul1049_0; have HL1049_0 := Aside0.mk (show Kd.V (Kd.int .i64) 3 _ w.heap.size _ _ (rd_L1 t1043 0) from Kd.V_mk ul1049_0 ge1049_0); clear hva_ hvn_ hvc_ ge1049_0 ul1049_0; clear hcc1049 hce1049; have qi1049 : (0 < t1043.length) = True := eq_true (by omega); (try rw [show ((0 : Int)).toNat = 0 from rfl] at hx1049_0); (try rw [Addr.add_zero'] at hx1049_0); have HR1049_0 := Aside0.mk hi1049_0; have HC1049_0 := Aside0.mk hl1049_0; clear hi1049_0 hl1049_0; replace p1049 := eq_true p1049; replace q1049 := eq_true q1049))
    go_loopg [8, 9] k (fun kq v8 v9 w' => ∃ (x8_1 : Int) (x9_1 : Int) (x1040000_1 : List (List Int)) (u1040000 : Value), v8 = .int .i64 x8_1 ∧ v9 = .int .i64 x9_1 ∧ Aside0 (arboristlaw13_PlaceFirst.l0 kq t1032 (rd_L1 t1043 0) x8_1 x9_1 x1040000_1 t1036 = some r) ∧ Aside0 (kq ≤ k) ∧ Aside0 (Kd.V (Kd.int .i64) 3 w' w.heap.size (fun k_ => (P1_ k_ ∨ w.heap.size ≤ k_) ∧ some k_ ≠ (u1040000 : Value).ownBlock ∧ some k_ ≠ ((.slice Ao12 t1036.length co12) : Value).ownBlock ∧ k_ ≠ gb1039) (.slice A1049_0 (rd_L1 t1043 0).length c1049_0) (rd_L1 t1043 0)) ∧ Aside0 (Kd.N (Kd.slice 3 (Kd.int .i64)) 23 w' w.heap.size (fun k_ => (P1_ k_ ∨ w.heap.size ≤ k_) ∧ some k_ ≠ ((.slice Ao12 t1036.length co12) : Value).ownBlock ∧ k_ ≠ gb1039) u1040000 x1040000_1) ∧ Aside0 (Kd.R (Kd.int .i64) 3 w' w.heap.size (fun k_ => (w.heap.size ≤ k_)) (.slice Ao12 t1036.length co12) t1036) ∧ Aside0 (w'.heap[gb1039]? = some (.cells #[u1040000, (.slice Ao12 t1036.length co12)] 25 (0, 0))) ∧ Aside0 (Below w.heap.size w w'))
    case atStart => exact ⟨((-1)), (0), (t1033), (.slice Ao10 t1033.length co10), (by first | rfl | (simp; done) | (simp [*]; done)), (by first | rfl | (simp; done) | (simp [*]; done)), H', ⟨Nat.le_refl _⟩, ⟨by (with_reducible repeat (first | apply Kd.V_alloc | apply Kd.V_drewN | apply Kd.V_drew)); exact Kd.V_mono HL1049_0.out (fun _ hk => ⟨hk.1.1, ⟨hk.1.2.2.1, ⟨hk.1.2.2.2.1, hk.1.2.2.2.2.2⟩⟩⟩)⟩, ⟨by (with_reducible repeat (first | apply Kd.N_alloc | apply Kd.N_drewN | apply Kd.N_drew)); exact Kd.N_mono HO1035.out (fun _ hk => ⟨hk.1.1.1.1, ⟨hk.1.1.1.2.1, hk.1.1.1.2.2⟩⟩)⟩, ⟨by (with_reducible repeat (first | apply Kd.R_alloc | apply Kd.R_drewN | apply Kd.R_drew)); exact Kd.R_mono HO1038.out (fun _ hk => hk.1)⟩, ⟨by (with_reducible repeat (first | refine blk_drewN ?_ _ | refine blk_drew ?_ | refine blk_alloc ?_ _)); exact BK1039.out⟩, ⟨by repeat (first | (with_reducible first | exact HB.out | apply below_alloc | apply pw_below_drewN | apply below_drew1 | refine below_set ?_ GE1039.out) | exact HB.out)⟩⟩
    case round =>
      clear H'
      try clear c1
      try clear p1
      try clear q1
      try clear hx1
      try clear qi1
      try clear c2
      try clear p2
      try clear c6
      try clear c6b0
      try clear c6b1
      try clear c10
      try clear p10
      try clear q10
      try clear hx10
      try clear qi10
      try clear c14
      try clear hcz11_0
      try clear hcz11_1
      try clear hfz11_0
      try clear hfz11_1
      try clear hx1049_0
      try clear p1049
      try clear q1049
      obtain ⟨x8_1, x9_1, x1040000_1, u1040000, rfl, rfl, HA, HK1, HO_7, HO_1040000, HO_1040001, BK1039, HB⟩ := hrel
      cases gk with
      | zero => exact absurd HA.out (by simp [arboristlaw13_PlaceFirst.l0])
      | succ k1 =>
        have H := HA.out
        clear HA
        simp only [arboristlaw13_PlaceFirst.l0] at H
        by_cases c19 : x9_1 < 10
        · rw [if_pos c19] at H
          have c19b0 : decide (x9_1 < 10) = true := decide_eq_true c19
          clear c19
          obtain ⟨y1050, hy1050⟩ : ∃ y_ : List (List Int), y_ = (([(rd_L1 t1043 0)] : List (List Int))) := ⟨_, rfl⟩
          replace H : ((place_Place.f x1040000_1 t1036 y1050).bind fun bt1053 => (arboristlaw13_PlaceFirst.l1 k1 t1032 (rd_L1 t1043 0) x8_1 x9_1 bt1053.1 bt1053.2 (-1) 0 x1040000_1 t1036)) = some r := by first | (rw [hy1050]; with_reducible exact H) | (have H2_ := (Option.bind_some _ _).symm.trans H; rw [hy1050]; with_reducible exact H2_) | (have H2_ := (Option.bind_some _ _).symm.trans H; with_reducible exact H2_) | with_reducible exact H | (rw [hy1050]; exact H) | exact H
          have Ny1050 := Aside0.mk hy1050
          clear hy1050
          replace H := Option.bind_eq_some_iff.mp H
          obtain ⟨⟨t1053, t1056⟩, A200, H⟩ := H
          replace H : (arboristlaw13_PlaceFirst.l1 k1 t1032 (rd_L1 t1043 0) x8_1 x9_1 t1053 t1056 (-1) 0 x1040000_1 t1036) = some r := H
          have A20 := Aside0.mk A200
          clear A200
          have H' := Aside0.mk H
          clear H
          have hcz21_0 : wr.cell? ⟨gb1039, 0, none⟩ = some (u1040000) := (blk_cell BK1039.out 0).trans rfl
          have hcz21_1 : wr.cell? ⟨gb1039, 1, none⟩ = some (.slice Ao12 t1036.length co12) := (blk_cell BK1039.out 1).trans rfl
          have hfz21_0 := blk_frozen BK1039.out 0
          have hfz21_1 := blk_frozen BK1039.out 1
          go_wp2_with (first | ((with_reducible refine gate_dst (N := 31) rfl ?_); (try (refine gate_guard (by rfl) ?_; dsimp only)); refine Kd.N_lit (Kd.slice 3 (Kd.int .i64)) _ 23 ?hg (N' := 31) ?hd (xs := ([(rd_L1 t1043 0)] : List (List Int))) (inner := [.slice A1049_0 (rd_L1 t1043 0).length c1049_0]) (ok := (fun k_ => (P1_ k_ ∨ w.heap.size ≤ k_) ∧ some k_ ≠ (u1040000 : Value).ownBlock ∧ some k_ ≠ (.slice Ao12 t1036.length co12 : Value).ownBlock ∧ k_ ≠ gb1039)) (okp := (fun k_ => (P1_ k_ ∨ w.heap.size ≤ k_) ∧ some k_ ≠ (u1040000 : Value).ownBlock ∧ some k_ ≠ (.slice Ao12 t1036.length co12 : Value).ownBlock ∧ k_ ≠ gb1039)) ?hr ?hp (fun _ hk => hk) ((show ∀ k_, wr.heap.size ≤ k_ → (fun k_ => (P1_ k_ ∨ w.heap.size ≤ k_) ∧ some k_ ≠ (u1040000 : Value).ownBlock ∧ some k_ ≠ (.slice Ao12 t1036.length co12 : Value).ownBlock ∧ k_ ≠ gb1039) k_ from fun k_ hk => ⟨(.inr (Nat.le_trans (below_size (by repeat (first | (with_reducible first | exact HB.out | apply below_alloc | apply pw_below_drewN | apply below_drew1 | refine below_set ?_ GE1039.out) | exact HB.out))) hk)), Kd.fresh' (Kd.N_lt (by (with_reducible repeat (first | apply Kd.N_alloc | apply Kd.N_drewN | apply Kd.N_drew)); exact HO_1040000.out)) k_ hk, Kd.fresh' (Kd.R_lt (by (with_reducible repeat (first | apply Kd.R_alloc | apply Kd.R_drewN | apply Kd.R_drew)); exact HO_1040001.out)) k_ hk, Kd.freshB (g := gb1039) (o := .cells #[u1040000, .slice Ao12 t1036.length co12] 25 (0, 0)) (by (with_reducible repeat (first | refine blk_drewN ?_ _ | refine blk_drew ?_ | refine blk_alloc ?_ _)); exact BK1039.out) k_ hk⟩) _ (Nat.le_refl _)) (Below.refl _ _) (Nat.le_refl _) (by simp) ?_; (case hd => rfl); (case hg => rfl); (case hr => first | (go_simp; done) | (go_simp; rfl)); (case hp => exact (Reps.one (show Kd.FK (Kd.slice 3 (Kd.int .i64)) _ _ (rd_L1 t1043 0) [.slice A1049_0 (rd_L1 t1043 0).length c1049_0] from (Kd.FK_slice_mk (Kd.V_reads' (Kd.V_mono (ok' := (fun k_ => (P1_ k_ ∨ w.heap.size ≤ k_) ∧ some k_ ≠ (u1040000 : Value).ownBlock ∧ some k_ ≠ (.slice Ao12 t1036.length co12 : Value).ownBlock ∧ k_ ≠ gb1039)) (HO_7.out) (fun k_ hk => ⟨hk.1, ⟨hk.2.1, ⟨hk.2.2.1, hk.2.2.2⟩⟩⟩))).2.1 (Kd.V_F (Kd.V_mono (ok' := (fun k_ => (P1_ k_ ∨ w.heap.size ≤ k_) ∧ some k_ ≠ (u1040000 : Value).ownBlock ∧ some k_ ≠ (.slice Ao12 t1036.length co12 : Value).ownBlock ∧ k_ ≠ gb1039)) (HO_7.out) (fun k_ hk => ⟨hk.1, ⟨hk.2.1, ⟨hk.2.2.1, hk.2.2.2⟩⟩⟩))))) (Reps.none _ _))); intro v1051 w22 ho23 hb hg_ hnew_; clear hg_ hnew_; (first | rw [← Ny1050.out] at ho23 | (simp only [Int.reduceToNat] at ho23; rw [← Ny1050.out] at ho23)); have n0_ := Aside0.mk (Kd.V_elder' (by (with_reducible repeat (first | apply Kd.V_alloc | apply Kd.V_drewN | apply Kd.V_drew)); exact HO_7.out) (by first | exact Kd.N_base ho23 | exact Kd.N_base (Kd.S_N ho23)) hb); have n1_ := Aside0.mk (Kd.N_elder' (by (with_reducible repeat (first | apply Kd.N_alloc | apply Kd.N_drewN | apply Kd.N_drew)); exact HO_1040000.out) (by first | exact Kd.N_base ho23 | exact Kd.N_base (Kd.S_N ho23)) hb); have n2_ := Aside0.mk (Kd.R_below (by (with_reducible repeat (first | apply Kd.R_alloc | apply Kd.R_drewN | apply Kd.R_drew)); exact HO_1040001.out) hb); have n3_ := Aside0.mk (Kd.N_lower ho23 (below_size (by repeat (first | (with_reducible first | exact HB.out | apply below_alloc | apply pw_below_drewN | apply below_drew1 | refine below_set ?_ GE1039.out) | exact HB.out)))); have n4_ := Aside0.mk (blk_below (g := gb1039) (o := .cells #[u1040000, .slice Ao12 t1036.length co12] 25 (0, 0)) (by (with_reducible repeat (first | refine blk_drewN ?_ _ | refine blk_drew ?_ | refine blk_alloc ?_ _)); exact BK1039.out) hb); have n5_ := Aside0.mk (below_step (by repeat (first | (with_reducible first | exact HB.out | apply below_alloc | apply pw_below_drewN | apply below_drew1 | refine below_set ?_ GE1039.out) | exact HB.out)) hb); clear HO_7; clear HO_1040000; clear HO_1040001; clear BK1039; clear HB; have HO_7 := n0_; have HO_1040000 := n1_; have HO_1040001 := n2_; have HO1052 := n3_; have BK1039 := n4_; have HB := n5_; clear n0_ n1_ n2_ n3_ n4_ n5_; clear hb ho23; obtain ⟨Ao24, co24, eo24⟩ := Kd.N_slice HO_1040000.out; subst eo24; obtain ⟨Ao25, co25, eo25⟩ := Kd.N_slice HO1052.out; subst eo25) | ((with_reducible refine gate_callee (f := 28) rfl ?_); refine goesL_ (some 32) rfl rfl Try.func28 (by kernel_rfl) rfl #[.agg #[.slice Ao24 x1040000_1.length co24, .slice Ao12 t1036.length co12], .slice Ao25 y1050.length co25] rfl (by (try simp only [List.map_toArray, List.map_cons, List.map_nil]); first | done | rfl | (simp only [List.length_drop, List.length_take]; rfl)) ?_; (with_reducible refine (place_Place.calls _ _ x1040000_1 _ _ t1036 _ _ y1050 t1053 t1056 _ ?side1 ?side2 ?side3 ?side4 ?side5 ?side6 A20.out).mono ?_); (case side1 => repeat (first | exact (Kd.N_reads' HO_1040000.out).2.2 | (with_reducible refine Kd.C_alloc ?_ _) | (with_reducible refine Kd.C_drewN ?_ _) | (with_reducible refine Kd.C_drew ?_))); (case side2 => exact (Kd.N_reads' HO_1040000.out).2.1); (case side3 => repeat (first | exact (Kd.R_reads' HO_1040001.out).2.2 | (with_reducible refine Kd.C_alloc ?_ _) | (with_reducible refine Kd.C_drewN ?_ _) | (with_reducible refine Kd.C_drew ?_))); (case side4 => exact (Kd.R_reads' HO_1040001.out).2.1); (case side5 => repeat (first | exact (Kd.N_reads' HO1052.out).2.2 | (with_reducible refine Kd.C_alloc ?_ _) | (with_reducible refine Kd.C_drewN ?_ _) | (with_reducible refine Kd.C_drew ?_))); (case side6 => exact (Kd.N_reads' HO1052.out).2.1); rintro e w26 ⟨v1054, rfl, ho0, hb⟩; refine ⟨_, rfl, ?_⟩; have n0_ := Aside0.mk (Kd.V_elder' (by (with_reducible repeat (first | apply Kd.V_alloc | apply Kd.V_drewN | apply Kd.V_drew)); exact HO_7.out) (Kd.R_base ho0) hb); have n1_ := Aside0.mk (Kd.N_elder' (by (with_reducible repeat (first | apply Kd.N_alloc | apply Kd.N_drewN | apply Kd.N_drew)); exact HO_1040000.out) (Kd.R_base ho0) hb); have n2_ := Aside0.mk (Kd.R_elder' (by (with_reducible repeat (first | apply Kd.R_alloc | apply Kd.R_drewN | apply Kd.R_drew)); exact HO_1040001.out) (Kd.R_base ho0) hb); have n3_ := Aside0.mk (Kd.N_elder' (by (with_reducible repeat (first | apply Kd.N_alloc | apply Kd.N_drewN | apply Kd.N_drew)); exact HO1052.out) (Kd.R_base ho0) hb); have n4_ := Aside0.mk (Kd.R_lower (Kd.R_new' (Kd.R_newM (M := fun k_ => (w.heap.size ≤ k_)) ho0 (below_size (by repeat (first | (with_reducible first | exact HB.out | apply below_alloc | apply pw_below_drewN | apply below_drew1 | refine below_set ?_ GE1039.out) | exact HB.out))) (fun k_ h_ => h_)) (Kd.R_lt (by (with_reducible repeat (first | apply Kd.R_alloc | apply Kd.R_drewN | apply Kd.R_drew)); exact HO_1040001.out))) (below_size (by repeat (first | (with_reducible first | exact HB.out | apply below_alloc | apply pw_below_drewN | apply below_drew1 | refine below_set ?_ GE1039.out) | exact HB.out)))); have n5_ := Aside0.mk (blk_below (g := gb1039) (o := .cells #[.slice Ao24 x1040000_1.length co24, .slice Ao12 t1036.length co12] 25 (0, 0)) (by (with_reducible repeat (first | refine blk_drewN ?_ _ | refine blk_drew ?_ | refine blk_alloc ?_ _)); exact BK1039.out) hb); have n6_ := Aside0.mk (below_step (by repeat (first | (with_reducible first | exact HB.out | apply below_alloc | apply pw_below_drewN | apply below_drew1 | refine below_set ?_ GE1039.out) | exact HB.out)) hb); clear HO_7; clear HO_1040000; clear HO_1040001; clear HO1052; clear BK1039; clear HB; have HO_7 := n0_; have HO_1040000 := n1_; have HO_1040001 := n2_; have HO1052 := n3_; have HO1055 := n4_; have BK1039 := n5_; have HB := n6_; clear n0_ n1_ n2_ n3_ n4_ n5_ n6_; (try clear hb); (try clear hb2); (try clear hk); (try clear hi); (try clear ho0)))
          go_loopg [12, 13] k1 (fun kq v12 v13 w' => ∃ (x12_2 : Int) (x13_2 : Int), v12 = .int .i64 x12_2 ∧ v13 = .int .i64 x13_2 ∧ Aside0 (arboristlaw13_PlaceFirst.l1 kq t1032 (rd_L1 t1043 0) x8_1 x9_1 t1053 t1056 x12_2 x13_2 x1040000_1 t1036 = some r) ∧ Aside0 (kq ≤ k1) ∧ Aside0 (Kd.V (Kd.int .i64) 3 w' w.heap.size (fun k_ => (P1_ k_ ∨ w.heap.size ≤ k_) ∧ some k_ ≠ (v1054 : Value).ownBlock ∧ some k_ ≠ ((.slice Ao24 x1040000_1.length co24) : Value).ownBlock ∧ some k_ ≠ ((.slice Ao12 t1036.length co12) : Value).ownBlock ∧ k_ ≠ gb1039) (.slice A1049_0 (rd_L1 t1043 0).length c1049_0) (rd_L1 t1043 0)) ∧ Aside0 (Kd.R (Kd.int .i64) 3 w' w.heap.size (fun k_ => (w.heap.size ≤ k_) ∧ some k_ ≠ ((.slice Ao12 t1036.length co12) : Value).ownBlock) v1054 t1053) ∧ Aside0 (Kd.N (Kd.slice 3 (Kd.int .i64)) 23 w' w.heap.size (fun k_ => (P1_ k_ ∨ w.heap.size ≤ k_) ∧ some k_ ≠ (v1054 : Value).ownBlock ∧ some k_ ≠ ((.slice Ao12 t1036.length co12) : Value).ownBlock ∧ k_ ≠ gb1039) (.slice Ao24 x1040000_1.length co24) x1040000_1) ∧ Aside0 (Kd.R (Kd.int .i64) 3 w' w.heap.size (fun k_ => (w.heap.size ≤ k_) ∧ some k_ ≠ (v1054 : Value).ownBlock) (.slice Ao12 t1036.length co12) t1036) ∧ Aside0 (w'.heap[gb1039]? = some (.cells #[(.slice Ao24 x1040000_1.length co24), (.slice Ao12 t1036.length co12)] 25 (0, 0))) ∧ Aside0 (Below w.heap.size w w'))
          case atStart => exact ⟨((-1)), (0), (by first | rfl | (simp; done) | (simp [*]; done)), (by first | rfl | (simp; done) | (simp [*]; done)), H', ⟨Nat.le_refl _⟩, ⟨by (with_reducible repeat (first | apply Kd.V_alloc | apply Kd.V_drewN | apply Kd.V_drew)); exact Kd.V_mono HO_7.out (fun _ hk => ⟨hk.1.1.1, ⟨hk.2, ⟨hk.1.1.2.1, ⟨hk.1.1.2.2.1, hk.1.1.2.2.2⟩⟩⟩⟩)⟩, ⟨by (with_reducible repeat (first | apply Kd.R_alloc | apply Kd.R_drewN | apply Kd.R_drew)); exact Kd.R_mono HO1055.out (fun _ hk => ⟨hk.1.1, hk.2⟩)⟩, ⟨by (with_reducible repeat (first | apply Kd.N_alloc | apply Kd.N_drewN | apply Kd.N_drew)); exact Kd.N_mono HO_1040000.out (fun _ hk => ⟨hk.1.1.1, ⟨hk.2, ⟨hk.1.1.2.1, hk.1.1.2.2⟩⟩⟩)⟩, ⟨by (with_reducible repeat (first | apply Kd.R_alloc | apply Kd.R_drewN | apply Kd.R_drew)); exact HO_1040001.out⟩, ⟨by (with_reducible repeat (first | refine blk_drewN ?_ _ | refine blk_drew ?_ | refine blk_alloc ?_ _)); exact BK1039.out⟩, ⟨by repeat (first | (with_reducible first | exact HB.out | apply below_alloc | apply pw_below_drewN | apply below_drew1 | refine below_set ?_ GE1039.out) | exact HB.out)⟩⟩
          case round =>
            clear H'
            try clear c1
            try clear p1
            try clear q1
            try clear hx1
            try clear qi1
            try clear c2
            try clear p2
            try clear c6
            try clear c6b0
            try clear c6b1
            try clear c10
            try clear p10
            try clear q10
            try clear hx10
            try clear qi10
            try clear c14
            try clear c19
            try clear c19b0
            try clear c26
            try clear hcz11_0
            try clear hcz11_1
            try clear hcz21_0
            try clear hcz21_1
            try clear hfz11_0
            try clear hfz11_1
            try clear hfz21_0
            try clear hfz21_1
            try clear hx1049_0
            try clear p1
            try clear p10
            try clear p1049
            try clear p2
            try clear q1
            try clear q10
            try clear q1049
            obtain ⟨x12_2, x13_2, rfl, rfl, HA, HK2, HO_7, HO_10, HO_1040000, HO_1040001, BK1039, HB⟩ := hrel
            cases gk with
            | zero => exact absurd HA.out (by simp [arboristlaw13_PlaceFirst.l1])
            | succ k2 =>
              have H := HA.out
              clear HA
              simp only [arboristlaw13_PlaceFirst.l1] at H
              have HC27 := Aside0.mk H
              clear H
              go_upto_region 11 with (fail)
              go_cut [43] (fun v43 wc => ∃ (kq : Nat) (x43_26 : Bool), v43 = .bool x43_26 ∧ Aside0 (arboristlaw13_PlaceFirst.j2 kq t1032 (rd_L1 t1043 0) x8_1 x9_1 t1053 t1056 x12_2 x13_2 x43_26 x1040000_1 t1036 = some r) ∧ Aside0 (kq ≤ k2) ∧ Aside0 (Kd.V (Kd.int .i64) 3 wc w.heap.size (fun k_ => (P1_ k_ ∨ w.heap.size ≤ k_) ∧ some k_ ≠ (v1054 : Value).ownBlock ∧ some k_ ≠ ((.slice Ao24 x1040000_1.length co24) : Value).ownBlock ∧ some k_ ≠ ((.slice Ao12 t1036.length co12) : Value).ownBlock ∧ k_ ≠ gb1039) (.slice A1049_0 (rd_L1 t1043 0).length c1049_0) (rd_L1 t1043 0)) ∧ Aside0 (Kd.R (Kd.int .i64) 3 wc w.heap.size (fun k_ => (w.heap.size ≤ k_) ∧ some k_ ≠ ((.slice Ao12 t1036.length co12) : Value).ownBlock) v1054 t1053) ∧ Aside0 (Kd.N (Kd.slice 3 (Kd.int .i64)) 23 wc w.heap.size (fun k_ => (P1_ k_ ∨ w.heap.size ≤ k_) ∧ some k_ ≠ (v1054 : Value).ownBlock ∧ some k_ ≠ ((.slice Ao12 t1036.length co12) : Value).ownBlock ∧ k_ ≠ gb1039) (.slice Ao24 x1040000_1.length co24) x1040000_1) ∧ Aside0 (Kd.R (Kd.int .i64) 3 wc w.heap.size (fun k_ => (w.heap.size ≤ k_) ∧ some k_ ≠ (v1054 : Value).ownBlock) (.slice Ao12 t1036.length co12) t1036) ∧ Aside0 (wc.heap[gb1039]? = some (.cells #[(.slice Ao24 x1040000_1.length co24), (.slice Ao12 t1036.length co12)] 25 (0, 0))) ∧ Aside0 (Below w.heap.size w wc))
              case first =>
                have H := HC27.out
                clear HC27
                by_cases c28 : x13_2 < (x1040000_1.length : Int)
                · rw [if_pos c28] at H
                  have c28b0 : decide (x13_2 < (x1040000_1.length : Int)) = true := decide_eq_true c28
                  clear c28
                  (first | rw [c28b0] | (simp only [i64_w, i32_w]; rw [c28b0]) | skip)
                  have H' := Aside0.mk H
                  clear H
                  have hcz29_0 : wr.cell? ⟨gb1039, 0, none⟩ = some (.slice Ao24 x1040000_1.length co24) := (blk_cell BK1039.out 0).trans rfl
                  have hcz29_1 : wr.cell? ⟨gb1039, 1, none⟩ = some (.slice Ao12 t1036.length co12) := (blk_cell BK1039.out 1).trans rfl
                  have hfz29_0 := blk_frozen BK1039.out 0
                  have hfz29_1 := blk_frozen BK1039.out 1
                  go_wp2
                  go_meet
                  case rel => exact ⟨_, (decide (x12_2 < 0)), (by first | rfl | (simp; done) | (simp [*]; done)), H', ⟨by have := HK1.out; have := HK2.out; first | omega | exact Nat.le_refl _⟩, ⟨by (with_reducible repeat (first | apply Kd.V_alloc | apply Kd.V_drewN | apply Kd.V_drew)); exact HO_7.out⟩, ⟨by (with_reducible repeat (first | apply Kd.R_alloc | apply Kd.R_drewN | apply Kd.R_drew)); exact HO_10.out⟩, ⟨by (with_reducible repeat (first | apply Kd.N_alloc | apply Kd.N_drewN | apply Kd.N_drew)); exact HO_1040000.out⟩, ⟨by (with_reducible repeat (first | apply Kd.R_alloc | apply Kd.R_drewN | apply Kd.R_drew)); exact HO_1040001.out⟩, ⟨by (with_reducible repeat (first | refine blk_drewN ?_ _ | refine blk_drew ?_ | refine blk_alloc ?_ _)); exact BK1039.out⟩, ⟨by repeat (first | (with_reducible first | exact HB.out | apply below_alloc | apply pw_below_drewN | apply below_drew1 | refine below_set ?_ GE1039.out) | exact HB.out)⟩⟩
                · rw [if_neg c28] at H
                  have c28b0 : decide (x13_2 < (x1040000_1.length : Int)) = false := decide_eq_false c28
                  clear c28
                  (first | rw [c28b0] | (simp only [i64_w, i32_w]; rw [c28b0]) | skip)
                  have H' := Aside0.mk H
                  clear H
                  have hcz30_0 : wr.cell? ⟨gb1039, 0, none⟩ = some (.slice Ao24 x1040000_1.length co24) := (blk_cell BK1039.out 0).trans rfl
                  have hcz30_1 : wr.cell? ⟨gb1039, 1, none⟩ = some (.slice Ao12 t1036.length co12) := (blk_cell BK1039.out 1).trans rfl
                  have hfz30_0 := blk_frozen BK1039.out 0
                  have hfz30_1 := blk_frozen BK1039.out 1
                  go_wp2
                  go_meet
                  case rel => exact ⟨_, (false), (by first | rfl | (simp; done) | (simp [*]; done)), H', ⟨by have := HK1.out; have := HK2.out; first | omega | exact Nat.le_refl _⟩, ⟨by (with_reducible repeat (first | apply Kd.V_alloc | apply Kd.V_drewN | apply Kd.V_drew)); exact HO_7.out⟩, ⟨by (with_reducible repeat (first | apply Kd.R_alloc | apply Kd.R_drewN | apply Kd.R_drew)); exact HO_10.out⟩, ⟨by (with_reducible repeat (first | apply Kd.N_alloc | apply Kd.N_drewN | apply Kd.N_drew)); exact HO_1040000.out⟩, ⟨by (with_reducible repeat (first | apply Kd.R_alloc | apply Kd.R_drewN | apply Kd.R_drew)); exact HO_1040001.out⟩, ⟨by (with_reducible repeat (first | refine blk_drewN ?_ _ | refine blk_drew ?_ | refine blk_alloc ?_ _)); exact BK1039.out⟩, ⟨by repeat (first | (with_reducible first | exact HB.out | apply below_alloc | apply pw_below_drewN | apply below_drew1 | refine below_set ?_ GE1039.out) | exact HB.out)⟩⟩
              case rest =>
                clear HC27
                try clear c1
                try clear p1
                try clear q1
                try clear hx1
                try clear qi1
                try clear c2
                try clear p2
                try clear c6
                try clear c6b0
                try clear c6b1
                try clear c10
                try clear p10
                try clear q10
                try clear hx10
                try clear qi10
                try clear c14
                try clear c19
                try clear c19b0
                try clear c26
                try clear c27
                try clear c28
                try clear c28b0
                try clear hcz11_0
                try clear hcz11_1
                try clear hcz21_0
                try clear hcz21_1
                try clear hcz29_0
                try clear hcz29_1
                try clear hcz30_0
                try clear hcz30_1
                try clear hfz11_0
                try clear hfz11_1
                try clear hfz21_0
                try clear hfz21_1
                try clear hfz29_0
                try clear hfz29_1
                try clear hfz30_0
                try clear hfz30_1
                try clear hx1049_0
                try clear p1
                try clear p10
                try clear p1049
                try clear p2
                try clear q1
                try clear q10
                try clear q1049
                obtain ⟨kq, x43_26, rfl, HA, HJ26, HO_7, HO_10, HO_1040000, HO_1040001, BK1039, HB⟩ := hcut
                cases kq with
                | zero => exact absurd HA.out (by simp [arboristlaw13_PlaceFirst.j2])
                | succ kj26 =>
                  have H := HA.out
                  clear HA
                  simp only [arboristlaw13_PlaceFirst.j2] at H
                  by_cases c31 : x43_26 = true
                  · subst c31
                    have H1 : (if 0 ≤ x13_2 then (if x13_2 < (x1040000_1.length : Int) then ((arboristref01_Within.f kj26 (rd_L1 t1043 0) (rd_L1 x1040000_1 x13_2)).bind fun t1058 => (if t1058 = true then (arboristlaw13_PlaceFirst.l1 kj26 t1032 (rd_L1 t1043 0) x8_1 x9_1 t1053 t1056 x13_2 (wrap64 (x13_2 + 1)) x1040000_1 t1036) else (arboristlaw13_PlaceFirst.l1 kj26 t1032 (rd_L1 t1043 0) x8_1 x9_1 t1053 t1056 x12_2 (wrap64 (x13_2 + 1)) x1040000_1 t1036))) else (none)) else (none)) = some r := by rw [if_pos rfl] at H; exact H
                    clear H
                    have H := H1
                    clear H1
                    by_cases c32 : 0 ≤ x13_2
                    · rw [if_pos c32] at H
                      have c32b0 : decide (0 ≤ x13_2) = true := decide_eq_true c32
                      clear c32
                      by_cases c33 : x13_2 < (x1040000_1.length : Int)
                      · rw [if_pos c33] at H
                        have c33b0 : decide (x13_2 < (x1040000_1.length : Int)) = true := decide_eq_true c33
                        clear c33
                        replace H := Option.bind_eq_some_iff.mp H
                        obtain ⟨t1058, A340, H⟩ := H
                        replace H : (if t1058 = true then (arboristlaw13_PlaceFirst.l1 kj26 t1032 (rd_L1 t1043 0) x8_1 x9_1 t1053 t1056 x13_2 (wrap64 (x13_2 + 1)) x1040000_1 t1036) else (arboristlaw13_PlaceFirst.l1 kj26 t1032 (rd_L1 t1043 0) x8_1 x9_1 t1053 t1056 x12_2 (wrap64 (x13_2 + 1)) x1040000_1 t1036)) = some r := H
                        have A34 := Aside0.mk A340
                        clear A340
                        by_cases c35 : t1058 = true
                        · subst c35
                          have H1 : (arboristlaw13_PlaceFirst.l1 kj26 t1032 (rd_L1 t1043 0) x8_1 x9_1 t1053 t1056 x13_2 (wrap64 (x13_2 + 1)) x1040000_1 t1036) = some r := by rw [if_pos rfl] at H; exact H
                          clear H
                          have H := H1
                          clear H1
                          have H' := Aside0.mk H
                          clear H
                          have hcz36_0 : wc.cell? ⟨gb1039, 0, none⟩ = some (.slice Ao24 x1040000_1.length co24) := (blk_cell BK1039.out 0).trans rfl
                          have hcz36_1 : wc.cell? ⟨gb1039, 1, none⟩ = some (.slice Ao12 t1036.length co12) := (blk_cell BK1039.out 1).trans rfl
                          have hfz36_0 := blk_frozen BK1039.out 0
                          have hfz36_1 := blk_frozen BK1039.out 1
                          have p1057 : 0 ≤ (x13_2 : Int) := of_decide_eq_true (by first | (with_reducible assumption) | assumption)
                          have q1057 : x13_2 < (x1040000_1.length : Int) := of_decide_eq_true (by first | (with_reducible assumption) | assumption)
                          obtain ⟨ad1057, A1057_0, c1057_0, e1057, hx1057_0, hl1057_0, hi1057_0⟩ := at_L1 (Kd.N_reads' HO_1040000.out).2.2 x13_2 p1057 q1057
                          cases e1057
                          obtain ⟨ce1057, hce1057, hMe1057, hcc1057⟩ := Kd.N_get HO_1040000.out [] x13_2 p1057 (by first | exact q1057 | exact of_decide_eq_true (by first | (with_reducible assumption) | assumption) | (have e_ := (Kd.N_reads' HO_1040000.out).1; omega))
                          obtain ⟨ua1057_0, uc1057_0, rfl, ul1057_0, ge1057_0⟩ := Kd.FK_slice_open hMe1057
                          have hv1057_0 := hcc1057 0 _ rfl
                          rw [Nat.add_zero, show ((Kd.slice 3 (Kd.int .i64))).sz = 1 from rfl, Nat.mul_one] at hv1057_0
                          replace hv1057_0 := Option.some.inj (hv1057_0.symm.trans hx1057_0)
                          injection hv1057_0 with hva_ hvn_ hvc_
                          rw [hva_] at ge1057_0
                          rw [hvc_] at ul1057_0
                          have HL1057_0 := Aside0.mk (show Kd.V (Kd.int .i64) 3 _ w.heap.size _ _ (rd_L1 x1040000_1 x13_2) from Kd.V_mk ul1057_0 ge1057_0)
                          clear hva_ hvn_ hvc_ ge1057_0 ul1057_0
                          clear hcc1057 hce1057
                          have HR1057_0 := Aside0.mk hi1057_0
                          have HC1057_0 := Aside0.mk hl1057_0
                          clear hi1057_0 hl1057_0
                          replace p1057 := eq_true p1057
                          replace q1057 := eq_true q1057
                          go_wp2_with (first | ((with_reducible refine gate_callee (f := 43) rfl ?_); refine goesL_ (some 52) rfl rfl Try.func43 (by kernel_rfl) rfl #[.slice A1049_0 (rd_L1 t1043 0).length c1049_0, .slice A1057_0 (rd_L1 x1040000_1 x13_2).length c1057_0] rfl (by (try simp only [List.map_toArray, List.map_cons, List.map_nil]); first | done | rfl | (simp only [List.length_drop, List.length_take]; rfl)) ?_; (with_reducible refine (arboristref01_Within.calls kj26 _ _ (rd_L1 t1043 0) _ _ (rd_L1 x1040000_1 x13_2) true _ ?side1 ?side2 ?side3 ?side4 A34.out).mono ?_); (case side1 => repeat (first | exact (Kd.V_reads' HO_7.out).2.2 | (with_reducible refine Kd.C_alloc ?_ _) | (with_reducible refine Kd.C_drewN ?_ _) | (with_reducible refine Kd.C_drew ?_))); (case side2 => exact (Kd.V_reads' HO_7.out).2.1); (case side3 => repeat (first | exact (by repeat (first | (with_reducible exact HR1057_0.out) | (with_reducible refine Kd.C_alloc ?_ _) | (with_reducible refine Kd.C_drewN ?_ _) | (with_reducible refine Kd.C_drew ?_) | exact HR1057_0.out)) | (with_reducible refine Kd.C_alloc ?_ _) | (with_reducible refine Kd.C_drewN ?_ _) | (with_reducible refine Kd.C_drew ?_))); (case side4 => exact HC1057_0.out); rintro e w37 ⟨rfl, hb⟩; refine ⟨_, rfl, ?_⟩; have n0_ := Aside0.mk (Kd.V_below (by (with_reducible repeat (first | apply Kd.V_alloc | apply Kd.V_drewN | apply Kd.V_drew)); exact HO_7.out) hb); have n1_ := Aside0.mk (Kd.R_below (by (with_reducible repeat (first | apply Kd.R_alloc | apply Kd.R_drewN | apply Kd.R_drew)); exact HO_10.out) hb); have n2_ := Aside0.mk (Kd.N_below (by (with_reducible repeat (first | apply Kd.N_alloc | apply Kd.N_drewN | apply Kd.N_drew)); exact HO_1040000.out) hb); have n3_ := Aside0.mk (Kd.R_below (by (with_reducible repeat (first | apply Kd.R_alloc | apply Kd.R_drewN | apply Kd.R_drew)); exact HO_1040001.out) hb); have n4_ := Aside0.mk (Kd.V_below (by (with_reducible repeat (first | apply Kd.V_alloc | apply Kd.V_drewN | apply Kd.V_drew)); exact HL1057_0.out) hb); have n5_ := Aside0.mk (blk_below (g := gb1039) (o := .cells #[.slice (some ad1057) x1040000_1.length co24, .slice Ao12 t1036.length co12] 25 (0, 0)) (by (with_reducible repeat (first | refine blk_drewN ?_ _ | refine blk_drew ?_ | refine blk_alloc ?_ _)); exact BK1039.out) hb); have n6_ := Aside0.mk (Kd.C_below (by repeat (first | (with_reducible exact HR1057_0.out) | (with_reducible refine Kd.C_alloc ?_ _) | (with_reducible refine Kd.C_drewN ?_ _) | (with_reducible refine Kd.C_drew ?_) | exact HR1057_0.out)) hb); have n7_ := Aside0.mk (below_step (by repeat (first | (with_reducible first | exact HB.out | apply below_alloc | apply pw_below_drewN | apply below_drew1 | refine below_set ?_ GE1039.out) | exact HB.out)) hb); clear HO_7; clear HO_10; clear HO_1040000; clear HO_1040001; clear HL1057_0; clear BK1039; clear HR1057_0; clear HB; have HO_7 := n0_; have HO_10 := n1_; have HO_1040000 := n2_; have HO_1040001 := n3_; have HL1057_0 := n4_; have BK1039 := n5_; have HR1057_0 := n6_; have HB := n7_; clear n0_ n1_ n2_ n3_ n4_ n5_ n6_ n7_; (try clear hb); (try clear hb2); (try clear hk); (try clear hi)))
                          go_roundg kj26
                          case measure => have := HK1.out; have := HK2.out; have := HJ26.out; omega
                          case rel => exact ⟨(x13_2), (wrap64 (x13_2 + 1)), (by first | rfl | (simp; done) | (simp [*]; done)), (by first | rfl | (simp; done) | (simp [*]; done)), H', ⟨by have := HK1.out; have := HK2.out; have := HJ26.out; omega⟩, ⟨by (with_reducible repeat (first | apply Kd.V_alloc | apply Kd.V_drewN | apply Kd.V_drew)); exact HO_7.out⟩, ⟨by (with_reducible repeat (first | apply Kd.R_alloc | apply Kd.R_drewN | apply Kd.R_drew)); exact HO_10.out⟩, ⟨by (with_reducible repeat (first | apply Kd.N_alloc | apply Kd.N_drewN | apply Kd.N_drew)); exact HO_1040000.out⟩, ⟨by (with_reducible repeat (first | apply Kd.R_alloc | apply Kd.R_drewN | apply Kd.R_drew)); exact HO_1040001.out⟩, ⟨by (with_reducible repeat (first | refine blk_drewN ?_ _ | refine blk_drew ?_ | refine blk_alloc ?_ _)); exact BK1039.out⟩, ⟨by repeat (first | (with_reducible first | exact HB.out | apply below_alloc | apply pw_below_drewN | apply below_drew1 | refine below_set ?_ GE1039.out) | exact HB.out)⟩⟩
                        · replace c35 := Bool.eq_false_iff.mpr c35
                          subst c35
                          have H1 : (arboristlaw13_PlaceFirst.l1 kj26 t1032 (rd_L1 t1043 0) x8_1 x9_1 t1053 t1056 x12_2 (wrap64 (x13_2 + 1)) x1040000_1 t1036) = some r := by rw [if_neg (show ¬ (false = true) by decide)] at H; exact H
                          clear H
                          have H := H1
                          clear H1
                          have H' := Aside0.mk H
                          clear H
                          have hcz38_0 : wc.cell? ⟨gb1039, 0, none⟩ = some (.slice Ao24 x1040000_1.length co24) := (blk_cell BK1039.out 0).trans rfl
                          have hcz38_1 : wc.cell? ⟨gb1039, 1, none⟩ = some (.slice Ao12 t1036.length co12) := (blk_cell BK1039.out 1).trans rfl
                          have hfz38_0 := blk_frozen BK1039.out 0
                          have hfz38_1 := blk_frozen BK1039.out 1
                          have p1057 : 0 ≤ (x13_2 : Int) := of_decide_eq_true (by first | (with_reducible assumption) | assumption)
                          have q1057 : x13_2 < (x1040000_1.length : Int) := of_decide_eq_true (by first | (with_reducible assumption) | assumption)
                          obtain ⟨ad1057, A1057_0, c1057_0, e1057, hx1057_0, hl1057_0, hi1057_0⟩ := at_L1 (Kd.N_reads' HO_1040000.out).2.2 x13_2 p1057 q1057
                          cases e1057
                          obtain ⟨ce1057, hce1057, hMe1057, hcc1057⟩ := Kd.N_get HO_1040000.out [] x13_2 p1057 (by first | exact q1057 | exact of_decide_eq_true (by first | (with_reducible assumption) | assumption) | (have e_ := (Kd.N_reads' HO_1040000.out).1; omega))
                          obtain ⟨ua1057_0, uc1057_0, rfl, ul1057_0, ge1057_0⟩ := Kd.FK_slice_open hMe1057
                          have hv1057_0 := hcc1057 0 _ rfl
                          rw [Nat.add_zero, show ((Kd.slice 3 (Kd.int .i64))).sz = 1 from rfl, Nat.mul_one] at hv1057_0
                          replace hv1057_0 := Option.some.inj (hv1057_0.symm.trans hx1057_0)
                          injection hv1057_0 with hva_ hvn_ hvc_
                          rw [hva_] at ge1057_0
                          rw [hvc_] at ul1057_0
                          have HL1057_0 := Aside0.mk (show Kd.V (Kd.int .i64) 3 _ w.heap.size _ _ (rd_L1 x1040000_1 x13_2) from Kd.V_mk ul1057_0 ge1057_0)
                          clear hva_ hvn_ hvc_ ge1057_0 ul1057_0
                          clear hcc1057 hce1057
                          have HR1057_0 := Aside0.mk hi1057_0
                          have HC1057_0 := Aside0.mk hl1057_0
                          clear hi1057_0 hl1057_0
                          replace p1057 := eq_true p1057
                          replace q1057 := eq_true q1057
                          go_wp2_with (first | ((with_reducible refine gate_callee (f := 43) rfl ?_); refine goesL_ (some 52) rfl rfl Try.func43 (by kernel_rfl) rfl #[.slice A1049_0 (rd_L1 t1043 0).length c1049_0, .slice A1057_0 (rd_L1 x1040000_1 x13_2).length c1057_0] rfl (by (try simp only [List.map_toArray, List.map_cons, List.map_nil]); first | done | rfl | (simp only [List.length_drop, List.length_take]; rfl)) ?_; (with_reducible refine (arboristref01_Within.calls kj26 _ _ (rd_L1 t1043 0) _ _ (rd_L1 x1040000_1 x13_2) false _ ?side1 ?side2 ?side3 ?side4 A34.out).mono ?_); (case side1 => repeat (first | exact (Kd.V_reads' HO_7.out).2.2 | (with_reducible refine Kd.C_alloc ?_ _) | (with_reducible refine Kd.C_drewN ?_ _) | (with_reducible refine Kd.C_drew ?_))); (case side2 => exact (Kd.V_reads' HO_7.out).2.1); (case side3 => repeat (first | exact (by repeat (first | (with_reducible exact HR1057_0.out) | (with_reducible refine Kd.C_alloc ?_ _) | (with_reducible refine Kd.C_drewN ?_ _) | (with_reducible refine Kd.C_drew ?_) | exact HR1057_0.out)) | (with_reducible refine Kd.C_alloc ?_ _) | (with_reducible refine Kd.C_drewN ?_ _) | (with_reducible refine Kd.C_drew ?_))); (case side4 => exact HC1057_0.out); rintro e w39 ⟨rfl, hb⟩; refine ⟨_, rfl, ?_⟩; have n0_ := Aside0.mk (Kd.V_below (by (with_reducible repeat (first | apply Kd.V_alloc | apply Kd.V_drewN | apply Kd.V_drew)); exact HO_7.out) hb); have n1_ := Aside0.mk (Kd.R_below (by (with_reducible repeat (first | apply Kd.R_alloc | apply Kd.R_drewN | apply Kd.R_drew)); exact HO_10.out) hb); have n2_ := Aside0.mk (Kd.N_below (by (with_reducible repeat (first | apply Kd.N_alloc | apply Kd.N_drewN | apply Kd.N_drew)); exact HO_1040000.out) hb); have n3_ := Aside0.mk (Kd.R_below (by (with_reducible repeat (first | apply Kd.R_alloc | apply Kd.R_drewN | apply Kd.R_drew)); exact HO_1040001.out) hb); have n4_ := Aside0.mk (Kd.V_below (by (with_reducible repeat (first | apply Kd.V_alloc | apply Kd.V_drewN | apply Kd.V_drew)); exact HL1057_0.out) hb); have n5_ := Aside0.mk (blk_below (g := gb1039) (o := .cells #[.slice (some ad1057) x1040000_1.length co24, .slice Ao12 t1036.length co12] 25 (0, 0)) (by (with_reducible repeat (first | refine blk_drewN ?_ _ | refine blk_drew ?_ | refine blk_alloc ?_ _)); exact BK1039.out) hb); have n6_ := Aside0.mk (Kd.C_below (by repeat (first | (with_reducible exact HR1057_0.out) | (with_reducible refine Kd.C_alloc ?_ _) | (with_reducible refine Kd.C_drewN ?_ _) | (with_reducible refine Kd.C_drew ?_) | exact HR1057_0.out)) hb); have n7_ := Aside0.mk (below_step (by repeat (first | (with_reducible first | exact HB.out | apply below_alloc | apply pw_below_drewN | apply below_drew1 | refine below_set ?_ GE1039.out) | exact HB.out)) hb); clear HO_7; clear HO_10; clear HO_1040000; clear HO_1040001; clear HL1057_0; clear BK1039; clear HR1057_0; clear HB; have HO_7 := n0_; have HO_10 := n1_; have HO_1040000 := n2_; have HO_1040001 := n3_; have HL1057_0 := n4_; have BK1039 := n5_; have HR1057_0 := n6_; have HB := n7_; clear n0_ n1_ n2_ n3_ n4_ n5_ n6_ n7_; (try clear hb); (try clear hb2); (try clear hk); (try clear hi)))
                          go_roundg kj26
                          case measure => have := HK1.out; have := HK2.out; have := HJ26.out; omega
                          case rel => exact ⟨(x12_2), (wrap64 (x13_2 + 1)), (by first | rfl | (simp; done) | (simp [*]; done)), (by first | rfl | (simp; done) | (simp [*]; done)), H', ⟨by have := HK1.out; have := HK2.out; have := HJ26.out; omega⟩, ⟨by (with_reducible repeat (first | apply Kd.V_alloc | apply Kd.V_drewN | apply Kd.V_drew)); exact HO_7.out⟩, ⟨by (with_reducible repeat (first | apply Kd.R_alloc | apply Kd.R_drewN | apply Kd.R_drew)); exact HO_10.out⟩, ⟨by (with_reducible repeat (first | apply Kd.N_alloc | apply Kd.N_drewN | apply Kd.N_drew)); exact HO_1040000.out⟩, ⟨by (with_reducible repeat (first | apply Kd.R_alloc | apply Kd.R_drewN | apply Kd.R_drew)); exact HO_1040001.out⟩, ⟨by (with_reducible repeat (first | refine blk_drewN ?_ _ | refine blk_drew ?_ | refine blk_alloc ?_ _)); exact BK1039.out⟩, ⟨by repeat (first | (with_reducible first | exact HB.out | apply below_alloc | apply pw_below_drewN | apply below_drew1 | refine below_set ?_ GE1039.out) | exact HB.out)⟩⟩
                      · rw [if_neg c33] at H
                        exact absurd H (by simp)
                    · rw [if_neg c32] at H
                      exact absurd H (by simp)
                  · replace c31 := Bool.eq_false_iff.mpr c31
                    subst c31
                    have H1 : (if x12_2 < 0 then (if t1032 = true then (if t1056 = 5 then (some ((t1053.length : Int) == 0)) else (some false)) else (some false)) else (if t1056 = 0 then (if (t1053.length : Int) = 1 then (if 0 < (t1053.length : Int) then (if (rd t1053 0) = x12_2 then (arboristlaw13_PlaceFirst.j3 kj26 t1032 (rd_L1 t1043 0) x9_1 x12_2 (decide (x12_2 ≤ x8_1)) x1040000_1 t1036) else (arboristlaw13_PlaceFirst.j3 kj26 t1032 (rd_L1 t1043 0) x9_1 x12_2 true x1040000_1 t1036)) else (none)) else (arboristlaw13_PlaceFirst.j3 kj26 t1032 (rd_L1 t1043 0) x9_1 x12_2 true x1040000_1 t1036)) else (arboristlaw13_PlaceFirst.j3 kj26 t1032 (rd_L1 t1043 0) x9_1 x12_2 true x1040000_1 t1036))) = some r := by rw [if_neg (show ¬ (false = true) by decide)] at H; exact H
                    clear H
                    have H := H1
                    clear H1
                    by_cases c40 : x12_2 < 0
                    · rw [if_pos c40] at H
                      have c40b0 : decide (x12_2 < 0) = true := decide_eq_true c40
                      clear c40
                      by_cases c41 : t1032 = true
                      · subst c41
                        have H1 : (if t1056 = 5 then (some ((t1053.length : Int) == 0)) else (some false)) = some r := by rw [if_pos rfl] at H; exact H
                        clear H
                        have H := H1
                        clear H1
                        by_cases c42 : t1056 = 5
                        · rw [if_pos c42] at H
                          have c42b0 : (t1056 == 5) = true := beq_iff_eq.mpr c42
                          have c42b1 : (t1056 != 5) = false := bne_eq_false_iff_eq.mpr c42
                          clear c42
                          obtain rfl := Option.some.inj H
                          obtain ⟨Ao43, co43, eo43⟩ := Kd.R_slice HO_10.out
                          subst eo43
                          go_wp2
                          go_ret
                          exact ⟨by first | rfl | (simp [errW_none, errW_some] <;> rfl) | (simp [*, errW_none, errW_some] <;> rfl), by repeat (first | (with_reducible first | exact HB.out | apply below_alloc | apply pw_below_drewN | apply below_drew1 | refine below_set ?_ GE1039.out) | exact HB.out)⟩
                        · rw [if_neg c42] at H
                          have c42b0 : (t1056 == 5) = false := beq_eq_false_iff_ne.mpr c42
                          have c42b1 : (t1056 != 5) = true := bne_iff_ne.mpr c42
                          exact absurd ((Option.some.inj H).trans HTr_.out) (by decide)
                      · replace c41 := Bool.eq_false_iff.mpr c41
                        subst c41
                        have H1 : (some false) = some r := by rw [if_neg (show ¬ (false = true) by decide)] at H; exact H
                        clear H
                        have H := H1
                        clear H1
                        exact absurd ((Option.some.inj H).trans HTr_.out) (by decide)
                    · rw [if_neg c40] at H
                      have c40b0 : decide (x12_2 < 0) = false := decide_eq_false c40
                      clear c40
                      have HC44 := Aside0.mk H
                      clear H
                      go_upto_region 18 with (fail)
                      go_cut [85] (fun v85 wc => ∃ (kq : Nat) (x85_43 : Bool), v85 = .bool x85_43 ∧ Aside0 (arboristlaw13_PlaceFirst.j3 kq t1032 (rd_L1 t1043 0) x9_1 x12_2 x85_43 x1040000_1 t1036 = some r) ∧ Aside0 (kq ≤ kj26) ∧ Aside0 (Kd.V (Kd.int .i64) 3 wc w.heap.size (fun k_ => (P1_ k_ ∨ w.heap.size ≤ k_) ∧ some k_ ≠ ((.slice Ao24 x1040000_1.length co24) : Value).ownBlock ∧ some k_ ≠ ((.slice Ao12 t1036.length co12) : Value).ownBlock ∧ k_ ≠ gb1039) (.slice A1049_0 (rd_L1 t1043 0).length c1049_0) (rd_L1 t1043 0)) ∧ Aside0 (Kd.N (Kd.slice 3 (Kd.int .i64)) 23 wc w.heap.size (fun k_ => (P1_ k_ ∨ w.heap.size ≤ k_) ∧ some k_ ≠ ((.slice Ao12 t1036.length co12) : Value).ownBlock ∧ k_ ≠ gb1039) (.slice Ao24 x1040000_1.length co24) x1040000_1) ∧ Aside0 (Kd.R (Kd.int .i64) 3 wc w.heap.size (fun k_ => (w.heap.size ≤ k_)) (.slice Ao12 t1036.length co12) t1036) ∧ Aside0 (wc.heap[gb1039]? = some (.cells #[(.slice Ao24 x1040000_1.length co24), (.slice Ao12 t1036.length co12)] 25 (0, 0))) ∧ Aside0 (Below w.heap.size w wc))
                      case first =>
                        have H := HC44.out
                        clear HC44
                        by_cases c45 : t1056 = 0
                        · rw [if_pos c45] at H
                          have c45b0 : (t1056 == 0) = true := beq_iff_eq.mpr c45
                          have c45b1 : (t1056 != 0) = false := bne_eq_false_iff_eq.mpr c45
                          clear c45
                          (first | rw [c45b0] | (simp only [i64_w, i32_w]; rw [c45b0]) | skip)
                          by_cases c46 : (t1053.length : Int) = 1
                          · rw [if_pos c46] at H
                            have c46b0 : ((t1053.length : Int) == 1) = true := beq_iff_eq.mpr c46
                            have c46b1 : ((t1053.length : Int) != 1) = false := bne_eq_false_iff_eq.mpr c46
                            clear c46
                            by_cases c47 : 0 < (t1053.length : Int)
                            · rw [if_pos c47] at H
                              have c47b0 : decide (0 < (t1053.length : Int)) = true := decide_eq_true c47
                              have c47b1 : decide (0 < t1053.length) = true := decide_eq_true (by omega)
                              clear c47
                              by_cases c48 : (rd t1053 0) = x12_2
                              · rw [if_pos c48] at H
                                have c48b0 : ((rd t1053 0) == x12_2) = true := beq_iff_eq.mpr c48
                                have c48b1 : ((rd t1053 0) != x12_2) = false := bne_eq_false_iff_eq.mpr c48
                                clear c48
                                have H' := Aside0.mk H
                                clear H
                                obtain ⟨Ao49, co49, eo49⟩ := Kd.R_slice HO_10.out
                                subst eo49
                                have p1059 : 0 ≤ (0 : Int) := (by omega)
                                have q1059 : 0 < (t1053.length : Int) := of_decide_eq_true (by first | (with_reducible assumption) | assumption)
                                obtain ⟨ad1059, e1059, hx1059_0⟩ := Kd.at_int (Kd.R_reads' HO_10.out).2.2 0 p1059 q1059
                                cases e1059
                                have qi1059 : (0 < t1053.length) = True := eq_true (by omega)
                                (try rw [show ((0 : Int)).toNat = 0 from rfl] at hx1059_0)
                                (try rw [Addr.add_zero'] at hx1059_0)
                                replace p1059 := eq_true p1059
                                replace q1059 := eq_true q1059
                                go_wp2
                                go_meet
                                case rel => exact ⟨_, (decide (x12_2 ≤ x8_1)), (by first | rfl | (simp; done) | (simp [*]; done)), H', ⟨by have := HK1.out; have := HK2.out; have := HJ26.out; first | omega | exact Nat.le_refl _⟩, ⟨by (with_reducible repeat (first | apply Kd.V_alloc | apply Kd.V_drewN | apply Kd.V_drew)); exact Kd.V_mono HO_7.out (fun _ hk => ⟨hk.1, ⟨hk.2.2.1, ⟨hk.2.2.2.1, hk.2.2.2.2⟩⟩⟩)⟩, ⟨by (with_reducible repeat (first | apply Kd.N_alloc | apply Kd.N_drewN | apply Kd.N_drew)); exact Kd.N_mono HO_1040000.out (fun _ hk => ⟨hk.1, ⟨hk.2.2.1, hk.2.2.2⟩⟩)⟩, ⟨by (with_reducible repeat (first | apply Kd.R_alloc | apply Kd.R_drewN | apply Kd.R_drew)); exact Kd.R_mono HO_1040001.out (fun _ hk => hk.1)⟩, ⟨by (with_reducible repeat (first | refine blk_drewN ?_ _ | refine blk_drew ?_ | refine blk_alloc ?_ _)); exact BK1039.out⟩, ⟨by repeat (first | (with_reducible first | exact HB.out | apply below_alloc | apply pw_below_drewN | apply below_drew1 | refine below_set ?_ GE1039.out) | exact HB.out)⟩⟩
                              · rw [if_neg c48] at H
                                have c48b0 : ((rd t1053 0) == x12_2) = false := beq_eq_false_iff_ne.mpr c48
                                have c48b1 : ((rd t1053 0) != x12_2) = true := bne_iff_ne.mpr c48
                                have H' := Aside0.mk H
                                clear H
                                obtain ⟨Ao50, co50, eo50⟩ := Kd.R_slice HO_10.out
                                subst eo50
                                have p1059 : 0 ≤ (0 : Int) := (by omega)
                                have q1059 : 0 < (t1053.length : Int) := of_decide_eq_true (by first | (with_reducible assumption) | assumption)
                                obtain ⟨ad1059, e1059, hx1059_0⟩ := Kd.at_int (Kd.R_reads' HO_10.out).2.2 0 p1059 q1059
                                cases e1059
                                have qi1059 : (0 < t1053.length) = True := eq_true (by omega)
                                (try rw [show ((0 : Int)).toNat = 0 from rfl] at hx1059_0)
                                (try rw [Addr.add_zero'] at hx1059_0)
                                replace p1059 := eq_true p1059
                                replace q1059 := eq_true q1059
                                go_wp2
                                go_meet
                                case rel => exact ⟨_, (true), (by first | rfl | (simp; done) | (simp [*]; done)), H', ⟨by have := HK1.out; have := HK2.out; have := HJ26.out; first | omega | exact Nat.le_refl _⟩, ⟨by (with_reducible repeat (first | apply Kd.V_alloc | apply Kd.V_drewN | apply Kd.V_drew)); exact Kd.V_mono HO_7.out (fun _ hk => ⟨hk.1, ⟨hk.2.2.1, ⟨hk.2.2.2.1, hk.2.2.2.2⟩⟩⟩)⟩, ⟨by (with_reducible repeat (first | apply Kd.N_alloc | apply Kd.N_drewN | apply Kd.N_drew)); exact Kd.N_mono HO_1040000.out (fun _ hk => ⟨hk.1, ⟨hk.2.2.1, hk.2.2.2⟩⟩)⟩, ⟨by (with_reducible repeat (first | apply Kd.R_alloc | apply Kd.R_drewN | apply Kd.R_drew)); exact Kd.R_mono HO_1040001.out (fun _ hk => hk.1)⟩, ⟨by (with_reducible repeat (first | refine blk_drewN ?_ _ | refine blk_drew ?_ | refine blk_alloc ?_ _)); exact BK1039.out⟩, ⟨by repeat (first | (with_reducible first | exact HB.out | apply below_alloc | apply pw_below_drewN | apply below_drew1 | refine below_set ?_ GE1039.out) | exact HB.out)⟩⟩
                            · rw [if_neg c47] at H
                              exact absurd H (by simp)
                          · rw [if_neg c46] at H
                            have c46b0 : ((t1053.length : Int) == 1) = false := beq_eq_false_iff_ne.mpr c46
                            have c46b1 : ((t1053.length : Int) != 1) = true := bne_iff_ne.mpr c46
                            have H' := Aside0.mk H
                            clear H
                            obtain ⟨Ao51, co51, eo51⟩ := Kd.R_slice HO_10.out
                            subst eo51
                            go_wp2
                            go_meet
                            case rel => exact ⟨_, (true), (by first | rfl | (simp; done) | (simp [*]; done)), H', ⟨by have := HK1.out; have := HK2.out; have := HJ26.out; first | omega | exact Nat.le_refl _⟩, ⟨by (with_reducible repeat (first | apply Kd.V_alloc | apply Kd.V_drewN | apply Kd.V_drew)); exact Kd.V_mono HO_7.out (fun _ hk => ⟨hk.1, ⟨hk.2.2.1, ⟨hk.2.2.2.1, hk.2.2.2.2⟩⟩⟩)⟩, ⟨by (with_reducible repeat (first | apply Kd.N_alloc | apply Kd.N_drewN | apply Kd.N_drew)); exact Kd.N_mono HO_1040000.out (fun _ hk => ⟨hk.1, ⟨hk.2.2.1, hk.2.2.2⟩⟩)⟩, ⟨by (with_reducible repeat (first | apply Kd.R_alloc | apply Kd.R_drewN | apply Kd.R_drew)); exact Kd.R_mono HO_1040001.out (fun _ hk => hk.1)⟩, ⟨by (with_reducible repeat (first | refine blk_drewN ?_ _ | refine blk_drew ?_ | refine blk_alloc ?_ _)); exact BK1039.out⟩, ⟨by repeat (first | (with_reducible first | exact HB.out | apply below_alloc | apply pw_below_drewN | apply below_drew1 | refine below_set ?_ GE1039.out) | exact HB.out)⟩⟩
                        · rw [if_neg c45] at H
                          have c45b0 : (t1056 == 0) = false := beq_eq_false_iff_ne.mpr c45
                          have c45b1 : (t1056 != 0) = true := bne_iff_ne.mpr c45
                          (first | rw [c45b0] | (simp only [i64_w, i32_w]; rw [c45b0]) | skip)
                          have H' := Aside0.mk H
                          clear H
                          go_wp2
                          go_meet
                          case rel => exact ⟨_, (true), (by first | rfl | (simp; done) | (simp [*]; done)), H', ⟨by have := HK1.out; have := HK2.out; have := HJ26.out; first | omega | exact Nat.le_refl _⟩, ⟨by (with_reducible repeat (first | apply Kd.V_alloc | apply Kd.V_drewN | apply Kd.V_drew)); exact Kd.V_mono HO_7.out (fun _ hk => ⟨hk.1, ⟨hk.2.2.1, ⟨hk.2.2.2.1, hk.2.2.2.2⟩⟩⟩)⟩, ⟨by (with_reducible repeat (first | apply Kd.N_alloc | apply Kd.N_drewN | apply Kd.N_drew)); exact Kd.N_mono HO_1040000.out (fun _ hk => ⟨hk.1, ⟨hk.2.2.1, hk.2.2.2⟩⟩)⟩, ⟨by (with_reducible repeat (first | apply Kd.R_alloc | apply Kd.R_drewN | apply Kd.R_drew)); exact Kd.R_mono HO_1040001.out (fun _ hk => hk.1)⟩, ⟨by (with_reducible repeat (first | refine blk_drewN ?_ _ | refine blk_drew ?_ | refine blk_alloc ?_ _)); exact BK1039.out⟩, ⟨by repeat (first | (with_reducible first | exact HB.out | apply below_alloc | apply pw_below_drewN | apply below_drew1 | refine below_set ?_ GE1039.out) | exact HB.out)⟩⟩
                      case rest =>
                        clear HC44
                        try clear c1
                        try clear p1
                        try clear q1
                        try clear hx1
                        try clear qi1
                        try clear c2
                        try clear p2
                        try clear c3
                        try clear c4
                        try clear c6
                        try clear c6b0
                        try clear c6b1
                        try clear p6
                        try clear c10
                        try clear p10
                        try clear q10
                        try clear hx10
                        try clear qi10
                        try clear c14
                        try clear c19
                        try clear c19b0
                        try clear c26
                        try clear c27
                        try clear c28
                        try clear c28b0
                        try clear c31
                        try clear c32
                        try clear c32b0
                        try clear c33
                        try clear c33b0
                        try clear c35
                        try clear c40
                        try clear c40b0
                        try clear c41
                        try clear c42
                        try clear c42b0
                        try clear c42b1
                        try clear c43
                        try clear c45
                        try clear c45b0
                        try clear c45b1
                        try clear c46
                        try clear c46b0
                        try clear c46b1
                        try clear c47
                        try clear c47b0
                        try clear c47b1
                        try clear c48
                        try clear c48b0
                        try clear c48b1
                        try clear hcz11_0
                        try clear hcz11_1
                        try clear hcz21_0
                        try clear hcz21_1
                        try clear hcz29_0
                        try clear hcz29_1
                        try clear hcz30_0
                        try clear hcz30_1
                        try clear hcz36_0
                        try clear hcz36_1
                        try clear hcz38_0
                        try clear hcz38_1
                        try clear hfz11_0
                        try clear hfz11_1
                        try clear hfz21_0
                        try clear hfz21_1
                        try clear hfz29_0
                        try clear hfz29_1
                        try clear hfz30_0
                        try clear hfz30_1
                        try clear hfz36_0
                        try clear hfz36_1
                        try clear hfz38_0
                        try clear hfz38_1
                        try clear hx1049_0
                        try clear hx1057_0
                        try clear hx1059_0
                        try clear p1
                        try clear p10
                        try clear p1049
                        try clear p1057
                        try clear p1059
                        try clear p2
                        try clear q1
                        try clear q10
                        try clear q1049
                        try clear q1057
                        try clear q1059
                        obtain ⟨kq, x85_43, rfl, HA, HJ43, HO_7, HO_1040000, HO_1040001, BK1039, HB⟩ := hcut
                        cases kq with
                        | zero => exact absurd HA.out (by simp [arboristlaw13_PlaceFirst.j3])
                        | succ kj43 =>
                          have H := HA.out
                          clear HA
                          simp only [arboristlaw13_PlaceFirst.j3] at H
                          by_cases c52 : x85_43 = true
                          · subst c52
                            have H1 : (some false) = some r := by rw [if_pos rfl] at H; exact H
                            clear H
                            have H := H1
                            clear H1
                            exact absurd ((Option.some.inj H).trans HTr_.out) (by decide)
                          · replace c52 := Bool.eq_false_iff.mpr c52
                            subst c52
                            have H1 : (if ((rd_L1 t1043 0).length : Int) = 0 then (some t1032) else (if 0 ≤ x12_2 then (if x12_2 < (x1040000_1.length : Int) then (arboristlaw13_PlaceFirst.l0 kj43 t1032 (rd_L1 t1043 0) x12_2 (wrap64 (x9_1 + 1)) (x1040000_1.set (x12_2 : Int).toNat (([] : List Int))) t1036) else (none)) else (none))) = some r := by rw [if_neg (show ¬ (false = true) by decide)] at H; exact H
                            clear H
                            have H := H1
                            clear H1
                            by_cases c53 : ((rd_L1 t1043 0).length : Int) = 0
                            · rw [if_pos c53] at H
                              have c53b0 : (((rd_L1 t1043 0).length : Int) == 0) = true := beq_iff_eq.mpr c53
                              have c53b1 : (((rd_L1 t1043 0).length : Int) != 0) = false := bne_eq_false_iff_eq.mpr c53
                              clear c53
                              obtain rfl := Option.some.inj H
                              go_wp2
                              go_ret
                              exact ⟨by first | rfl | (simp [errW_none, errW_some] <;> rfl) | (simp [*, errW_none, errW_some] <;> rfl), by repeat (first | (with_reducible first | exact HB.out | apply below_alloc | apply pw_below_drewN | apply below_drew1 | refine below_set ?_ GE1039.out) | exact HB.out)⟩
                            · rw [if_neg c53] at H
                              have c53b0 : (((rd_L1 t1043 0).length : Int) == 0) = false := beq_eq_false_iff_ne.mpr c53
                              have c53b1 : (((rd_L1 t1043 0).length : Int) != 0) = true := bne_iff_ne.mpr c53
                              have c53b2 : ¬ ((rd_L1 t1043 0) = []) := fun h_ => c53 (by rw [h_]; rfl)
                              obtain ⟨y1060, hy1060⟩ : ∃ y_ : List Int, y_ = (([] : List Int)) := ⟨_, rfl⟩
                              replace H : (if 0 ≤ x12_2 then (if x12_2 < (x1040000_1.length : Int) then (arboristlaw13_PlaceFirst.l0 kj43 t1032 (rd_L1 t1043 0) x12_2 (wrap64 (x9_1 + 1)) (x1040000_1.set (x12_2 : Int).toNat y1060) t1036) else (none)) else (none)) = some r := by first | (rw [hy1060]; with_reducible exact H) | (have H2_ := (Option.bind_some _ _).symm.trans H; rw [hy1060]; with_reducible exact H2_) | (have H2_ := (Option.bind_some _ _).symm.trans H; with_reducible exact H2_) | with_reducible exact H | (rw [hy1060]; exact H) | exact H
                              have Ny1060 := Aside0.mk hy1060
                              clear hy1060
                              by_cases c54 : 0 ≤ x12_2
                              · rw [if_pos c54] at H
                                have c54b0 : decide (0 ≤ x12_2) = true := decide_eq_true c54
                                clear c54
                                by_cases c55 : x12_2 < (x1040000_1.length : Int)
                                · rw [if_pos c55] at H
                                  have c55b0 : decide (x12_2 < (x1040000_1.length : Int)) = true := decide_eq_true c55
                                  clear c55
                                  obtain ⟨y1063, hy1063⟩ : ∃ y_ : List (List Int), y_ = (x1040000_1.set (x12_2 : Int).toNat y1060) := ⟨_, rfl⟩
                                  replace H : (arboristlaw13_PlaceFirst.l0 kj43 t1032 (rd_L1 t1043 0) x12_2 (wrap64 (x9_1 + 1)) y1063 t1036) = some r := by first | (rw [hy1063]; with_reducible exact H) | (have H2_ := (Option.bind_some _ _).symm.trans H; rw [hy1063]; with_reducible exact H2_) | (have H2_ := (Option.bind_some _ _).symm.trans H; with_reducible exact H2_) | with_reducible exact H | (rw [hy1063]; exact H) | exact H
                                  have Ny1063 := Aside0.mk hy1063
                                  clear hy1063
                                  have H' := Aside0.mk H
                                  clear H
                                  have hcz57_0 : wc.cell? ⟨gb1039, 0, none⟩ = some (.slice Ao24 x1040000_1.length co24) := (blk_cell BK1039.out 0).trans rfl
                                  have hcz57_1 : wc.cell? ⟨gb1039, 1, none⟩ = some (.slice Ao12 t1036.length co12) := (blk_cell BK1039.out 1).trans rfl
                                  have hfz57_0 := blk_frozen BK1039.out 0
                                  have hfz57_1 := blk_frozen BK1039.out 1
                                  go_wp2_with (first | ((with_reducible refine gate_dst (N := 94) rfl ?_); (try (refine gate_guard (by rfl) ?_; dsimp only)); refine Kd.R_lit (Kd.int .i64) _ 3 ?hg (N := 94) ?hd (xs := ([] : List Int)) (inner := []) (ok := fun _ => True) (okp := fun _ => True) ?hr ?hp (fun _ hk => hk) trivial (Below.refl _ _) (Nat.le_refl _) (by simp) ?_; (case hd => rfl); (case hg => rfl); (case hr => first | (go_simp; done) | (go_simp; rfl)); (case hp => exact (Reps.none _ _)); intro v1061 w58 ho59 hb hg_ hnew_; clear hg_ hnew_; (first | rw [← Ny1060.out] at ho59 | (simp only [Int.reduceToNat] at ho59; rw [← Ny1060.out] at ho59)); have n0_ := Aside0.mk (Kd.V_elder' (by (with_reducible repeat (first | apply Kd.V_alloc | apply Kd.V_drewN | apply Kd.V_drew)); exact HO_7.out) (Kd.R_base ho59) hb); have n1_ := Aside0.mk (Kd.N_elder' (by (with_reducible repeat (first | apply Kd.N_alloc | apply Kd.N_drewN | apply Kd.N_drew)); exact HO_1040000.out) (Kd.R_base ho59) hb); have n2_ := Aside0.mk (Kd.R_elder' (by (with_reducible repeat (first | apply Kd.R_alloc | apply Kd.R_drewN | apply Kd.R_drew)); exact HO_1040001.out) (Kd.R_base ho59) hb); have n3_ := Aside0.mk (Kd.R_lower (Kd.R_new' (Kd.R_newM (M := fun k_ => (w.heap.size ≤ k_)) ho59 (below_size (by repeat (first | (with_reducible first | exact HB.out | apply below_alloc | apply pw_below_drewN | apply below_drew1 | refine below_set ?_ GE1039.out) | exact HB.out))) (fun k_ h_ => h_)) (Kd.R_lt (by (with_reducible repeat (first | apply Kd.R_alloc | apply Kd.R_drewN | apply Kd.R_drew)); exact HO_1040001.out))) (below_size (by repeat (first | (with_reducible first | exact HB.out | apply below_alloc | apply pw_below_drewN | apply below_drew1 | refine below_set ?_ GE1039.out) | exact HB.out)))); have n4_ := Aside0.mk (blk_below (g := gb1039) (o := .cells #[.slice Ao24 x1040000_1.length co24, .slice Ao12 t1036.length co12] 25 (0, 0)) (by (with_reducible repeat (first | refine blk_drewN ?_ _ | refine blk_drew ?_ | refine blk_alloc ?_ _)); exact BK1039.out) hb); have n5_ := Aside0.mk (below_step (by repeat (first | (with_reducible first | exact HB.out | apply below_alloc | apply pw_below_drewN | apply below_drew1 | refine below_set ?_ GE1039.out) | exact HB.out)) hb); clear HO_7; clear HO_1040000; clear HO_1040001; clear BK1039; clear HB; have HO_7 := n0_; have HO_1040000 := n1_; have HO_1040001 := n2_; have HO1062 := n3_; have BK1039 := n4_; have HB := n5_; clear n0_ n1_ n2_ n3_ n4_ n5_; clear hb ho59; obtain ⟨Ao61, co61, eo61⟩ := Kd.R_slice HO1062.out; subst eo61; have p56 : 0 ≤ (x12_2 : Int) := of_decide_eq_true (by first | (with_reducible assumption) | assumption); have q56 : (x12_2 : Int) < ((x1040000_1.length : Int) : Int) := of_decide_eq_true (by first | (with_reducible assumption) | assumption); obtain ⟨go56, co56, eo56, gb56, gl56, cl56, HG56⟩ := Kd.N_form HO_1040000.out (by omega); (first | cases eo56 | (injection eo56 with ea_ en_ ec_; (first | subst ea_ | (injection ea_ with ea_; subst ea_)); subst ec_; clear en_)); have GB56 := Aside0.mk gb56; have GG56 := Aside0.mk HG56; clear gb56 gl56 HG56; obtain ⟨ce56, hcl56, hM56, hcc56, hfr56⟩ := Kd.N_elem HO_1040000.out [] (x12_2 : Int) p56 q56; obtain ⟨ua56_0, uc56_0, rfl, ul56_0, ge56_0⟩ := Kd.FK_slice_open hM56; have hx56_0 := hcc56 0 _ rfl; have hf56_0 := hfr56 0; (try simp only [show ((Kd.slice 3 (Kd.int .i64))).sz = 1 from rfl, Nat.mul_one, Nat.add_zero] at hx56_0); (try simp only [show ((Kd.slice 3 (Kd.int .i64))).sz = 1 from rfl, Nat.mul_one, Nat.add_zero] at hf56_0); clear hcl56 hcc56 hfr56 hM56; replace p56 := eq_true p56; replace q56 := eq_true q56; have n_ := Aside0.mk (Kd.N_mono (ok' := (fun k_ => (P1_ k_ ∨ w.heap.size ≤ k_) ∧ some k_ ≠ (.slice Ao12 t1036.length co12 : Value).ownBlock ∧ some k_ ≠ ((.slice Ao61 y1060.length co61) : Value).ownBlock ∧ k_ ≠ gb1039)) HO_1040000.out (fun k_ hk => ⟨hk.1.1, ⟨hk.1.2.1, ⟨hk.2, hk.1.2.2⟩⟩⟩)); clear HO_1040000; have HO_1040000 := n_; clear n_; have HX60 := Aside0.mk (show Kd.N (Kd.slice 3 (Kd.int .i64)) 23 w58 w.heap.size (fun k_ => (P1_ k_ ∨ w.heap.size ≤ k_) ∧ some k_ ≠ (.slice Ao12 t1036.length co12 : Value).ownBlock ∧ k_ ≠ gb1039) (.slice (some ⟨go56, 0, none⟩) x1040000_1.length co24) x1040000_1 from (by (with_reducible repeat (first | apply Kd.N_alloc | apply Kd.N_drewN | apply Kd.N_drew)); exact Kd.N_mono HO_1040000.out (fun _ hk => ⟨hk.1, ⟨hk.2.1, hk.2.2.2⟩⟩))); obtain ⟨ce60, hcl60, hM60, hcc60, hfr60⟩ := Kd.N_elem HX60.out [] (x12_2 : Int) (of_decide_eq_true (by first | (with_reducible assumption) | assumption)) (by have h_ : (x12_2 : Int) < ((x1040000_1.length : Int) : Int) := of_decide_eq_true (by first | (with_reducible assumption) | assumption); first | exact h_ | (have e_ := (Kd.N_reads' HO_1040000.out).1; omega) | simpa using h_); obtain ⟨ua60_0, uc60_0, rfl, ul60_0, ge60_0⟩ := Kd.FK_slice_open hM60; have HP60 := Kd.N_seg HX60.out (x12_2 : Int) (of_decide_eq_true (by first | (with_reducible assumption) | assumption)) (by have h_ : (x12_2 : Int) < ((x1040000_1.length : Int) : Int) := of_decide_eq_true (by first | (with_reducible assumption) | assumption); first | exact h_ | (have e_ := (Kd.N_reads' HO_1040000.out).1; omega) | simpa using h_) (seg := [(.slice Ao61 y1060.length co61)]) (j := 0) hcl60 hcc60 (show 1 ≤ 1 from by decide) (x' := y1060) (Kd.FK_slice_mk (Kd.R_reads' (Kd.R_mono (ok' := (fun k_ => ((fun k_ => (P1_ k_ ∨ w.heap.size ≤ k_) ∧ some k_ ≠ (.slice Ao12 t1036.length co12 : Value).ownBlock ∧ k_ ≠ gb1039)) k_ ∧ k_ ≠ go56)) (Kd.R_types (Kd.R_apart' (HO1062.out) (Kd.N_typed HO_1040000.out) (by decide)) BK1039.out (by decide)) (fun k_ hk => ⟨⟨(.inr (hk.1.1.1.1)), ⟨hk.1.1.2, hk.2⟩⟩, fun e_ => (hk.1.2) (by rw [e_]; rfl)⟩))).2.1 (Kd.R_F (Kd.R_mono (ok' := (fun k_ => ((fun k_ => (P1_ k_ ∨ w.heap.size ≤ k_) ∧ some k_ ≠ (.slice Ao12 t1036.length co12 : Value).ownBlock ∧ k_ ≠ gb1039)) k_ ∧ k_ ≠ go56)) (Kd.R_types (Kd.R_apart' (HO1062.out) (Kd.N_typed HO_1040000.out) (by decide)) BK1039.out (by decide)) (fun k_ hk => ⟨⟨(.inr (hk.1.1.1.1)), ⟨hk.1.1.2, hk.2⟩⟩, fun e_ => (hk.1.2) (by rw [e_]; rfl)⟩)))) (fun _ hk => hk); have hx60_0 := hcc60 0 _ rfl; (try simp only [show ((Kd.slice 3 (Kd.int .i64))).sz = 1 from rfl, Nat.mul_one, Nat.add_zero] at hx60_0); have hf60_0 := hfr60 0; (try simp only [show ((Kd.slice 3 (Kd.int .i64))).sz = 1 from rfl, Nat.mul_one, Nat.add_zero] at hf60_0); clear hcl60 hcc60 hfr60 hM60; (try simp only [show ((Kd.slice 3 (Kd.int .i64))).sz = 1 from rfl, Nat.mul_one, Nat.add_zero] at HP60); (try simp only [show ((Kd.slice 3 (Kd.int .i64))).sz = 1 from rfl, Nat.mul_one, Nat.add_zero] at HP60)) | ((with_reducible refine gate_store (t := 23) (p := 95) rfl ?_); refine store_event (t := 23) (p := 95) (v := ?vo_w61) (w1 := (w58.setCell ⟨go56, (x12_2 : Int).toNat, none⟩ ((.slice Ao61 y1060.length co61)))) ?hg ?ho ?hn ?hr ?_; (case ho => rfl); (case hg => rfl); (case hn => rfl); (case hr => first | (go_simp; done) | (go_simp; rfl)); intro w61 hw; have hg : w58.grownBy w61 (some go56) := (by rw [hw]; exact HP60.2); have hp_ : Kd.N (Kd.slice 3 (Kd.int .i64)) 23 w61 w.heap.size (fun k_ => (P1_ k_ ∨ w.heap.size ≤ k_) ∧ some k_ ≠ (.slice Ao12 t1036.length co12 : Value).ownBlock ∧ k_ ≠ gb1039) (.slice (some ⟨go56, 0, none⟩) x1040000_1.length co24) y1063 := (by rw [hw, Ny1063.out]; exact HP60.1); clear HP60; have n0_ := Aside0.mk (Kd.V_afterv (v := (.slice (some ⟨go56, 0, none⟩) x1040000_1.length co24)) (v1 := (.slice (some ⟨go56, 0, none⟩) x1040000_1.length co24)) (ok := (fun k_ => (P1_ k_ ∨ w.heap.size ≤ k_) ∧ some k_ ≠ (.slice Ao12 t1036.length co12 : Value).ownBlock ∧ some k_ ≠ ((.slice Ao61 y1060.length co61) : Value).ownBlock ∧ k_ ≠ gb1039)) (by (with_reducible repeat (first | apply Kd.V_alloc | apply Kd.V_drewN | apply Kd.V_drew)); exact Kd.V_mono HO_7.out (fun _ hk => ⟨⟨hk.1.1, ⟨hk.1.2.2.1, ⟨hk.2, hk.1.2.2.2⟩⟩⟩, hk.1.2.1⟩)) hg (.inl rfl)); have n1_ := Aside0.mk (hp_); have n2_ := Aside0.mk (Kd.R_over' (v := (.slice (some ⟨go56, 0, none⟩) x1040000_1.length co24)) (by (with_reducible repeat (first | apply Kd.R_alloc | apply Kd.R_drewN | apply Kd.R_drew)); exact HO_1040001.out) (Kd.N_typed HO_1040000.out) (by decide) hg); have n3_ := Aside0.mk (blk_grown (g := gb1039) (o := .cells #[.slice (some ⟨go56, 0, none⟩) x1040000_1.length co24, .slice Ao12 t1036.length co12] 25 (0, 0)) (by (with_reducible repeat (first | refine blk_drewN ?_ _ | refine blk_drew ?_ | refine blk_alloc ?_ _)); exact BK1039.out) hg (Kd.N_ne HO_1040000.out BK1039.out (by decide))); have n4_ := Aside0.mk ((by rw [hw]; exact below_set (HB.out) GB56.out : Below w.heap.size w w61)); clear HO_7; clear HO_1040000; clear HO_1040001; clear BK1039; clear HB; clear HO1062; have HO_7 := n0_; have HO_1040000 := n1_; have HO_1040001 := n2_; have BK1039 := n3_; have HB := n4_; clear n0_ n1_ n2_ n3_ n4_; clear hg hw hp_))
                                  go_roundg kj43
                                  case measure => have := HK1.out; have := HK2.out; have := HJ26.out; have := HJ43.out; omega
                                  case rel => exact ⟨(x12_2), (wrap64 (x9_1 + 1)), (y1063), (.slice (some ⟨go56, 0, none⟩) x1040000_1.length co24), (by first | rfl | (simp; done) | (simp [*]; done)), (by first | rfl | (simp; done) | (simp [*]; done)), H', ⟨by have := HK1.out; have := HK2.out; have := HJ26.out; have := HJ43.out; omega⟩, ⟨by (with_reducible repeat (first | apply Kd.V_alloc | apply Kd.V_drewN | apply Kd.V_drew)); exact Kd.V_mono HO_7.out (fun _ hk => ⟨hk.1.1, ⟨hk.2, ⟨hk.1.2.1, hk.1.2.2.2⟩⟩⟩)⟩, ⟨by (with_reducible repeat (first | apply Kd.N_alloc | apply Kd.N_drewN | apply Kd.N_drew)); exact HO_1040000.out⟩, ⟨by (with_reducible repeat (first | apply Kd.R_alloc | apply Kd.R_drewN | apply Kd.R_drew)); exact Kd.R_mono HO_1040001.out (fun _ hk => hk.1)⟩, ⟨by (with_reducible repeat (first | refine blk_drewN ?_ _ | refine blk_drew ?_ | refine blk_alloc ?_ _)); exact BK1039.out⟩, ⟨by repeat (first | (with_reducible first | exact HB.out | apply below_alloc | apply pw_below_drewN | apply below_drew1 | refine below_set ?_ GE1039.out) | exact HB.out)⟩⟩
                                · rw [if_neg c55] at H
                                  exact absurd H (by simp)
                              · rw [if_neg c54] at H
                                exact absurd H (by simp)
        · rw [if_neg c19] at H
          have c19b0 : decide (x9_1 < 10) = false := decide_eq_false c19
          clear c19
          obtain rfl := Option.some.inj H
          go_wp2
          go_ret
          exact ⟨by first | rfl | (simp [errW_none, errW_some] <;> rfl) | (simp [*, errW_none, errW_some] <;> rfl), by repeat (first | (with_reducible first | exact HB.out | apply below_alloc | apply pw_below_drewN | apply below_drew1 | refine below_set ?_ GE1039.out) | exact HB.out)⟩
  · rw [if_neg c6] at H
    exact absurd H (by simp)

/-- THE ONE PURE STATEMENT of arboristlaw13_PlaceFirst. -/
def arboristlaw13_PlaceFirst.Pure : Prop := ∀ (l0 : List (List Int)) (l1 : List Int), (l0.length ≤ maxLen ∧ ∀ z0 ∈ l0, (z0.length ≤ maxLen ∧ ∀ z1 ∈ z0, (Lit.int .i64 z1).wf = true)) → (l1.length ≤ maxLen ∧ ∀ z0 ∈ l1, (Lit.int .i64 z0).wf = true) → ∃ k, arboristlaw13_PlaceFirst.f k l0 l1 = some true

end Go.Proofs.Ytpmfdggbccbfaaa.Pr
