-- Printed by a program of this session's own (wip/tools/pp.py) over the kit's print.py; Lean checks it.
import Derived.Test.YtpmfdggbccbfaaaPr0
import Derived.Test.YtpmfdggbccbfaaaPr36
namespace Go.Proofs.Ytpmfdggbccbfaaa.Pr
open Go.RowKit Go.Proofs.YtpmfdggbccbfaaaW.PrintWords Go.Proofs.YtpmfdggbccbfaaaW.PrintLast Go.Proofs.YtpmfdggbccbfaaaW.PrintMore
attribute [local go_sem] max2_int min2_int max_two min_two max_three min_three max_four min_four   -- for this text's walks alone
set_option linter.unusedVariables false
set_option linter.unusedSimpArgs false

/-! ### place_Scopes: function 39 -/
mutual
def place_Scopes.l0 : Nat → List (List Int) → List (S69) → Int → Int → List (List Int) → List (S69) → List (S73) → Option ((List (List Int)))
  | 0, _, _, _, _, _, _, _ => none
  | k + 1, x2, x8, x9, x10, x433000, x433001, x433002 => if x10 < x9 then (if 0 ≤ x10 then (if x10 < (x8.length : Int) then ((slices_Clone_int_int.f ((rd_T69 x8 x10).f1)).bind fun t435 => (if x2.length < 5864062014805 then (place_Scopes.l0 k (x2 ++ [t435]) x8 x9 (wrap64 (x10 + 1)) x433000 x433001 x433002) else (none))) else (none)) else (none)) else (place_Scopes.l1 k x2 x433002 (x433002.length : Int) 0)
def place_Scopes.l1 : Nat → List (List Int) → List (S73) → Int → Int → Option ((List (List Int)))
  | 0, _, _, _, _ => none
  | k + 1, x2, x22, x23, x24 => if x24 < x23 then (if 0 ≤ x24 then (if x24 < (x22.length : Int) then ((slices_Clone_int_int.f ((rd_T73 x22 x24).f0)).bind fun t443 => (if x2.length < 5864062014805 then (place_Scopes.l1 k (x2 ++ [t443]) x22 x23 (wrap64 (x24 + 1))) else (none))) else (none)) else (none)) else (some x2)
end
def place_Scopes.f (k : Nat) (l0_0 : List (List Int)) (l0_1 : List (S69)) (l0_2 : List (S73)) : Option ((List (List Int))) := place_Scopes.l0 k ([] : List (List Int)) l0_1 (l0_1.length : Int) 0 l0_0 l0_1 l0_2
theorem place_Scopes.mono_l : ∀ k, (∀ y0 y1 y2 y3 y4 y5 y6, LeO (place_Scopes.l0 k y0 y1 y2 y3 y4 y5 y6) (place_Scopes.l0 (k + 1) y0 y1 y2 y3 y4 y5 y6)) ∧ (∀ y0 y1 y2 y3, LeO (place_Scopes.l1 k y0 y1 y2 y3) (place_Scopes.l1 (k + 1) y0 y1 y2 y3))
  | 0 => ⟨fun _ _ _ _ _ _ _ r h => by simp [place_Scopes.l0] at h, fun _ _ _ _ r h => by simp [place_Scopes.l1] at h⟩
  | k + 1 => by
    obtain ⟨ih0, ih1⟩ := place_Scopes.mono_l k
    refine ⟨?_, ?_⟩
    all_goals intros
    all_goals (first | unfold place_Scopes.l0 | unfold place_Scopes.l1)
    all_goals repeat' first
    | (with_reducible exact ih0 _ _ _ _ _ _ _)
    | (with_reducible exact ih1 _ _ _ _)
    | (with_reducible exact LeO.refl _)
    | (with_reducible exact LeO.none _)
    | (with_reducible refine LeO.ite ?_ ?_)
    | (with_reducible refine LeO.bind ?_ (fun _ => ?_))
    | exact ih0 _ _ _ _ _ _ _
    | exact ih1 _ _ _ _
    | exact LeO.none _
    | refine LeO.ite ?_ ?_
    | refine LeO.bind ?_ (fun _ => ?_)
theorem place_Scopes.mono : ∀ a0 a1 a2 k, LeO (place_Scopes.f k a0 a1 a2) (place_Scopes.f (k + 1) a0 a1 a2) := by
  intro a0 a1 a2 k
  obtain ⟨ih0, ih1⟩ := place_Scopes.mono_l k
  unfold place_Scopes.f
  repeat' first
      | (with_reducible exact ih0 _ _ _ _ _ _ _)
      | (with_reducible exact ih1 _ _ _ _)
      | (with_reducible exact LeO.refl _)
      | (with_reducible exact LeO.none _)
      | (with_reducible refine LeO.ite ?_ ?_)
      | (with_reducible refine LeO.bind ?_ (fun _ => ?_))
      | exact ih0 _ _ _ _ _ _ _
      | exact ih1 _ _ _ _
      | exact LeO.none _
      | refine LeO.ite ?_ ?_
      | refine LeO.bind ?_ (fun _ => ?_)
set_option maxHeartbeats 8000000 in
set_option maxRecDepth 100000 in
theorem place_Scopes.calls (k : Nat) (A0_0 : Option Addr) (c0_0 : Nat) (l0_0 : List (List Int)) (A0_1 : Option Addr) (c0_1 : Nat) (l0_1 : List (S69)) (A0_2 : Option Addr) (c0_2 : Nat) (l0_2 : List (S73)) (r : List (List Int)) (w : World) (hr0_0 : Kd.C (Kd.slice 3 (Kd.int .i64)) w A0_0 l0_0.length l0_0) (hc0_0 : l0_0.length ≤ c0_0) (hr0_1 : Kd.C k69 w A0_1 l0_1.length l0_1) (hc0_1 : l0_1.length ≤ c0_1) (hr0_2 : Kd.C k73 w A0_2 l0_2.length l0_2) (hc0_2 : l0_2.length ≤ c0_2) (h : place_Scopes.f k l0_0 l0_1 l0_2 = some r) :
    Calls Try.prog 39 #[.agg #[.slice A0_0 l0_0.length c0_0, .slice A0_1 l0_1.length c0_1, .slice A0_2 l0_2.length c0_2]] w fun e w' => ∃ v0_ : Value, e = .returned (v0_) ∧ Kd.S (Kd.slice 3 (Kd.int .i64)) 23 w' w.heap.size (fun _ => True) v0_ r ∧ Below w.heap.size w w' := by
  have hu49 := Try.underlying49
  have hu69 := Try.underlying69
  have hu73 := Try.underlying73
  have HR0_0 := Aside0.mk hr0_0
  have HC0_0 := Aside0.mk hc0_0
  clear hr0_0 hc0_0
  have HR0_1 := Aside0.mk hr0_1
  have HC0_1 := Aside0.mk hc0_1
  clear hr0_1 hc0_1
  have HR0_2 := Aside0.mk hr0_2
  have HC0_2 := Aside0.mk hc0_2
  clear hr0_2 hc0_2
  have HB := Aside0.mk (Below.refl w.heap.size w)
  have H : (place_Scopes.l0 k ([] : List (List Int)) l0_1 (l0_1.length : Int) 0 l0_0 l0_1 l0_2) = some r := h
  clear h
  have H' := Aside0.mk H
  clear H
  go_enter Try.func39, Try.ntmps39
  go_wp2_with (first | ((with_reducible refine gate_dst (N := 1) rfl ?_); refine box_event ?hg (N := 1) ?hd (cs := #[.slice A0_0 l0_0.length c0_0, .slice A0_1 l0_1.length c0_1, .slice A0_2 l0_2.length c0_2]) (t := 49) ?hr ?_; (case hd => rfl); (case hg => rfl); (case hr => first | (go_simp; done) | (go_simp; rfl)); intro gb432 hg w2 hbox hb; have n0_ := Aside0.mk (below_step (by repeat (first | (with_reducible first | exact HB.out | apply below_alloc | apply pw_below_drewN | apply below_drew1) | exact HB.out)) hb); have n1_ := Aside0.mk (hbox); have n2_ := Aside0.mk ((by rw [hg]; exact (below_size (by repeat (first | (with_reducible first | exact HB.out | apply below_alloc | apply pw_below_drewN | apply below_drew1) | exact HB.out))) : w.heap.size ≤ gb432)); have n3_ := Aside0.mk ((by rw [hg]; exact (below_size (by repeat (first | (with_reducible first | exact HB.out | apply below_alloc | apply pw_below_drewN | apply below_drew1) | exact HB.out))) : w.heap.size ≤ gb432)); clear HB; have HB := n0_; have BK432 := n1_; have GW432 := n2_; have GE432 := n3_; clear n0_ n1_ n2_ n3_; clear hb hbox hg; have hcz3_0 : w2.cell? ⟨gb432, 0, none⟩ = some (.slice A0_0 l0_0.length c0_0) := (blk_cell BK432.out 0).trans rfl; have hcz3_1 : w2.cell? ⟨gb432, 1, none⟩ = some (.slice A0_1 l0_1.length c0_1) := (blk_cell BK432.out 1).trans rfl; have hcz3_2 : w2.cell? ⟨gb432, 2, none⟩ = some (.slice A0_2 l0_2.length c0_2) := (blk_cell BK432.out 2).trans rfl; have hfz3_0 := blk_frozen BK432.out 0; have hfz3_1 := blk_frozen BK432.out 1; have hfz3_2 := blk_frozen BK432.out 2))
  go_loopg [2, 10] k (fun kq v2 v10 w' => ∃ (x2_1 : List (List Int)) (x10_1 : Int), v10 = .int .i64 x10_1 ∧ Aside0 (place_Scopes.l0 kq x2_1 l0_1 (l0_1.length : Int) x10_1 l0_0 l0_1 l0_2 = some r) ∧ Aside0 (kq ≤ k) ∧ Aside0 (Kd.S (Kd.slice 3 (Kd.int .i64)) 23 w' w.heap.size (fun _ => True) v2 x2_1) ∧ Aside0 (w'.heap[gb432]? = some (.cells #[(.slice A0_0 l0_0.length c0_0), (.slice A0_1 l0_1.length c0_1), (.slice A0_2 l0_2.length c0_2)] 49 (0, 0))) ∧ Aside0 (Below w.heap.size w w'))
  case atStart => exact ⟨(([] : List (List Int))), (0), (by first | rfl | (simp; done) | (simp [*]; done)), H', ⟨Nat.le_refl _⟩, ⟨by first | exact Kd.S_nil _ _ _ _ _ | exact Kd.N_nil _ _ _ _ _ | exact Kd.V_nil _ _ _ _ _ | exact Kd.Q_nil _ _ _ _ _ | exact Kd.R_nil _ _ _ _ _⟩, ⟨by (with_reducible repeat (first | refine blk_drewN ?_ _ | refine blk_drew ?_ | refine blk_alloc ?_ _)); exact BK432.out⟩, ⟨by repeat (first | (with_reducible first | exact HB.out | apply below_alloc | apply pw_below_drewN | apply below_drew1 | refine below_set ?_ GE432.out) | exact HB.out)⟩⟩
  case round =>
    clear H'
    try clear p2
    try clear c3
    try clear hcz3_0
    try clear hcz3_1
    try clear hcz3_2
    try clear hfz3_0
    try clear hfz3_1
    try clear hfz3_2
    obtain ⟨x2_1, x10_1, rfl, HA, HK1, HO_2, BK432, HB⟩ := hrel
    cases gk with
    | zero => exact absurd HA.out (by simp [place_Scopes.l0])
    | succ k1 =>
      have H := HA.out
      clear HA
      simp only [place_Scopes.l0] at H
      by_cases c4 : x10_1 < (l0_1.length : Int)
      · rw [if_pos c4] at H
        have c4b0 : decide (x10_1 < (l0_1.length : Int)) = true := decide_eq_true c4
        clear c4
        by_cases c5 : 0 ≤ x10_1
        · rw [if_pos c5] at H
          have c5b0 : decide (0 ≤ x10_1) = true := decide_eq_true c5
          clear c5
          by_cases c6 : x10_1 < (l0_1.length : Int)
          · rw [if_pos c6] at H
            have c6b0 : decide (x10_1 < (l0_1.length : Int)) = true := decide_eq_true c6
            clear c6
            replace H := Option.bind_eq_some_iff.mp H
            obtain ⟨t435, A70, H⟩ := H
            replace H : (if x2_1.length < 5864062014805 then (place_Scopes.l0 k1 (x2_1 ++ [t435]) l0_1 (l0_1.length : Int) (wrap64 (x10_1 + 1)) l0_0 l0_1 l0_2) else (none)) = some r := H
            have A7 := Aside0.mk A70
            clear A70
            by_cases c8 : x2_1.length < 5864062014805
            · rw [if_pos c8] at H
              have LMc8 := Aside0.mk c8
              clear c8
              obtain ⟨y438, hy438⟩ : ∃ y_ : List (List Int), y_ = (x2_1 ++ [t435]) := ⟨_, rfl⟩
              replace H : (place_Scopes.l0 k1 y438 l0_1 (l0_1.length : Int) (wrap64 (x10_1 + 1)) l0_0 l0_1 l0_2) = some r := by first | (rw [hy438]; with_reducible exact H) | (have H2_ := (Option.bind_some _ _).symm.trans H; rw [hy438]; with_reducible exact H2_) | (have H2_ := (Option.bind_some _ _).symm.trans H; with_reducible exact H2_) | with_reducible exact H | (rw [hy438]; exact H) | exact H
              have Ny438 := Aside0.mk hy438
              clear hy438
              have H' := Aside0.mk H
              clear H
              have p433 : 0 ≤ (x10_1 : Int) := of_decide_eq_true (by first | (with_reducible assumption) | assumption)
              have q433 : x10_1 < (l0_1.length : Int) := of_decide_eq_true (by first | (with_reducible assumption) | assumption)
              obtain ⟨ad433, A433_1, c433_1, A433_2, c433_2, A433_3, c433_3, e433, hx433_0, hx433_1, hx433_2, hx433_3, hl433_1, hi433_1, hl433_2, hi433_2, hl433_3, hi433_3⟩ := at_T69 HR0_1.out x10_1 p433 q433
              cases e433
              replace hx433_0 := (HB.out.cell (World.block_lt_of_cell? w _ hx433_0)).trans hx433_0
              replace hx433_1 := (HB.out.cell (World.block_lt_of_cell? w _ hx433_1)).trans hx433_1
              replace hx433_2 := (HB.out.cell (World.block_lt_of_cell? w _ hx433_2)).trans hx433_2
              replace hx433_3 := (HB.out.cell (World.block_lt_of_cell? w _ hx433_3)).trans hx433_3
              have HR433_1 := Aside0.mk hi433_1
              have HC433_1 := Aside0.mk hl433_1
              clear hi433_1 hl433_1
              have HR433_2 := Aside0.mk hi433_2
              have HC433_2 := Aside0.mk hl433_2
              clear hi433_2 hl433_2
              have HR433_3 := Aside0.mk hi433_3
              have HC433_3 := Aside0.mk hl433_3
              clear hi433_3 hl433_3
              replace p433 := eq_true p433
              replace q433 := eq_true q433
              go_wp2_with (first | ((with_reducible refine gate_dst (N := 4) rfl ?_); refine box_event ?hg (N := 4) ?hd (cs := #[.int .i64 0, .slice none 0 0, .slice none 0 0, .slice none 0 0]) (t := 69) ?hr ?_; (case hd => rfl); (case hg => rfl); (case hr => first | (go_simp; done) | (go_simp; rfl)); intro gb434 hg w9 hbox hb; have n0_ := Aside0.mk (Kd.S_below (by (with_reducible repeat (first | apply Kd.S_alloc | apply Kd.S_drewN | apply Kd.S_drew)); exact HO_2.out) hb); have n1_ := Aside0.mk (blk_below (g := gb432) (o := .cells #[.slice A0_0 l0_0.length c0_0, .slice (some ad433) l0_1.length c0_1, .slice A0_2 l0_2.length c0_2] 49 (0, 0)) (by (with_reducible repeat (first | refine blk_drewN ?_ _ | refine blk_drew ?_ | refine blk_alloc ?_ _)); exact BK432.out) hb); have n2_ := Aside0.mk (below_step (by repeat (first | (with_reducible first | exact HB.out | apply below_alloc | apply pw_below_drewN | apply below_drew1 | refine below_set ?_ GE432.out) | exact HB.out)) hb); have n3_ := Aside0.mk (hbox); have n4_ := Aside0.mk ((by rw [hg]; exact (below_size (by repeat (first | (with_reducible first | exact HB.out | apply below_alloc | apply pw_below_drewN | apply below_drew1 | refine below_set ?_ GE432.out) | exact HB.out))) : w.heap.size ≤ gb434)); have n5_ := Aside0.mk ((by rw [hg]; exact (below_size (by repeat (first | (with_reducible first | exact HB.out | apply below_alloc | apply pw_below_drewN | apply below_drew1 | refine below_set ?_ GE432.out) | exact HB.out))) : w.heap.size ≤ gb434)); have n6_ := Aside0.mk ((by rw [hg]; exact Nat.ne_of_lt (blk_lt (g := gb432) (o := .cells #[.slice A0_0 l0_0.length c0_0, .slice (some ad433) l0_1.length c0_1, .slice A0_2 l0_2.length c0_2] 49 (0, 0)) (by (with_reducible repeat (first | refine blk_drewN ?_ _ | refine blk_drew ?_ | refine blk_alloc ?_ _)); exact BK432.out)) : gb432 ≠ gb434)); have n7_ := Aside0.mk ((by rw [hg]; exact Nat.ne_of_gt (blk_lt (g := gb432) (o := .cells #[.slice A0_0 l0_0.length c0_0, .slice (some ad433) l0_1.length c0_1, .slice A0_2 l0_2.length c0_2] 49 (0, 0)) (by (with_reducible repeat (first | refine blk_drewN ?_ _ | refine blk_drew ?_ | refine blk_alloc ?_ _)); exact BK432.out)) : gb434 ≠ gb432)); clear HO_2; clear BK432; clear HB; have HO_2 := n0_; have BK432 := n1_; have HB := n2_; have BK434 := n3_; have GW434 := n4_; have GE434 := n5_; have NB432_434 := n6_; have NB434_432 := n7_; clear n0_ n1_ n2_ n3_ n4_ n5_ n6_ n7_; clear hb hbox hg; have hnb10 := NB434_432.out; have hnc10 := NB432_434.out; have hcz11_0 : w9.cell? ⟨gb434, 0, none⟩ = some (.int .i64 0) := (blk_cell BK434.out 0).trans rfl; have hcz11_1 : w9.cell? ⟨gb434, 1, none⟩ = some (.slice none 0 0) := (blk_cell BK434.out 1).trans rfl; have hcz11_2 : w9.cell? ⟨gb434, 2, none⟩ = some (.slice none 0 0) := (blk_cell BK434.out 2).trans rfl; have hcz11_3 : w9.cell? ⟨gb434, 3, none⟩ = some (.slice none 0 0) := (blk_cell BK434.out 3).trans rfl; have hfz11_0 := blk_frozen BK434.out 0; have hfz11_1 := blk_frozen BK434.out 1; have hfz11_2 := blk_frozen BK434.out 2; have hfz11_3 := blk_frozen BK434.out 3) | ((with_reducible refine gate_callee (f := 62) rfl ?_); refine goesL_ (some 17) rfl rfl Try.func62 (by kernel_rfl) rfl #[.slice A433_1 ((rd_T69 l0_1 x10_1).f1).length c433_1] rfl (by (try simp only [List.map_toArray, List.map_cons, List.map_nil]); first | done | rfl | (simp only [List.length_drop, List.length_take]; rfl)) ?_; (with_reducible refine (slices_Clone_int_int.calls _ _ ((rd_T69 l0_1 x10_1).f1) t435 _ ?side1 ?side2 A7.out).mono ?_); (case side1 => exact Kd.C_below HR433_1.out (by repeat (first | (with_reducible first | exact HB.out | apply below_alloc | apply pw_below_drewN | apply below_drew1 | refine below_set ?_ GE432.out | refine below_set ?_ GE434.out) | exact HB.out))); (case side2 => exact HC433_1.out); rintro e w12 ⟨v436, rfl, ho0, hb⟩; refine ⟨_, rfl, ?_⟩; have n0_ := Aside0.mk (Kd.S_elder' (by (with_reducible repeat (first | apply Kd.S_alloc | apply Kd.S_drewN | apply Kd.S_drew)); exact (Kd.S_mono (Kd.S_far (p := ⟨gb434, 3, none⟩) (Kd.S_far (p := ⟨gb434, 2, none⟩) (Kd.S_far (p := ⟨gb434, 1, none⟩) (Kd.S_far (p := ⟨gb434, 0, none⟩) (Kd.S_types HO_2.out BK434.out (by decide)) (fun _ hk => hk.2) (.int .i64 ((rd_T69 l0_1 x10_1).f0))) (fun _ hk => hk.2) (.slice A433_1 ((rd_T69 l0_1 x10_1).f1).length c433_1)) (fun _ hk => hk.2) (.slice A433_2 ((rd_T69 l0_1 x10_1).f2).length c433_2)) (fun _ hk => hk.2) (.slice A433_3 ((rd_T69 l0_1 x10_1).f3).length c433_3)) (fun _ h_ => h_.1))) (Kd.R_base ho0) hb); have n1_ := Aside0.mk (Kd.R_lower ho0 (below_size (by repeat (first | (with_reducible first | exact HB.out | apply below_alloc | apply pw_below_drewN | apply below_drew1 | refine below_set ?_ GE432.out | refine below_set ?_ GE434.out) | exact HB.out)))); have n2_ := Aside0.mk (blk_below (g := gb432) (o := .cells #[.slice A0_0 l0_0.length c0_0, .slice (some ad433) l0_1.length c0_1, .slice A0_2 l0_2.length c0_2] 49 (0, 0)) (by (with_reducible repeat (first | refine blk_drewN ?_ _ | refine blk_drew ?_ | refine blk_alloc ?_ _)); refine blk_far ?_ NB432_434.out _; (with_reducible repeat (first | refine blk_drewN ?_ _ | refine blk_drew ?_ | refine blk_alloc ?_ _)); refine blk_far ?_ NB432_434.out _; (with_reducible repeat (first | refine blk_drewN ?_ _ | refine blk_drew ?_ | refine blk_alloc ?_ _)); refine blk_far ?_ NB432_434.out _; (with_reducible repeat (first | refine blk_drewN ?_ _ | refine blk_drew ?_ | refine blk_alloc ?_ _)); refine blk_far ?_ NB432_434.out _; (with_reducible repeat (first | refine blk_drewN ?_ _ | refine blk_drew ?_ | refine blk_alloc ?_ _)); exact BK432.out) hb); have n3_ := Aside0.mk (blk_below (g := gb434) (o := .cells #[.int .i64 ((rd_T69 l0_1 x10_1).f0), .slice A433_1 ((rd_T69 l0_1 x10_1).f1).length c433_1, .slice A433_2 ((rd_T69 l0_1 x10_1).f2).length c433_2, .slice A433_3 ((rd_T69 l0_1 x10_1).f3).length c433_3] 69 (0, 0)) (by (with_reducible repeat (first | refine blk_drewN ?_ _ | refine blk_drew ?_ | refine blk_alloc ?_ _)); refine blk_put (cs := #[.int .i64 ((rd_T69 l0_1 x10_1).f0), .slice A433_1 ((rd_T69 l0_1 x10_1).f1).length c433_1, .slice A433_2 ((rd_T69 l0_1 x10_1).f2).length c433_2, .slice none 0 0]) ?_ 3 _ rfl; (with_reducible repeat (first | refine blk_drewN ?_ _ | refine blk_drew ?_ | refine blk_alloc ?_ _)); refine blk_put (cs := #[.int .i64 ((rd_T69 l0_1 x10_1).f0), .slice A433_1 ((rd_T69 l0_1 x10_1).f1).length c433_1, .slice none 0 0, .slice none 0 0]) ?_ 2 _ rfl; (with_reducible repeat (first | refine blk_drewN ?_ _ | refine blk_drew ?_ | refine blk_alloc ?_ _)); refine blk_put (cs := #[.int .i64 ((rd_T69 l0_1 x10_1).f0), .slice none 0 0, .slice none 0 0, .slice none 0 0]) ?_ 1 _ rfl; (with_reducible repeat (first | refine blk_drewN ?_ _ | refine blk_drew ?_ | refine blk_alloc ?_ _)); refine blk_put (cs := #[.int .i64 0, .slice none 0 0, .slice none 0 0, .slice none 0 0]) ?_ 0 _ rfl; (with_reducible repeat (first | refine blk_drewN ?_ _ | refine blk_drew ?_ | refine blk_alloc ?_ _)); exact BK434.out) hb); have n4_ := Aside0.mk (below_step (by repeat (first | (with_reducible first | exact HB.out | apply below_alloc | apply pw_below_drewN | apply below_drew1 | refine below_set ?_ GE432.out | refine below_set ?_ GE434.out) | exact HB.out)) hb); clear HO_2; clear BK432; clear BK434; clear HB; have HO_2 := n0_; have HO437 := n1_; have BK432 := n2_; have BK434 := n3_; have HB := n4_; clear n0_ n1_ n2_ n3_ n4_; (try clear hb); (try clear hb2); (try clear hk); (try clear hi); (try clear ho0); obtain ⟨Ao14, co14, eo14⟩ := Kd.R_slice HO437.out; subst eo14) | ((with_reducible refine gate_builtin (b := .append) (xs := #[.tmp 14, .tmp 18]) rfl ?_); at_builtin; refine Kd.S_append (Kd.slice 3 (Kd.int .i64)) (w0 := w) w.heap.size rfl (.tmp 14) (.tmp 18) 22 23 (.slice none 0 0) 24 rfl Try.underlying22 info23 rfl (by decide) (by omega) u2 x2_1 t435 [.slice Ao14 t435.length co14] (fun _ => True) (fun k_ => some k_ = (.slice Ao14 t435.length co14 : Value).ownBlock) rfl rfl ?aP (fun k_ hk_ => ((Kd.R_mono (ok' := fun k_ => ((fun _ => True)) k_ ∧ some k_ ≠ (u2 : Value).ownBlock) (Kd.R_apart' (HO437.out) (Kd.S_typed HO_2.out) (by decide)) (fun k_ hk => ⟨trivial, hk.2⟩))).1 k_ hk_.symm) ?aF ?aO ?aB ?aS ?aL ?_; (case aP => exact Kd.M_row (Kd.R_mono (Kd.R_tight rfl (Kd.R_mono (ok' := fun k_ => ((fun _ => True)) k_ ∧ some k_ ≠ (u2 : Value).ownBlock) (Kd.R_apart' (HO437.out) (Kd.S_typed HO_2.out) (by decide)) (fun k_ hk => ⟨trivial, hk.2⟩))) (fun _ h_ => h_))); (case aB => exact (by repeat (first | (with_reducible first | exact HB.out | apply below_alloc | apply pw_below_drewN | apply below_drew1 | refine below_set ?_ GE432.out | refine below_set ?_ GE434.out) | exact HB.out))); (case aF => exact (fun _ _ => trivial)); (case aO => exact (by (with_reducible repeat (first | apply Kd.S_alloc | apply Kd.S_drewN | apply Kd.S_drew)); exact Kd.S_mono HO_2.out (fun k_ hk => ⟨trivial, fun e_ => hk.2 e_⟩))); (case aS => exact (below_size (by repeat (first | (with_reducible first | exact HB.out | apply below_alloc | apply pw_below_drewN | apply below_drew1 | refine below_set ?_ GE432.out | refine below_set ?_ GE434.out) | exact HB.out)))); (case aL => have := LMc8.out; omega); intro v439 w13 ho hb hg hat; rw [← Ny438.out] at ho; have n0_ := Aside0.mk (blk_grown (g := gb432) (o := .cells #[.slice A0_0 l0_0.length c0_0, .slice (some ad433) l0_1.length c0_1, .slice A0_2 l0_2.length c0_2] 49 (0, 0)) (by (with_reducible repeat (first | refine blk_drewN ?_ _ | refine blk_drew ?_ | refine blk_alloc ?_ _)); exact BK432.out) hg (Kd.S_ne HO_2.out BK432.out (by decide))); have n1_ := Aside0.mk (blk_grown (g := gb434) (o := .cells #[.int .i64 ((rd_T69 l0_1 x10_1).f0), .slice A433_1 ((rd_T69 l0_1 x10_1).f1).length c433_1, .slice A433_2 ((rd_T69 l0_1 x10_1).f2).length c433_2, .slice A433_3 ((rd_T69 l0_1 x10_1).f3).length c433_3] 69 (0, 0)) (by (with_reducible repeat (first | refine blk_drewN ?_ _ | refine blk_drew ?_ | refine blk_alloc ?_ _)); exact BK434.out) hg (Kd.S_ne HO_2.out BK434.out (by decide))); have n2_ := Aside0.mk (hb); have n3_ := Aside0.mk (ho); clear BK432; clear BK434; clear HB; clear HO_2; clear HO437; have BK432 := n0_; have BK434 := n1_; have HB := n2_; have HO440 := n3_; clear n0_ n1_ n2_ n3_; clear ho hb hg hat))
              go_roundg k1
              case measure => have := HK1.out; omega
              case rel => exact ⟨(y438), (wrap64 (x10_1 + 1)), (by first | rfl | (simp; done) | (simp [*]; done)), H', ⟨by have := HK1.out; omega⟩, ⟨by (with_reducible repeat (first | apply Kd.S_alloc | apply Kd.S_drewN | apply Kd.S_drew)); exact HO440.out⟩, ⟨by (with_reducible repeat (first | refine blk_drewN ?_ _ | refine blk_drew ?_ | refine blk_alloc ?_ _)); exact BK432.out⟩, ⟨by repeat (first | (with_reducible first | exact HB.out | apply below_alloc | apply pw_below_drewN | apply below_drew1 | refine below_set ?_ GE432.out | refine below_set ?_ GE434.out) | exact HB.out)⟩⟩
            · rw [if_neg c8] at H
              exact absurd H (by simp)
          · rw [if_neg c6] at H
            exact absurd H (by simp)
        · rw [if_neg c5] at H
          exact absurd H (by simp)
      · rw [if_neg c4] at H
        have c4b0 : decide (x10_1 < (l0_1.length : Int)) = false := decide_eq_false c4
        clear c4
        have H' := Aside0.mk H
        clear H
        have hcz15_0 : wr.cell? ⟨gb432, 0, none⟩ = some (.slice A0_0 l0_0.length c0_0) := (blk_cell BK432.out 0).trans rfl
        have hcz15_1 : wr.cell? ⟨gb432, 1, none⟩ = some (.slice A0_1 l0_1.length c0_1) := (blk_cell BK432.out 1).trans rfl
        have hcz15_2 : wr.cell? ⟨gb432, 2, none⟩ = some (.slice A0_2 l0_2.length c0_2) := (blk_cell BK432.out 2).trans rfl
        have hfz15_0 := blk_frozen BK432.out 0
        have hfz15_1 := blk_frozen BK432.out 1
        have hfz15_2 := blk_frozen BK432.out 2
        go_wp2
        go_loopg [2, 24] k1 (fun kq v2 v24 w' => ∃ (x2_2 : List (List Int)) (x24_2 : Int), v24 = .int .i64 x24_2 ∧ Aside0 (place_Scopes.l1 kq x2_2 l0_2 (l0_2.length : Int) x24_2 = some r) ∧ Aside0 (kq ≤ k1) ∧ Aside0 (Kd.S (Kd.slice 3 (Kd.int .i64)) 23 w' w.heap.size (fun _ => True) v2 x2_2) ∧ Aside0 (w'.heap[gb432]? = some (.cells #[(.slice A0_0 l0_0.length c0_0), (.slice A0_1 l0_1.length c0_1), (.slice A0_2 l0_2.length c0_2)] 49 (0, 0))) ∧ Aside0 (Below w.heap.size w w'))
        case atStart => exact ⟨(x2_1), (0), (by first | rfl | (simp; done) | (simp [*]; done)), H', ⟨Nat.le_refl _⟩, ⟨by (with_reducible repeat (first | apply Kd.S_alloc | apply Kd.S_drewN | apply Kd.S_drew)); exact HO_2.out⟩, ⟨by (with_reducible repeat (first | refine blk_drewN ?_ _ | refine blk_drew ?_ | refine blk_alloc ?_ _)); exact BK432.out⟩, ⟨by repeat (first | (with_reducible first | exact HB.out | apply below_alloc | apply pw_below_drewN | apply below_drew1 | refine below_set ?_ GE432.out) | exact HB.out)⟩⟩
        case round =>
          clear H'
          try clear c1
          try clear p2
          try clear c3
          try clear c4
          try clear c4b0
          try clear p4
          try clear q4
          try clear hx4
          try clear c5
          try clear c5b0
          try clear c6
          try clear c6b0
          try clear p6
          try clear c8
          try clear c10
          try clear hcz11_0
          try clear hcz11_1
          try clear hcz11_2
          try clear hcz11_3
          try clear hcz15_0
          try clear hcz15_1
          try clear hcz15_2
          try clear hcz3_0
          try clear hcz3_1
          try clear hcz3_2
          try clear hfz11_0
          try clear hfz11_1
          try clear hfz11_2
          try clear hfz11_3
          try clear hfz15_0
          try clear hfz15_1
          try clear hfz15_2
          try clear hfz3_0
          try clear hfz3_1
          try clear hfz3_2
          try clear hx433_0
          try clear hx433_1
          try clear hx433_2
          try clear hx433_3
          try clear p2
          try clear p433
          try clear q433
          obtain ⟨x2_2, x24_2, rfl, HA, HK2, HO_2, BK432, HB⟩ := hrel
          cases gk with
          | zero => exact absurd HA.out (by simp [place_Scopes.l1])
          | succ k2 =>
            have H := HA.out
            clear HA
            simp only [place_Scopes.l1] at H
            by_cases c16 : x24_2 < (l0_2.length : Int)
            · rw [if_pos c16] at H
              have c16b0 : decide (x24_2 < (l0_2.length : Int)) = true := decide_eq_true c16
              clear c16
              by_cases c17 : 0 ≤ x24_2
              · rw [if_pos c17] at H
                have c17b0 : decide (0 ≤ x24_2) = true := decide_eq_true c17
                clear c17
                by_cases c18 : x24_2 < (l0_2.length : Int)
                · rw [if_pos c18] at H
                  have c18b0 : decide (x24_2 < (l0_2.length : Int)) = true := decide_eq_true c18
                  clear c18
                  replace H := Option.bind_eq_some_iff.mp H
                  obtain ⟨t443, A190, H⟩ := H
                  replace H : (if x2_2.length < 5864062014805 then (place_Scopes.l1 k2 (x2_2 ++ [t443]) l0_2 (l0_2.length : Int) (wrap64 (x24_2 + 1))) else (none)) = some r := H
                  have A19 := Aside0.mk A190
                  clear A190
                  by_cases c20 : x2_2.length < 5864062014805
                  · rw [if_pos c20] at H
                    have LMc20 := Aside0.mk c20
                    clear c20
                    obtain ⟨y446, hy446⟩ : ∃ y_ : List (List Int), y_ = (x2_2 ++ [t443]) := ⟨_, rfl⟩
                    replace H : (place_Scopes.l1 k2 y446 l0_2 (l0_2.length : Int) (wrap64 (x24_2 + 1))) = some r := by first | (rw [hy446]; with_reducible exact H) | (have H2_ := (Option.bind_some _ _).symm.trans H; rw [hy446]; with_reducible exact H2_) | (have H2_ := (Option.bind_some _ _).symm.trans H; with_reducible exact H2_) | with_reducible exact H | (rw [hy446]; exact H) | exact H
                    have Ny446 := Aside0.mk hy446
                    clear hy446
                    have H' := Aside0.mk H
                    clear H
                    have p441 : 0 ≤ (x24_2 : Int) := of_decide_eq_true (by first | (with_reducible assumption) | assumption)
                    have q441 : x24_2 < (l0_2.length : Int) := of_decide_eq_true (by first | (with_reducible assumption) | assumption)
                    obtain ⟨ad441, A441_0, c441_0, A441_1, c441_1, A441_2, c441_2, e441, hx441_0, hx441_1, hx441_2, hx441_3, hl441_0, hi441_0, hl441_1, hi441_1, hl441_2, hi441_2⟩ := at_T73 HR0_2.out x24_2 p441 q441
                    cases e441
                    replace hx441_0 := (HB.out.cell (World.block_lt_of_cell? w _ hx441_0)).trans hx441_0
                    replace hx441_1 := (HB.out.cell (World.block_lt_of_cell? w _ hx441_1)).trans hx441_1
                    replace hx441_2 := (HB.out.cell (World.block_lt_of_cell? w _ hx441_2)).trans hx441_2
                    replace hx441_3 := (HB.out.cell (World.block_lt_of_cell? w _ hx441_3)).trans hx441_3
                    have HR441_0 := Aside0.mk hi441_0
                    have HC441_0 := Aside0.mk hl441_0
                    clear hi441_0 hl441_0
                    have HR441_1 := Aside0.mk hi441_1
                    have HC441_1 := Aside0.mk hl441_1
                    clear hi441_1 hl441_1
                    have HR441_2 := Aside0.mk hi441_2
                    have HC441_2 := Aside0.mk hl441_2
                    clear hi441_2 hl441_2
                    replace p441 := eq_true p441
                    replace q441 := eq_true q441
                    go_wp2_with (first | ((with_reducible refine gate_dst (N := 6) rfl ?_); refine box_event ?hg (N := 6) ?hd (cs := #[.slice none 0 0, .slice none 0 0, .slice none 0 0, .int .i64 0]) (t := 73) ?hr ?_; (case hd => rfl); (case hg => rfl); (case hr => first | (go_simp; done) | (go_simp; rfl)); intro gb442 hg w21 hbox hb; have n0_ := Aside0.mk (Kd.S_below (by (with_reducible repeat (first | apply Kd.S_alloc | apply Kd.S_drewN | apply Kd.S_drew)); exact HO_2.out) hb); have n1_ := Aside0.mk (blk_below (g := gb432) (o := .cells #[.slice A0_0 l0_0.length c0_0, .slice A0_1 l0_1.length c0_1, .slice (some ad441) l0_2.length c0_2] 49 (0, 0)) (by (with_reducible repeat (first | refine blk_drewN ?_ _ | refine blk_drew ?_ | refine blk_alloc ?_ _)); exact BK432.out) hb); have n2_ := Aside0.mk (below_step (by repeat (first | (with_reducible first | exact HB.out | apply below_alloc | apply pw_below_drewN | apply below_drew1 | refine below_set ?_ GE432.out) | exact HB.out)) hb); have n3_ := Aside0.mk (hbox); have n4_ := Aside0.mk ((by rw [hg]; exact (below_size (by repeat (first | (with_reducible first | exact HB.out | apply below_alloc | apply pw_below_drewN | apply below_drew1 | refine below_set ?_ GE432.out) | exact HB.out))) : w.heap.size ≤ gb442)); have n5_ := Aside0.mk ((by rw [hg]; exact (below_size (by repeat (first | (with_reducible first | exact HB.out | apply below_alloc | apply pw_below_drewN | apply below_drew1 | refine below_set ?_ GE432.out) | exact HB.out))) : w.heap.size ≤ gb442)); have n6_ := Aside0.mk ((by rw [hg]; exact Nat.ne_of_lt (blk_lt (g := gb432) (o := .cells #[.slice A0_0 l0_0.length c0_0, .slice A0_1 l0_1.length c0_1, .slice (some ad441) l0_2.length c0_2] 49 (0, 0)) (by (with_reducible repeat (first | refine blk_drewN ?_ _ | refine blk_drew ?_ | refine blk_alloc ?_ _)); exact BK432.out)) : gb432 ≠ gb442)); have n7_ := Aside0.mk ((by rw [hg]; exact Nat.ne_of_gt (blk_lt (g := gb432) (o := .cells #[.slice A0_0 l0_0.length c0_0, .slice A0_1 l0_1.length c0_1, .slice (some ad441) l0_2.length c0_2] 49 (0, 0)) (by (with_reducible repeat (first | refine blk_drewN ?_ _ | refine blk_drew ?_ | refine blk_alloc ?_ _)); exact BK432.out)) : gb442 ≠ gb432)); clear HO_2; clear BK432; clear HB; have HO_2 := n0_; have BK432 := n1_; have HB := n2_; have BK442 := n3_; have GW442 := n4_; have GE442 := n5_; have NB432_442 := n6_; have NB442_432 := n7_; clear n0_ n1_ n2_ n3_ n4_ n5_ n6_ n7_; clear hb hbox hg; have hnb22 := NB442_432.out; have hnc22 := NB432_442.out; have hcz23_0 : w21.cell? ⟨gb442, 0, none⟩ = some (.slice none 0 0) := (blk_cell BK442.out 0).trans rfl; have hcz23_1 : w21.cell? ⟨gb442, 1, none⟩ = some (.slice none 0 0) := (blk_cell BK442.out 1).trans rfl; have hcz23_2 : w21.cell? ⟨gb442, 2, none⟩ = some (.slice none 0 0) := (blk_cell BK442.out 2).trans rfl; have hcz23_3 : w21.cell? ⟨gb442, 3, none⟩ = some (.int .i64 0) := (blk_cell BK442.out 3).trans rfl; have hfz23_0 := blk_frozen BK442.out 0; have hfz23_1 := blk_frozen BK442.out 1; have hfz23_2 := blk_frozen BK442.out 2; have hfz23_3 := blk_frozen BK442.out 3) | ((with_reducible refine gate_callee (f := 62) rfl ?_); refine goesL_ (some 31) rfl rfl Try.func62 (by kernel_rfl) rfl #[.slice A441_0 ((rd_T73 l0_2 x24_2).f0).length c441_0] rfl (by (try simp only [List.map_toArray, List.map_cons, List.map_nil]); first | done | rfl | (simp only [List.length_drop, List.length_take]; rfl)) ?_; (with_reducible refine (slices_Clone_int_int.calls _ _ ((rd_T73 l0_2 x24_2).f0) t443 _ ?side1 ?side2 A19.out).mono ?_); (case side1 => exact Kd.C_below HR441_0.out (by repeat (first | (with_reducible first | exact HB.out | apply below_alloc | apply pw_below_drewN | apply below_drew1 | refine below_set ?_ GE432.out | refine below_set ?_ GE442.out) | exact HB.out))); (case side2 => exact HC441_0.out); rintro e w24 ⟨v444, rfl, ho0, hb⟩; refine ⟨_, rfl, ?_⟩; have n0_ := Aside0.mk (Kd.S_elder' (by (with_reducible repeat (first | apply Kd.S_alloc | apply Kd.S_drewN | apply Kd.S_drew)); exact (Kd.S_mono (Kd.S_far (p := ⟨gb442, 3, none⟩) (Kd.S_far (p := ⟨gb442, 2, none⟩) (Kd.S_far (p := ⟨gb442, 1, none⟩) (Kd.S_far (p := ⟨gb442, 0, none⟩) (Kd.S_types HO_2.out BK442.out (by decide)) (fun _ hk => hk.2) (.slice A441_0 ((rd_T73 l0_2 x24_2).f0).length c441_0)) (fun _ hk => hk.2) (.slice A441_1 ((rd_T73 l0_2 x24_2).f1).length c441_1)) (fun _ hk => hk.2) (.slice A441_2 ((rd_T73 l0_2 x24_2).f2).length c441_2)) (fun _ hk => hk.2) (.int .i64 ((rd_T73 l0_2 x24_2).f3))) (fun _ h_ => h_.1))) (Kd.R_base ho0) hb); have n1_ := Aside0.mk (Kd.R_lower ho0 (below_size (by repeat (first | (with_reducible first | exact HB.out | apply below_alloc | apply pw_below_drewN | apply below_drew1 | refine below_set ?_ GE432.out | refine below_set ?_ GE442.out) | exact HB.out)))); have n2_ := Aside0.mk (blk_below (g := gb432) (o := .cells #[.slice A0_0 l0_0.length c0_0, .slice A0_1 l0_1.length c0_1, .slice (some ad441) l0_2.length c0_2] 49 (0, 0)) (by (with_reducible repeat (first | refine blk_drewN ?_ _ | refine blk_drew ?_ | refine blk_alloc ?_ _)); refine blk_far ?_ NB432_442.out _; (with_reducible repeat (first | refine blk_drewN ?_ _ | refine blk_drew ?_ | refine blk_alloc ?_ _)); refine blk_far ?_ NB432_442.out _; (with_reducible repeat (first | refine blk_drewN ?_ _ | refine blk_drew ?_ | refine blk_alloc ?_ _)); refine blk_far ?_ NB432_442.out _; (with_reducible repeat (first | refine blk_drewN ?_ _ | refine blk_drew ?_ | refine blk_alloc ?_ _)); refine blk_far ?_ NB432_442.out _; (with_reducible repeat (first | refine blk_drewN ?_ _ | refine blk_drew ?_ | refine blk_alloc ?_ _)); exact BK432.out) hb); have n3_ := Aside0.mk (blk_below (g := gb442) (o := .cells #[.slice A441_0 ((rd_T73 l0_2 x24_2).f0).length c441_0, .slice A441_1 ((rd_T73 l0_2 x24_2).f1).length c441_1, .slice A441_2 ((rd_T73 l0_2 x24_2).f2).length c441_2, .int .i64 ((rd_T73 l0_2 x24_2).f3)] 73 (0, 0)) (by (with_reducible repeat (first | refine blk_drewN ?_ _ | refine blk_drew ?_ | refine blk_alloc ?_ _)); refine blk_put (cs := #[.slice A441_0 ((rd_T73 l0_2 x24_2).f0).length c441_0, .slice A441_1 ((rd_T73 l0_2 x24_2).f1).length c441_1, .slice A441_2 ((rd_T73 l0_2 x24_2).f2).length c441_2, .int .i64 0]) ?_ 3 _ rfl; (with_reducible repeat (first | refine blk_drewN ?_ _ | refine blk_drew ?_ | refine blk_alloc ?_ _)); refine blk_put (cs := #[.slice A441_0 ((rd_T73 l0_2 x24_2).f0).length c441_0, .slice A441_1 ((rd_T73 l0_2 x24_2).f1).length c441_1, .slice none 0 0, .int .i64 0]) ?_ 2 _ rfl; (with_reducible repeat (first | refine blk_drewN ?_ _ | refine blk_drew ?_ | refine blk_alloc ?_ _)); refine blk_put (cs := #[.slice A441_0 ((rd_T73 l0_2 x24_2).f0).length c441_0, .slice none 0 0, .slice none 0 0, .int .i64 0]) ?_ 1 _ rfl; (with_reducible repeat (first | refine blk_drewN ?_ _ | refine blk_drew ?_ | refine blk_alloc ?_ _)); refine blk_put (cs := #[.slice none 0 0, .slice none 0 0, .slice none 0 0, .int .i64 0]) ?_ 0 _ rfl; (with_reducible repeat (first | refine blk_drewN ?_ _ | refine blk_drew ?_ | refine blk_alloc ?_ _)); exact BK442.out) hb); have n4_ := Aside0.mk (below_step (by repeat (first | (with_reducible first | exact HB.out | apply below_alloc | apply pw_below_drewN | apply below_drew1 | refine below_set ?_ GE432.out | refine below_set ?_ GE442.out) | exact HB.out)) hb); clear HO_2; clear BK432; clear BK442; clear HB; have HO_2 := n0_; have HO445 := n1_; have BK432 := n2_; have BK442 := n3_; have HB := n4_; clear n0_ n1_ n2_ n3_ n4_; (try clear hb); (try clear hb2); (try clear hk); (try clear hi); (try clear ho0); obtain ⟨Ao26, co26, eo26⟩ := Kd.R_slice HO445.out; subst eo26) | ((with_reducible refine gate_builtin (b := .append) (xs := #[.tmp 28, .tmp 32]) rfl ?_); at_builtin; refine Kd.S_append (Kd.slice 3 (Kd.int .i64)) (w0 := w) w.heap.size rfl (.tmp 28) (.tmp 32) 22 23 (.slice none 0 0) 24 rfl Try.underlying22 info23 rfl (by decide) (by omega) u2 x2_2 t443 [.slice Ao26 t443.length co26] (fun _ => True) (fun k_ => some k_ = (.slice Ao26 t443.length co26 : Value).ownBlock) rfl rfl ?aP (fun k_ hk_ => ((Kd.R_mono (ok' := fun k_ => ((fun _ => True)) k_ ∧ some k_ ≠ (u2 : Value).ownBlock) (Kd.R_apart' (HO445.out) (Kd.S_typed HO_2.out) (by decide)) (fun k_ hk => ⟨trivial, hk.2⟩))).1 k_ hk_.symm) ?aF ?aO ?aB ?aS ?aL ?_; (case aP => exact Kd.M_row (Kd.R_mono (Kd.R_tight rfl (Kd.R_mono (ok' := fun k_ => ((fun _ => True)) k_ ∧ some k_ ≠ (u2 : Value).ownBlock) (Kd.R_apart' (HO445.out) (Kd.S_typed HO_2.out) (by decide)) (fun k_ hk => ⟨trivial, hk.2⟩))) (fun _ h_ => h_))); (case aB => exact (by repeat (first | (with_reducible first | exact HB.out | apply below_alloc | apply pw_below_drewN | apply below_drew1 | refine below_set ?_ GE432.out | refine below_set ?_ GE442.out) | exact HB.out))); (case aF => exact (fun _ _ => trivial)); (case aO => exact (by (with_reducible repeat (first | apply Kd.S_alloc | apply Kd.S_drewN | apply Kd.S_drew)); exact Kd.S_mono HO_2.out (fun k_ hk => ⟨trivial, fun e_ => hk.2 e_⟩))); (case aS => exact (below_size (by repeat (first | (with_reducible first | exact HB.out | apply below_alloc | apply pw_below_drewN | apply below_drew1 | refine below_set ?_ GE432.out | refine below_set ?_ GE442.out) | exact HB.out)))); (case aL => have := LMc20.out; omega); intro v447 w25 ho hb hg hat; rw [← Ny446.out] at ho; have n0_ := Aside0.mk (blk_grown (g := gb432) (o := .cells #[.slice A0_0 l0_0.length c0_0, .slice A0_1 l0_1.length c0_1, .slice (some ad441) l0_2.length c0_2] 49 (0, 0)) (by (with_reducible repeat (first | refine blk_drewN ?_ _ | refine blk_drew ?_ | refine blk_alloc ?_ _)); exact BK432.out) hg (Kd.S_ne HO_2.out BK432.out (by decide))); have n1_ := Aside0.mk (blk_grown (g := gb442) (o := .cells #[.slice A441_0 ((rd_T73 l0_2 x24_2).f0).length c441_0, .slice A441_1 ((rd_T73 l0_2 x24_2).f1).length c441_1, .slice A441_2 ((rd_T73 l0_2 x24_2).f2).length c441_2, .int .i64 ((rd_T73 l0_2 x24_2).f3)] 73 (0, 0)) (by (with_reducible repeat (first | refine blk_drewN ?_ _ | refine blk_drew ?_ | refine blk_alloc ?_ _)); exact BK442.out) hg (Kd.S_ne HO_2.out BK442.out (by decide))); have n2_ := Aside0.mk (hb); have n3_ := Aside0.mk (ho); clear BK432; clear BK442; clear HB; clear HO_2; clear HO445; have BK432 := n0_; have BK442 := n1_; have HB := n2_; have HO448 := n3_; clear n0_ n1_ n2_ n3_; clear ho hb hg hat))
                    go_roundg k2
                    case measure => have := HK1.out; have := HK2.out; omega
                    case rel => exact ⟨(y446), (wrap64 (x24_2 + 1)), (by first | rfl | (simp; done) | (simp [*]; done)), H', ⟨by have := HK1.out; have := HK2.out; omega⟩, ⟨by (with_reducible repeat (first | apply Kd.S_alloc | apply Kd.S_drewN | apply Kd.S_drew)); exact HO448.out⟩, ⟨by (with_reducible repeat (first | refine blk_drewN ?_ _ | refine blk_drew ?_ | refine blk_alloc ?_ _)); exact BK432.out⟩, ⟨by repeat (first | (with_reducible first | exact HB.out | apply below_alloc | apply pw_below_drewN | apply below_drew1 | refine below_set ?_ GE432.out | refine below_set ?_ GE442.out) | exact HB.out)⟩⟩
                  · rw [if_neg c20] at H
                    exact absurd H (by simp)
                · rw [if_neg c18] at H
                  exact absurd H (by simp)
              · rw [if_neg c17] at H
                exact absurd H (by simp)
            · rw [if_neg c16] at H
              have c16b0 : decide (x24_2 < (l0_2.length : Int)) = false := decide_eq_false c16
              clear c16
              obtain rfl := Option.some.inj H
              go_wp2
              go_ret
              exact ⟨_, by first | rfl | (simp [errW_none, errW_some] <;> rfl) | (simp [*, errW_none, errW_some] <;> rfl), by (with_reducible repeat (first | apply Kd.S_alloc | apply Kd.S_drewN | apply Kd.S_drew)); exact HO_2.out, by repeat (first | (with_reducible first | exact HB.out | apply below_alloc | apply pw_below_drewN | apply below_drew1 | refine below_set ?_ GE432.out) | exact HB.out)⟩

end Go.Proofs.Ytpmfdggbccbfaaa.Pr
