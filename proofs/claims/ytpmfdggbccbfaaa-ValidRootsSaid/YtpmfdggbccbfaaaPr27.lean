-- Printed by a program of this session's own (wip/tools/pp.py) over the kit's print.py; Lean checks it.
import Derived.Test.YtpmfdggbccbfaaaPr0
import Derived.Test.YtpmfdggbccbfaaaPr13
namespace Go.Proofs.Ytpmfdggbccbfaaa.Pr
open Go.RowKit Go.Proofs.YtpmfdggbccbfaaaW.PrintWords Go.Proofs.YtpmfdggbccbfaaaW.PrintLast Go.Proofs.YtpmfdggbccbfaaaW.PrintMore
attribute [local go_sem] max2_int min2_int max_two min_two max_three min_three max_four min_four   -- for this text's walks alone
set_option linter.unusedVariables false
set_option linter.unusedSimpArgs false

/-! ### arboristlaw12_ValidRoots: function 8 -/
def arboristlaw12_ValidRoots.l0 : Nat → Int → Int → Int → Bool → Int → List (List Int) → List Int → Option (Bool)
  | 0, _, _, _, _, _, _, _ => none
  | k + 1, x0, x1, x2, x7, x9, x381000, x381001 => if x9 < (wrap64 (x0 + x1)) then (if x381000.length < 5864062014805 then (if x381001.length < 17592186044416 then (arboristlaw12_ValidRoots.l0 k x0 x1 x2 x7 (wrap64 (x9 + 1)) (x381000 ++ [(([x9] : List Int))]) (x381001 ++ [wrap64 (x9 - 1)])) else (none)) else (none)) else (if 0 ≤ x0 then (if x0 < (x381001.length : Int) then ((some (x381001.set (x0 : Int).toNat (-1) : List Int)).bind fun y390 => ((valid_Check.f k (wrap64 (x0 + x1)) ([] : List (List Int)) x381000 y390).bind fun t391 => (if x7 = true then (if t391 = true then (some false) else ((valid_Check.f k (wrap64 (x0 + x1)) ([] : List (List Int)) x381000 (y390.set (x0 : Int).toNat x2)).bind fun t393 => (some t393))) else (some false)))) else (none)) else (none))
def arboristlaw12_ValidRoots.f (k : Nat) (a0 : Int) (a1 : Int) (a2 : Int) : Option (Bool) := (arboristlaw12_shown.f k).bind fun t379 => (if (wrap64 (1 + (Int.tmod (Go.bits .and .i64 a0 65535) 8))) = 0 then (none) else (arboristlaw12_ValidRoots.l0 k (wrap64 (1 + (Int.tmod (Go.bits .and .i64 a0 65535) 8))) (wrap64 (1 + (Int.tmod (Go.bits .and .i64 a1 65535) 8))) (Int.tmod (Go.bits .and .i64 a2 65535) (wrap64 (1 + (Int.tmod (Go.bits .and .i64 a0 65535) 8)))) t379 0 ([] : List (List Int)) ([] : List Int)))
theorem arboristlaw12_ValidRoots.mono_l : ∀ k, (∀ y0 y1 y2 y3 y4 y5 y6, LeO (arboristlaw12_ValidRoots.l0 k y0 y1 y2 y3 y4 y5 y6) (arboristlaw12_ValidRoots.l0 (k + 1) y0 y1 y2 y3 y4 y5 y6))
  | 0 => fun _ _ _ _ _ _ _ r h => by simp [arboristlaw12_ValidRoots.l0] at h
  | k + 1 => by
    have ih0 := arboristlaw12_ValidRoots.mono_l k
    all_goals intros
    all_goals (first | unfold arboristlaw12_ValidRoots.l0)
    all_goals repeat' first
    | (with_reducible exact ih0 _ _ _ _ _ _ _)
    | (with_reducible exact arboristlaw12_shown.mono _)
    | (with_reducible exact valid_Check.mono _ _ _ _ _)
    | (with_reducible exact LeO.refl _)
    | (with_reducible exact LeO.none _)
    | (with_reducible refine LeO.ite ?_ ?_)
    | (with_reducible refine LeO.bind ?_ (fun _ => ?_))
    | exact ih0 _ _ _ _ _ _ _
    | exact arboristlaw12_shown.mono _
    | exact valid_Check.mono _ _ _ _ _
    | exact LeO.none _
    | refine LeO.ite ?_ ?_
    | refine LeO.bind ?_ (fun _ => ?_)
theorem arboristlaw12_ValidRoots.mono : ∀ a0 a1 a2 k, LeO (arboristlaw12_ValidRoots.f k a0 a1 a2) (arboristlaw12_ValidRoots.f (k + 1) a0 a1 a2) := by
  intro a0 a1 a2 k
  have ih0 := arboristlaw12_ValidRoots.mono_l k
  unfold arboristlaw12_ValidRoots.f
  repeat' first
      | (with_reducible exact ih0 _ _ _ _ _ _ _)
      | (with_reducible exact arboristlaw12_shown.mono _)
      | (with_reducible exact valid_Check.mono _ _ _ _ _)
      | (with_reducible exact LeO.refl _)
      | (with_reducible exact LeO.none _)
      | (with_reducible refine LeO.ite ?_ ?_)
      | (with_reducible refine LeO.bind ?_ (fun _ => ?_))
      | exact ih0 _ _ _ _ _ _ _
      | exact arboristlaw12_shown.mono _
      | exact valid_Check.mono _ _ _ _ _
      | exact LeO.none _
      | refine LeO.ite ?_ ?_
      | refine LeO.bind ?_ (fun _ => ?_)
set_option maxHeartbeats 8000000 in
set_option maxRecDepth 100000 in
theorem arboristlaw12_ValidRoots.calls (k : Nat) (a0 : Int) (a1 : Int) (a2 : Int) (r : Bool) (w : World) (hT : r = true) (h : arboristlaw12_ValidRoots.f k a0 a1 a2 = some r) :
    Calls Try.prog 8 #[.int .i64 a0, .int .i64 a1, .int .i64 a2] w fun e w' => e = .returned (.bool r) ∧ Below w.heap.size w w' := by
  have HT_ := Aside0.mk (show r = true from hT)
  clear hT
  have hu25 := Try.underlying25
  have HB := Aside0.mk (Below.refl w.heap.size w)
  have H : ((arboristlaw12_shown.f k).bind fun t379 => (if (wrap64 (1 + (Int.tmod (Go.bits .and .i64 a0 65535) 8))) = 0 then (none) else (arboristlaw12_ValidRoots.l0 k (wrap64 (1 + (Int.tmod (Go.bits .and .i64 a0 65535) 8))) (wrap64 (1 + (Int.tmod (Go.bits .and .i64 a1 65535) 8))) (Int.tmod (Go.bits .and .i64 a2 65535) (wrap64 (1 + (Int.tmod (Go.bits .and .i64 a0 65535) 8)))) t379 0 ([] : List (List Int)) ([] : List Int)))) = some r := h
  clear h
  replace H := Option.bind_eq_some_iff.mp H
  obtain ⟨t379, A40, H⟩ := H
  replace H : (if (wrap64 (1 + (Int.tmod (Go.bits .and .i64 a0 65535) 8))) = 0 then (none) else (arboristlaw12_ValidRoots.l0 k (wrap64 (1 + (Int.tmod (Go.bits .and .i64 a0 65535) 8))) (wrap64 (1 + (Int.tmod (Go.bits .and .i64 a1 65535) 8))) (Int.tmod (Go.bits .and .i64 a2 65535) (wrap64 (1 + (Int.tmod (Go.bits .and .i64 a0 65535) 8)))) t379 0 ([] : List (List Int)) ([] : List Int))) = some r := H
  have A4 := Aside0.mk A40
  clear A40
  by_cases c5 : (wrap64 (1 + (Int.tmod (Go.bits .and .i64 a0 65535) 8))) = 0
  · rw [if_pos c5] at H
    exact absurd H (by simp)
  · rw [if_neg c5] at H
    have c5b0 : ((wrap64 (1 + (Int.tmod (Go.bits .and .i64 a0 65535) 8))) == 0) = false := beq_eq_false_iff_ne.mpr c5
    have c5b1 : ((wrap64 (1 + (Int.tmod (Go.bits .and .i64 a0 65535) 8))) != 0) = true := bne_iff_ne.mpr c5
    have H' := Aside0.mk H
    clear H
    go_enter Try.func8, Try.ntmps8
    go_wp2_with (first | ((with_reducible refine gate_callee (f := 15) rfl ?_); refine goesL_ (some 11) rfl rfl Try.func15 (by kernel_rfl) rfl #[] rfl (by (try simp only [List.map_toArray, List.map_cons, List.map_nil]); first | done | rfl | (simp only [List.length_drop, List.length_take]; rfl)) ?_; (with_reducible refine (arboristlaw12_shown.calls k  t379 _ A4.out).mono ?_); rintro e w6 ⟨rfl, hb⟩; refine ⟨_, rfl, ?_⟩; have n0_ := Aside0.mk (below_step (by repeat (first | (with_reducible first | exact HB.out | apply below_alloc | apply pw_below_drewN | apply below_drew1) | exact HB.out)) hb); clear HB; have HB := n0_; clear n0_; (try clear hb); (try clear hb2); (try clear hk); (try clear hi)) | ((with_reducible refine gate_dst (N := 8) rfl ?_); refine box_event ?hg (N := 8) ?hd (cs := #[.slice none 0 0, .slice none 0 0]) (t := 25) ?hr ?_; (case hd => rfl); (case hg => rfl); (case hr => first | (go_simp; done) | (go_simp; rfl)); intro gb380 hg w7 hbox hb; have n0_ := Aside0.mk (below_step (by repeat (first | (with_reducible first | exact HB.out | apply below_alloc | apply pw_below_drewN | apply below_drew1) | exact HB.out)) hb); have n1_ := Aside0.mk (hbox); have n2_ := Aside0.mk ((by rw [hg]; exact (below_size (by repeat (first | (with_reducible first | exact HB.out | apply below_alloc | apply pw_below_drewN | apply below_drew1) | exact HB.out))) : w.heap.size ≤ gb380)); have n3_ := Aside0.mk ((by rw [hg]; exact (below_size (by repeat (first | (with_reducible first | exact HB.out | apply below_alloc | apply pw_below_drewN | apply below_drew1) | exact HB.out))) : w.heap.size ≤ gb380)); clear HB; have HB := n0_; have BK380 := n1_; have GW380 := n2_; have GE380 := n3_; clear n0_ n1_ n2_ n3_; clear hb hbox hg; have hcz8_0 : w7.cell? ⟨gb380, 0, none⟩ = some (.slice none 0 0) := (blk_cell BK380.out 0).trans rfl; have hcz8_1 : w7.cell? ⟨gb380, 1, none⟩ = some (.slice none 0 0) := (blk_cell BK380.out 1).trans rfl; have hfz8_0 := blk_frozen BK380.out 0; have hfz8_1 := blk_frozen BK380.out 1))
    go_loopg [9] k (fun kq v9 w' => ∃ (x9_1 : Int) (x381000_1 : List (List Int)) (x381001_1 : List Int) (u381000 : Value) (u381001 : Value), v9 = .int .i64 x9_1 ∧ Aside0 (arboristlaw12_ValidRoots.l0 kq (wrap64 (1 + (Int.tmod (Go.bits .and .i64 a0 65535) 8))) (wrap64 (1 + (Int.tmod (Go.bits .and .i64 a1 65535) 8))) (Int.tmod (Go.bits .and .i64 a2 65535) (wrap64 (1 + (Int.tmod (Go.bits .and .i64 a0 65535) 8)))) t379 x9_1 x381000_1 x381001_1 = some r) ∧ Aside0 (kq ≤ k) ∧ Aside0 (Kd.S (Kd.slice 3 (Kd.int .i64)) 23 w' w.heap.size (fun k_ => some k_ ≠ (u381001 : Value).ownBlock) u381000 x381000_1) ∧ Aside0 (Kd.R (Kd.int .i64) 3 w' w.heap.size (fun _ => True) u381001 x381001_1) ∧ Aside0 (w'.heap[gb380]? = some (.cells #[u381000, u381001] 25 (0, 0))) ∧ Aside0 (Below w.heap.size w w'))
    case atStart => exact ⟨(0), (([] : List (List Int))), (([] : List Int)), (.slice none 0 0), (.slice none 0 0), (by first | rfl | (simp; done) | (simp [*]; done)), H', ⟨Nat.le_refl _⟩, ⟨by first | exact Kd.S_nil _ _ _ _ _ | exact Kd.N_nil _ _ _ _ _ | exact Kd.V_nil _ _ _ _ _ | exact Kd.Q_nil _ _ _ _ _ | exact Kd.R_nil _ _ _ _ _⟩, ⟨by first | exact Kd.R_nil _ _ _ _ _ | exact Kd.N_nil _ _ _ _ _ | exact Kd.V_nil _ _ _ _ _ | exact Kd.Q_nil _ _ _ _ _ | exact Kd.S_nil _ _ _ _ _⟩, ⟨by (with_reducible repeat (first | refine blk_drewN ?_ _ | refine blk_drew ?_ | refine blk_alloc ?_ _)); refine blk_put (cs := #[.slice none 0 0, .slice none 0 0]) ?_ 1 _ rfl; (with_reducible repeat (first | refine blk_drewN ?_ _ | refine blk_drew ?_ | refine blk_alloc ?_ _)); refine blk_put (cs := #[.slice none 0 0, .slice none 0 0]) ?_ 0 _ rfl; (with_reducible repeat (first | refine blk_drewN ?_ _ | refine blk_drew ?_ | refine blk_alloc ?_ _)); exact BK380.out⟩, ⟨by repeat (first | (with_reducible first | exact HB.out | apply below_alloc | apply pw_below_drewN | apply below_drew1 | refine below_set ?_ GE380.out) | exact HB.out)⟩⟩
    case round =>
      clear H'
      try clear c1
      try clear p2
      try clear c5
      try clear c5b0
      try clear c5b1
      try clear p6
      try clear c8
      try clear hcz8_0
      try clear hcz8_1
      try clear hfz8_0
      try clear hfz8_1
      obtain ⟨x9_1, x381000_1, x381001_1, u381000, u381001, rfl, HA, HK1, HO_381000, HO_381001, BK380, HB⟩ := hrel
      cases gk with
      | zero => exact absurd HA.out (by simp [arboristlaw12_ValidRoots.l0])
      | succ k1 =>
        have H := HA.out
        clear HA
        simp only [arboristlaw12_ValidRoots.l0] at H
        by_cases c9 : x9_1 < (wrap64 ((wrap64 (1 + (Int.tmod (Go.bits .and .i64 a0 65535) 8))) + (wrap64 (1 + (Int.tmod (Go.bits .and .i64 a1 65535) 8)))))
        · rw [if_pos c9] at H
          have c9b0 : decide (x9_1 < (wrap64 ((wrap64 (1 + (Int.tmod (Go.bits .and .i64 a0 65535) 8))) + (wrap64 (1 + (Int.tmod (Go.bits .and .i64 a1 65535) 8)))))) = true := decide_eq_true c9
          clear c9
          obtain ⟨y381, hy381⟩ : ∃ y_ : List Int, y_ = (([x9_1] : List Int)) := ⟨_, rfl⟩
          replace H : (if x381000_1.length < 5864062014805 then (if x381001_1.length < 17592186044416 then (arboristlaw12_ValidRoots.l0 k1 (wrap64 (1 + (Int.tmod (Go.bits .and .i64 a0 65535) 8))) (wrap64 (1 + (Int.tmod (Go.bits .and .i64 a1 65535) 8))) (Int.tmod (Go.bits .and .i64 a2 65535) (wrap64 (1 + (Int.tmod (Go.bits .and .i64 a0 65535) 8)))) t379 (wrap64 (x9_1 + 1)) (x381000_1 ++ [y381]) (x381001_1 ++ [wrap64 (x9_1 - 1)])) else (none)) else (none)) = some r := by first | (rw [hy381]; with_reducible exact H) | (have H2_ := (Option.bind_some _ _).symm.trans H; rw [hy381]; with_reducible exact H2_) | (have H2_ := (Option.bind_some _ _).symm.trans H; with_reducible exact H2_) | with_reducible exact H | (rw [hy381]; exact H) | exact H
          have Ny381 := Aside0.mk hy381
          clear hy381
          by_cases c10 : x381000_1.length < 5864062014805
          · rw [if_pos c10] at H
            have LMc10 := Aside0.mk c10
            clear c10
            obtain ⟨y384, hy384⟩ : ∃ y_ : List (List Int), y_ = (x381000_1 ++ [y381]) := ⟨_, rfl⟩
            replace H : (if x381001_1.length < 17592186044416 then (arboristlaw12_ValidRoots.l0 k1 (wrap64 (1 + (Int.tmod (Go.bits .and .i64 a0 65535) 8))) (wrap64 (1 + (Int.tmod (Go.bits .and .i64 a1 65535) 8))) (Int.tmod (Go.bits .and .i64 a2 65535) (wrap64 (1 + (Int.tmod (Go.bits .and .i64 a0 65535) 8)))) t379 (wrap64 (x9_1 + 1)) y384 (x381001_1 ++ [wrap64 (x9_1 - 1)])) else (none)) = some r := by first | (rw [hy384]; with_reducible exact H) | (have H2_ := (Option.bind_some _ _).symm.trans H; rw [hy384]; with_reducible exact H2_) | (have H2_ := (Option.bind_some _ _).symm.trans H; with_reducible exact H2_) | with_reducible exact H | (rw [hy384]; exact H) | exact H
            have Ny384 := Aside0.mk hy384
            clear hy384
            by_cases c11 : x381001_1.length < 17592186044416
            · rw [if_pos c11] at H
              have LMc11 := Aside0.mk c11
              clear c11
              obtain ⟨y387, hy387⟩ : ∃ y_ : List Int, y_ = (x381001_1 ++ [wrap64 (x9_1 - 1)]) := ⟨_, rfl⟩
              replace H : (arboristlaw12_ValidRoots.l0 k1 (wrap64 (1 + (Int.tmod (Go.bits .and .i64 a0 65535) 8))) (wrap64 (1 + (Int.tmod (Go.bits .and .i64 a1 65535) 8))) (Int.tmod (Go.bits .and .i64 a2 65535) (wrap64 (1 + (Int.tmod (Go.bits .and .i64 a0 65535) 8)))) t379 (wrap64 (x9_1 + 1)) y384 y387) = some r := by first | (rw [hy387]; with_reducible exact H) | (have H2_ := (Option.bind_some _ _).symm.trans H; rw [hy387]; with_reducible exact H2_) | (have H2_ := (Option.bind_some _ _).symm.trans H; with_reducible exact H2_) | with_reducible exact H | (rw [hy387]; exact H) | exact H
              have Ny387 := Aside0.mk hy387
              clear hy387
              have H' := Aside0.mk H
              clear H
              have hcz12_0 : wr.cell? ⟨gb380, 0, none⟩ = some (u381000) := (blk_cell BK380.out 0).trans rfl
              have hcz12_1 : wr.cell? ⟨gb380, 1, none⟩ = some (u381001) := (blk_cell BK380.out 1).trans rfl
              have hfz12_0 := blk_frozen BK380.out 0
              have hfz12_1 := blk_frozen BK380.out 1
              go_wp2_with (first | ((with_reducible refine gate_dst (N := 35) rfl ?_); refine Kd.R_lit (Kd.int .i64) _ 3 ?hg (N := 35) ?hd (xs := ([x9_1] : List Int)) (inner := [.int .i64 x9_1]) (ok := fun _ => True) (okp := fun _ => True) ?hr ?hp (fun _ hk => hk) trivial (Below.refl _ _) (Nat.le_refl _) (by simp) ?_; (case hd => rfl); (case hg => rfl); (case hr => first | (go_simp; done) | (go_simp; rfl)); (case hp => exact (Reps.one (show Kd.M (Kd.int .i64) _ _ _ x9_1 [.int .i64 x9_1] from rfl) (Reps.none _ _))); intro v382 w13 ho14 hb hg_ hnew_; clear hg_ hnew_; (first | rw [← Ny381.out] at ho14 | (simp only [Int.reduceToNat] at ho14; rw [← Ny381.out] at ho14)); have n0_ := Aside0.mk (Kd.S_elder' (by (with_reducible repeat (first | apply Kd.S_alloc | apply Kd.S_drewN | apply Kd.S_drew)); exact HO_381000.out) (Kd.R_base ho14) hb); have n1_ := Aside0.mk (Kd.R_elder' (by (with_reducible repeat (first | apply Kd.R_alloc | apply Kd.R_drewN | apply Kd.R_drew)); exact HO_381001.out) (Kd.R_base ho14) hb); have n2_ := Aside0.mk (Kd.R_lower (Kd.R_new' ho14 (Kd.R_lt (by (with_reducible repeat (first | apply Kd.R_alloc | apply Kd.R_drewN | apply Kd.R_drew)); exact HO_381001.out))) (below_size (by repeat (first | (with_reducible first | exact HB.out | apply below_alloc | apply pw_below_drewN | apply below_drew1 | refine below_set ?_ GE380.out) | exact HB.out)))); have n3_ := Aside0.mk (blk_below (g := gb380) (o := .cells #[u381000, u381001] 25 (0, 0)) (by (with_reducible repeat (first | refine blk_drewN ?_ _ | refine blk_drew ?_ | refine blk_alloc ?_ _)); exact BK380.out) hb); have n4_ := Aside0.mk (below_step (by repeat (first | (with_reducible first | exact HB.out | apply below_alloc | apply pw_below_drewN | apply below_drew1 | refine below_set ?_ GE380.out) | exact HB.out)) hb); clear HO_381000; clear HO_381001; clear BK380; clear HB; have HO_381000 := n0_; have HO_381001 := n1_; have HO383 := n2_; have BK380 := n3_; have HB := n4_; clear n0_ n1_ n2_ n3_ n4_; clear hb ho14; obtain ⟨Ao16, co16, eo16⟩ := Kd.R_slice HO383.out; subst eo16) | ((with_reducible refine gate_builtin (b := .append) (xs := #[.tmp 33, .tmp 36]) rfl ?_); at_builtin; refine Kd.S_append (Kd.slice 3 (Kd.int .i64)) (w0 := w) w.heap.size rfl (.tmp 33) (.tmp 36) 22 23 (.slice none 0 0) 24 rfl Try.underlying22 info23 rfl (by decide) (by omega) u381000 x381000_1 y381 [.slice Ao16 y381.length co16] (fun k_ => some k_ ≠ (u381001 : Value).ownBlock) (fun k_ => some k_ = (.slice Ao16 y381.length co16 : Value).ownBlock) rfl rfl ?aP (fun k_ hk_ => ((Kd.R_mono (ok' := fun k_ => ((fun k_ => some k_ ≠ (u381001 : Value).ownBlock)) k_ ∧ some k_ ≠ (u381000 : Value).ownBlock) (Kd.R_apart' (HO383.out) (Kd.S_typed HO_381000.out) (by decide)) (fun k_ hk => ⟨hk.1.2, hk.2⟩))).1 k_ hk_.symm) ?aF ?aO ?aB ?aS ?aL ?_; (case aP => exact Kd.M_row (Kd.R_mono (Kd.R_tight rfl (Kd.R_mono (ok' := fun k_ => ((fun k_ => some k_ ≠ (u381001 : Value).ownBlock)) k_ ∧ some k_ ≠ (u381000 : Value).ownBlock) (Kd.R_apart' (HO383.out) (Kd.S_typed HO_381000.out) (by decide)) (fun k_ hk => ⟨hk.1.2, hk.2⟩))) (fun _ h_ => h_))); (case aB => exact (by repeat (first | (with_reducible first | exact HB.out | apply below_alloc | apply pw_below_drewN | apply below_drew1 | refine below_set ?_ GE380.out) | exact HB.out))); (case aF => exact (fun k_ hk => Kd.fresh' (Kd.R_lt (by (with_reducible repeat (first | apply Kd.R_alloc | apply Kd.R_drewN | apply Kd.R_drew)); exact HO_381001.out)) k_ hk)); (case aO => exact (by (with_reducible repeat (first | apply Kd.S_alloc | apply Kd.S_drewN | apply Kd.S_drew)); exact Kd.S_mono HO_381000.out (fun k_ hk => ⟨hk.1, fun e_ => hk.2 e_⟩))); (case aS => exact (below_size (by repeat (first | (with_reducible first | exact HB.out | apply below_alloc | apply pw_below_drewN | apply below_drew1 | refine below_set ?_ GE380.out) | exact HB.out)))); (case aL => have := LMc10.out; omega); intro v385 w15 ho hb hg hat; rw [← Ny384.out] at ho; have n0_ := Aside0.mk (Kd.R_over' (by (with_reducible repeat (first | apply Kd.R_alloc | apply Kd.R_drewN | apply Kd.R_drew)); exact HO_381001.out) (Kd.S_typed (by (with_reducible repeat (first | apply Kd.S_alloc | apply Kd.S_drewN | apply Kd.S_drew)); exact HO_381000.out)) (by decide) hg); have n1_ := Aside0.mk (blk_grown (g := gb380) (o := .cells #[u381000, u381001] 25 (0, 0)) (by (with_reducible repeat (first | refine blk_drewN ?_ _ | refine blk_drew ?_ | refine blk_alloc ?_ _)); exact BK380.out) hg (Kd.S_ne HO_381000.out BK380.out (by decide))); have n2_ := Aside0.mk (hb); have n3_ := Aside0.mk (ho); clear HO_381001; clear BK380; clear HB; clear HO_381000; clear HO383; have HO_381001 := n0_; have BK380 := n1_; have HB := n2_; have HO386 := n3_; clear n0_ n1_ n2_ n3_; clear ho hb hg hat; obtain ⟨Ao17, co17, eo17⟩ := Kd.S_slice HO386.out; subst eo17; have hcz18_0 : w15.cell? ⟨gb380, 0, none⟩ = some (u381000) := (blk_cell BK380.out 0).trans rfl; have hcz18_1 : w15.cell? ⟨gb380, 1, none⟩ = some (u381001) := (blk_cell BK380.out 1).trans rfl; have hfz18_0 := blk_frozen BK380.out 0; have hfz18_1 := blk_frozen BK380.out 1) | ((with_reducible refine gate_builtin (b := .append) (xs := #[.tmp 40, .tmp 43]) rfl ?_); at_builtin; refine Kd.R_append (Kd.int .i64) (w0 := w) w.heap.size rfl (.tmp 40) (.tmp 43) 23 3 (.int .i64 0) 8 rfl Try.underlying23 info3 rfl (by decide) (by omega) u381001 x381001_1 (wrap64 (x9_1 - 1)) [.int .i64 (wrap64 (x9_1 - 1))] (fun _ => True) (fun _ => False) rfl (by first | (go_simp; done) | (go_simp; rfl)) ?aP (fun _ hk => hk.elim) ?aF ?aO ?aB ?aS ?aL ?_; (case aP => exact rfl); (case aB => exact (by repeat (first | (with_reducible first | exact HB.out | apply below_alloc | apply pw_below_drewN | apply below_drew1 | refine below_set ?_ GE380.out) | exact HB.out))); (case aF => exact (fun _ _ => trivial)); (case aO => exact (by (with_reducible repeat (first | apply Kd.R_alloc | apply Kd.R_drewN | apply Kd.R_drew)); exact Kd.R_mono (Kd.R_far (p := ⟨gb380, 0, none⟩) (Kd.R_types HO_381001.out BK380.out (by decide)) (fun _ hk => hk.2) (.slice Ao17 y384.length co17)) (fun _ hk => trivial))); (case aS => exact (below_size (by repeat (first | (with_reducible first | exact HB.out | apply below_alloc | apply pw_below_drewN | apply below_drew1 | refine below_set ?_ GE380.out) | exact HB.out)))); (case aL => have := LMc11.out; omega); intro v388 w19 ho hb hg hat; rw [← Ny387.out] at ho; have n0_ := Aside0.mk (blk_grown (g := gb380) (o := .cells #[.slice Ao17 y384.length co17, u381001] 25 (0, 0)) (by (with_reducible repeat (first | refine blk_drewN ?_ _ | refine blk_drew ?_ | refine blk_alloc ?_ _)); refine blk_put (cs := #[u381000, u381001]) ?_ 0 _ rfl; (with_reducible repeat (first | refine blk_drewN ?_ _ | refine blk_drew ?_ | refine blk_alloc ?_ _)); exact BK380.out) hg (Kd.R_ne HO_381001.out BK380.out (by decide))); have n1_ := Aside0.mk (Kd.S_after (ok := (fun _ => True)) (by (with_reducible repeat (first | apply Kd.S_alloc | apply Kd.S_drewN | apply Kd.S_drew)); exact Kd.S_mono (Kd.S_far (p := ⟨gb380, 0, none⟩) (Kd.S_types HO386.out BK380.out (by decide)) (fun _ hk => hk.2) (.slice Ao17 y384.length co17)) (fun _ hk => ⟨trivial, hk.1⟩)) hg hat); have n2_ := Aside0.mk (hb); have n3_ := Aside0.mk (ho); clear BK380; clear HO386; clear HB; clear HO_381001; have BK380 := n0_; have HO386 := n1_; have HB := n2_; have HO389 := n3_; clear n0_ n1_ n2_ n3_; clear ho hb hg hat; obtain ⟨Ao20, co20, eo20⟩ := Kd.R_slice HO389.out; subst eo20; have hcz21_0 : w19.cell? ⟨gb380, 0, none⟩ = some (.slice Ao17 y384.length co17) := (blk_cell BK380.out 0).trans rfl; have hcz21_1 : w19.cell? ⟨gb380, 1, none⟩ = some (u381001) := (blk_cell BK380.out 1).trans rfl; have hfz21_0 := blk_frozen BK380.out 0; have hfz21_1 := blk_frozen BK380.out 1))
              go_roundg k1
              case measure => have := HK1.out; omega
              case rel => exact ⟨(wrap64 (x9_1 + 1)), (y384), (y387), (.slice Ao17 y384.length co17), (.slice Ao20 y387.length co20), (by first | rfl | (simp; done) | (simp [*]; done)), H', ⟨by have := HK1.out; omega⟩, ⟨by (with_reducible repeat (first | apply Kd.S_alloc | apply Kd.S_drewN | apply Kd.S_drew)); exact Kd.S_mono (Kd.S_far (p := ⟨gb380, 1, none⟩) (Kd.S_types HO386.out BK380.out (by decide)) (fun _ hk => hk.2) (.slice Ao20 y387.length co20)) (fun _ hk => hk.1.2)⟩, ⟨by (with_reducible repeat (first | apply Kd.R_alloc | apply Kd.R_drewN | apply Kd.R_drew)); exact Kd.R_mono (Kd.R_far (p := ⟨gb380, 1, none⟩) (Kd.R_types HO389.out BK380.out (by decide)) (fun _ hk => hk.2) (.slice Ao20 y387.length co20)) (fun _ hk => trivial)⟩, ⟨by (with_reducible repeat (first | refine blk_drewN ?_ _ | refine blk_drew ?_ | refine blk_alloc ?_ _)); refine blk_put (cs := #[.slice Ao17 y384.length co17, u381001]) ?_ 1 _ rfl; (with_reducible repeat (first | refine blk_drewN ?_ _ | refine blk_drew ?_ | refine blk_alloc ?_ _)); exact BK380.out⟩, ⟨by repeat (first | (with_reducible first | exact HB.out | apply below_alloc | apply pw_below_drewN | apply below_drew1 | refine below_set ?_ GE380.out) | exact HB.out)⟩⟩
            · rw [if_neg c11] at H
              exact absurd H (by simp)
          · rw [if_neg c10] at H
            exact absurd H (by simp)
        · rw [if_neg c9] at H
          have c9b0 : decide (x9_1 < (wrap64 ((wrap64 (1 + (Int.tmod (Go.bits .and .i64 a0 65535) 8))) + (wrap64 (1 + (Int.tmod (Go.bits .and .i64 a1 65535) 8)))))) = false := decide_eq_false c9
          clear c9
          obtain ⟨ji22, hji22⟩ : ∃ j_ : Int, (wrap64 (1 + (Int.tmod (Go.bits .and .i64 a0 65535) 8))) = j_ := ⟨_, rfl⟩
          replace H : (if 0 ≤ (ji22) then (if (ji22) < (x381001_1.length : Int) then ((some (x381001_1.set ((ji22) : Int).toNat (-1) : List Int)).bind fun y390 => ((valid_Check.f k1 (wrap64 ((ji22) + (wrap64 (1 + (Int.tmod (Go.bits .and .i64 a1 65535) 8))))) ([] : List (List Int)) x381000_1 y390).bind fun t391 => (if t379 = true then (if t391 = true then (some false) else ((valid_Check.f k1 (wrap64 ((ji22) + (wrap64 (1 + (Int.tmod (Go.bits .and .i64 a1 65535) 8))))) ([] : List (List Int)) x381000_1 (y390.set ((ji22) : Int).toNat (Int.tmod (Go.bits .and .i64 a2 65535) (ji22)))).bind fun t393 => (some t393))) else (some false)))) else (none)) else (none)) = some r := by first | (rw [hji22] at H; exact H) | (simp only [hji22] at H ⊢; exact H)
          (try rw [hji22] at c5b0)
          (try rw [hji22] at c5b1)
          (try rw [hji22] at c9b0)
          have hji22w : (IntKind.i64.wrap (1 + (Int.tmod (Go.bits .and .i64 a0 65535) 8))) = ji22 := (i64_w _).trans hji22
          by_cases c23 : 0 ≤ (ji22)
          · rw [if_pos c23] at H
            have c23b0 : decide (0 ≤ (ji22)) = true := decide_eq_true c23
            clear c23
            by_cases c24 : (ji22) < (x381001_1.length : Int)
            · rw [if_pos c24] at H
              have c24b0 : decide ((ji22) < (x381001_1.length : Int)) = true := decide_eq_true c24
              clear c24
              obtain ⟨y390, hy390⟩ : ∃ y_ : List Int, y_ = (x381001_1.set ((ji22) : Int).toNat (-1)) := ⟨_, rfl⟩
              replace H : ((valid_Check.f k1 (wrap64 ((ji22) + (wrap64 (1 + (Int.tmod (Go.bits .and .i64 a1 65535) 8))))) ([] : List (List Int)) x381000_1 y390).bind fun t391 => (if t379 = true then (if t391 = true then (some false) else ((valid_Check.f k1 (wrap64 ((ji22) + (wrap64 (1 + (Int.tmod (Go.bits .and .i64 a1 65535) 8))))) ([] : List (List Int)) x381000_1 (y390.set ((ji22) : Int).toNat (Int.tmod (Go.bits .and .i64 a2 65535) (ji22)))).bind fun t393 => (some t393))) else (some false))) = some r := by first | (rw [hy390]; with_reducible exact H) | (have H2_ := (Option.bind_some _ _).symm.trans H; rw [hy390]; with_reducible exact H2_) | (have H2_ := (Option.bind_some _ _).symm.trans H; with_reducible exact H2_) | with_reducible exact H | (rw [hy390]; exact H) | exact H
              have Ny390 := Aside0.mk hy390
              clear hy390
              replace H := Option.bind_eq_some_iff.mp H
              obtain ⟨t391, A260, H⟩ := H
              replace H : (if t379 = true then (if t391 = true then (some false) else ((valid_Check.f k1 (wrap64 ((ji22) + (wrap64 (1 + (Int.tmod (Go.bits .and .i64 a1 65535) 8))))) ([] : List (List Int)) x381000_1 (y390.set ((ji22) : Int).toNat (Int.tmod (Go.bits .and .i64 a2 65535) (ji22)))).bind fun t393 => (some t393))) else (some false)) = some r := H
              have A26 := Aside0.mk A260
              clear A260
              obtain ⟨y392, hy392⟩ : ∃ y_ : List Int, y_ = (y390.set ((ji22) : Int).toNat (Int.tmod (Go.bits .and .i64 a2 65535) (ji22))) := ⟨_, rfl⟩
              replace H : (if t379 = true then (if t391 = true then (some false) else ((valid_Check.f k1 (wrap64 ((ji22) + (wrap64 (1 + (Int.tmod (Go.bits .and .i64 a1 65535) 8))))) ([] : List (List Int)) x381000_1 y392).bind fun t393 => (some t393))) else (some false)) = some r := by first | (rw [hy392]; with_reducible exact H) | (have H2_ := (Option.bind_some _ _).symm.trans H; rw [hy392]; with_reducible exact H2_) | (have H2_ := (Option.bind_some _ _).symm.trans H; with_reducible exact H2_) | with_reducible exact H | (rw [hy392]; exact H) | exact H
              have Ny392 := Aside0.mk hy392
              clear hy392
              by_cases c28 : t379 = true
              · subst c28
                have H1 : (if t391 = true then (some false) else ((valid_Check.f k1 (wrap64 ((ji22) + (wrap64 (1 + (Int.tmod (Go.bits .and .i64 a1 65535) 8))))) ([] : List (List Int)) x381000_1 y392).bind fun t393 => (some t393))) = some r := by rw [if_pos rfl] at H; exact H
                clear H
                have H := H1
                clear H1
                by_cases c29 : t391 = true
                · subst c29
                  have H1 : (some false) = some r := by rw [if_pos rfl] at H; exact H
                  clear H
                  have H := H1
                  clear H1
                  exact absurd ((Option.some.inj H).trans HT_.out) (by decide)
                · replace c29 := Bool.eq_false_iff.mpr c29
                  subst c29
                  have H1 : ((valid_Check.f k1 (wrap64 ((ji22) + (wrap64 (1 + (Int.tmod (Go.bits .and .i64 a1 65535) 8))))) ([] : List (List Int)) x381000_1 y392).bind fun t393 => (some t393)) = some r := by rw [if_neg (show ¬ (false = true) by decide)] at H; exact H
                  clear H
                  have H := H1
                  clear H1
                  replace H := Option.bind_eq_some_iff.mp H
                  obtain ⟨t393, A300, H⟩ := H
                  replace H : (some t393) = some r := H
                  have A30 := Aside0.mk A300
                  clear A300
                  obtain rfl := Option.some.inj H
                  have hcz31_0 : wr.cell? ⟨gb380, 0, none⟩ = some (u381000) := (blk_cell BK380.out 0).trans rfl
                  have hcz31_1 : wr.cell? ⟨gb380, 1, none⟩ = some (u381001) := (blk_cell BK380.out 1).trans rfl
                  have hfz31_0 := blk_frozen BK380.out 0
                  have hfz31_1 := blk_frozen BK380.out 1
                  have p25 : 0 ≤ ((ji22) : Int) := of_decide_eq_true (by first | (with_reducible assumption) | assumption)
                  have q25 : ((ji22) : Int) < ((x381001_1.length : Int) : Int) := of_decide_eq_true (by first | (with_reducible assumption) | assumption)
                  obtain ⟨go25, co25, eo25, gb25, gl25, cl25, HG25⟩ := Kd.R_form HO_381001.out (by omega)
                  (first | cases eo25 | (injection eo25 with ea_ en_ ec_; (first | subst ea_ | (injection ea_ with ea_; subst ea_)); subst ec_; clear en_))
                  have GB25 := Aside0.mk gb25
                  have GG25 := Aside0.mk HG25
                  clear gb25 gl25 HG25
                  obtain ⟨hx25_0, hf25_0⟩ := Kd.R_celln 0 HO_381001.out ((ji22) : Int) p25 q25
                  replace p25 := eq_true p25
                  replace q25 := eq_true q25
                  have HP32 := Kd.R_putg HO_381001.out ((ji22) : Int) (-1)
                  go_wp2_with (first | ((with_reducible refine gate_store (t := 3) (p := 49) rfl ?_); refine store_event (t := 3) (p := 49) (v := ?vo_w33) (w1 := (wr.setCell ⟨go25, ((ji22) : Int).toNat, none⟩ (.int .i64 (-1)))) ?hg ?ho ?hn ?hr ?_; (case ho => rfl); (case hg => rfl); (case hn => rfl); (case hr => first | (go_simp; done) | (go_simp; rfl)); intro w33 hw; have hg : wr.grownBy w33 (some go25) := (by rw [hw]; exact HP32.2); have hp_ : Kd.R (Kd.int .i64) 3 w33 w.heap.size (fun _ => True) (.slice (some ⟨go25, 0, none⟩) x381001_1.length co25) y390 := (by rw [hw, Ny390.out]; exact HP32.1); clear HP32; have n0_ := Aside0.mk (Kd.S_after (v := (.slice (some ⟨go25, 0, none⟩) x381001_1.length co25)) (v1 := (.slice (some ⟨go25, 0, none⟩) x381001_1.length co25)) (ok := (fun _ => True)) (by (with_reducible repeat (first | apply Kd.S_alloc | apply Kd.S_drewN | apply Kd.S_drew)); exact Kd.S_mono HO_381000.out (fun _ hk => ⟨trivial, hk⟩)) hg (.inl rfl)); have n1_ := Aside0.mk (hp_); have n2_ := Aside0.mk (blk_grown (g := gb380) (o := .cells #[u381000, .slice (some ⟨go25, 0, none⟩) x381001_1.length co25] 25 (0, 0)) (by (with_reducible repeat (first | refine blk_drewN ?_ _ | refine blk_drew ?_ | refine blk_alloc ?_ _)); exact BK380.out) hg (Kd.R_ne HO_381001.out BK380.out (by decide))); have n3_ := Aside0.mk ((by rw [hw]; exact below_set (HB.out) GB25.out : Below w.heap.size w w33)); clear HO_381000; clear HO_381001; clear BK380; clear HB; have HO_381000 := n0_; have HO_381001 := n1_; have BK380 := n2_; have HB := n3_; clear n0_ n1_ n2_ n3_; clear hg hw hp_; have hcz34_0 : w33.cell? ⟨gb380, 0, none⟩ = some (u381000) := (blk_cell BK380.out 0).trans rfl; have hcz34_1 : w33.cell? ⟨gb380, 1, none⟩ = some (.slice (some ⟨go25, 0, none⟩) x381001_1.length co25) := (blk_cell BK380.out 1).trans rfl; have hfz34_0 := blk_frozen BK380.out 0; have hfz34_1 := blk_frozen BK380.out 1; obtain ⟨Ao35, co35, eo35⟩ := Kd.S_slice HO_381000.out; subst eo35) | ((with_reducible refine gate_callee (f := 24) rfl ?_); refine goesL_ (some 54) rfl rfl Try.func24 (by kernel_rfl) rfl #[.int .i64 (wrap64 ((ji22) + (wrap64 (1 + (Int.tmod (Go.bits .and .i64 a1 65535) 8))))), .slice none 0 0, .agg #[.slice Ao35 x381000_1.length co35, .slice (some ⟨go25, 0, none⟩) y390.length co25]] rfl (by (try simp only [List.map_toArray, List.map_cons, List.map_nil]); first | done | (rw [show y390.length = x381001_1.length from (Kd.R_reads' HO_381001.out).1.symm] <;> rfl) | (simp only [hji22]; rfl) | rfl | (simp only [List.length_drop, List.length_take]; rfl)) ?_; (refine (valid_Check.calls k1 (wrap64 ((ji22) + (wrap64 (1 + (Int.tmod (Go.bits .and .i64 a1 65535) 8))))) _ _ ([] : List (List Int)) _ _ x381000_1 _ _ y390 false _ ?side1 ?side2 ?side3 ?side4 ?side5 ?side6 A26.out).mono ?_); (case side1 => exact Kd.C_nil _ _); (case side2 => exact Nat.le_refl _); (case side3 => repeat (first | exact (Kd.S_reads' HO_381000.out).2.2 | (with_reducible refine Kd.C_alloc ?_ _) | (with_reducible refine Kd.C_drewN ?_ _) | (with_reducible refine Kd.C_drew ?_))); (case side4 => exact (Kd.S_reads' HO_381000.out).2.1); (case side5 => repeat (first | exact (Kd.R_reads' HO_381001.out).2.2 | (with_reducible refine Kd.C_alloc ?_ _) | (with_reducible refine Kd.C_drewN ?_ _) | (with_reducible refine Kd.C_drew ?_))); (case side6 => rw [show y390.length = x381001_1.length from (Kd.R_reads' HO_381001.out).1.symm]; exact (Kd.R_reads' HO_381001.out).2.1); rintro e w36 ⟨rfl, hb⟩; refine ⟨_, rfl, ?_⟩; have n0_ := Aside0.mk (Kd.S_below (by (with_reducible repeat (first | apply Kd.S_alloc | apply Kd.S_drewN | apply Kd.S_drew)); exact HO_381000.out) hb); have n1_ := Aside0.mk (Kd.R_below (by (with_reducible repeat (first | apply Kd.R_alloc | apply Kd.R_drewN | apply Kd.R_drew)); exact HO_381001.out) hb); have n2_ := Aside0.mk (blk_below (g := gb380) (o := .cells #[.slice Ao35 x381000_1.length co35, .slice (some ⟨go25, 0, none⟩) x381001_1.length co25] 25 (0, 0)) (by (with_reducible repeat (first | refine blk_drewN ?_ _ | refine blk_drew ?_ | refine blk_alloc ?_ _)); exact BK380.out) hb); have n3_ := Aside0.mk (below_step (by repeat (first | (with_reducible first | exact HB.out | apply below_alloc | apply pw_below_drewN | apply below_drew1 | refine below_set ?_ GE380.out) | exact HB.out)) hb); clear HO_381000; clear HO_381001; clear BK380; clear HB; have HO_381000 := n0_; have HO_381001 := n1_; have BK380 := n2_; have HB := n3_; clear n0_ n1_ n2_ n3_; (try clear hb); (try clear hb2); (try clear hk); (try clear hi); have hcz37_0 : w36.cell? ⟨gb380, 0, none⟩ = some (.slice Ao35 x381000_1.length co35) := (blk_cell BK380.out 0).trans rfl; have hcz37_1 : w36.cell? ⟨gb380, 1, none⟩ = some (.slice (some ⟨go25, 0, none⟩) x381001_1.length co25) := (blk_cell BK380.out 1).trans rfl; have hfz37_0 := blk_frozen BK380.out 0; have hfz37_1 := blk_frozen BK380.out 1; have p27 : 0 ≤ ((ji22) : Int) := of_decide_eq_true (by first | (with_reducible assumption) | assumption); have q27 : ((ji22) : Int) < ((x381001_1.length : Int) : Int) := of_decide_eq_true (by first | (with_reducible assumption) | assumption); obtain ⟨hx27_0, hf27_0⟩ := Kd.R_celln 0 HO_381001.out ((ji22) : Int) p27 q27; replace p27 := eq_true p27; replace q27 := eq_true q27; obtain ⟨hy38_, hz38_⟩ := Kd.R_celln 0 HO_381001.out ((ji22) : Int) (of_decide_eq_true (by first | (with_reducible assumption) | assumption)) (of_decide_eq_true (by first | (with_reducible assumption) | assumption)); have HP38 := Kd.R_putg HO_381001.out ((ji22) : Int) (Int.tmod (Go.bits .and .i64 a2 65535) (ji22))) | ((with_reducible refine gate_store (t := 3) (p := 59) rfl ?_); refine store_event (t := 3) (p := 59) (v := ?vo_w39) (w1 := (w36.setCell ⟨go25, ((ji22) : Int).toNat, none⟩ (.int .i64 (Int.tmod (Go.bits .and .i64 a2 65535) (ji22))))) ?hg ?ho ?hn ?hr ?_; (case ho => rfl); (case hg => rfl); (case hn => rfl); (case hr => first | (go_simp; done) | (go_simp; rfl)); intro w39 hw; have hg : w36.grownBy w39 (some go25) := (by rw [hw]; exact HP38.2); have hp_ : Kd.R (Kd.int .i64) 3 w39 w.heap.size (fun _ => True) (.slice (some ⟨go25, 0, none⟩) x381001_1.length co25) y392 := (by rw [hw, Ny392.out]; exact HP38.1); clear HP38; have n0_ := Aside0.mk (Kd.S_after (v := (.slice (some ⟨go25, 0, none⟩) x381001_1.length co25)) (v1 := (.slice (some ⟨go25, 0, none⟩) x381001_1.length co25)) (ok := (fun _ => True)) (by (with_reducible repeat (first | apply Kd.S_alloc | apply Kd.S_drewN | apply Kd.S_drew)); exact HO_381000.out) hg (.inl rfl)); have n1_ := Aside0.mk (hp_); have n2_ := Aside0.mk (blk_grown (g := gb380) (o := .cells #[.slice Ao35 x381000_1.length co35, .slice (some ⟨go25, 0, none⟩) x381001_1.length co25] 25 (0, 0)) (by (with_reducible repeat (first | refine blk_drewN ?_ _ | refine blk_drew ?_ | refine blk_alloc ?_ _)); exact BK380.out) hg (Kd.R_ne HO_381001.out BK380.out (by decide))); have n3_ := Aside0.mk ((by rw [hw]; exact below_set (HB.out) GB25.out : Below w.heap.size w w39)); clear HO_381000; clear HO_381001; clear BK380; clear HB; have HO_381000 := n0_; have HO_381001 := n1_; have BK380 := n2_; have HB := n3_; clear n0_ n1_ n2_ n3_; clear hg hw hp_; have hcz40_0 : w39.cell? ⟨gb380, 0, none⟩ = some (.slice Ao35 x381000_1.length co35) := (blk_cell BK380.out 0).trans rfl; have hcz40_1 : w39.cell? ⟨gb380, 1, none⟩ = some (.slice (some ⟨go25, 0, none⟩) x381001_1.length co25) := (blk_cell BK380.out 1).trans rfl; have hfz40_0 := blk_frozen BK380.out 0; have hfz40_1 := blk_frozen BK380.out 1) | (go_at_call 24; refine calls_of_args (args' := #[.int .i64 (wrap64 ((ji22) + (wrap64 (1 + (Int.tmod (Go.bits .and .i64 a1 65535) 8))))), .slice none 0 0, .agg #[.slice Ao35 x381000_1.length co35, .slice (some ⟨go25, 0, none⟩) y392.length co25]]) (by first | (rw [show y392.length = x381001_1.length from (Kd.R_reads' HO_381001.out).1.symm] <;> rfl) | rfl) ?_; (refine (valid_Check.calls k1 (wrap64 ((ji22) + (wrap64 (1 + (Int.tmod (Go.bits .and .i64 a1 65535) 8))))) _ _ ([] : List (List Int)) _ _ x381000_1 _ _ y392 t393 _ ?side1 ?side2 ?side3 ?side4 ?side5 ?side6 A30.out).mono ?_); (case side1 => exact Kd.C_nil _ _); (case side2 => exact Nat.le_refl _); (case side3 => repeat (first | exact (Kd.S_reads' HO_381000.out).2.2 | (with_reducible refine Kd.C_alloc ?_ _) | (with_reducible refine Kd.C_drewN ?_ _) | (with_reducible refine Kd.C_drew ?_))); (case side4 => exact (Kd.S_reads' HO_381000.out).2.1); (case side5 => repeat (first | exact (Kd.R_reads' HO_381001.out).2.2 | (with_reducible refine Kd.C_alloc ?_ _) | (with_reducible refine Kd.C_drewN ?_ _) | (with_reducible refine Kd.C_drew ?_))); (case side6 => rw [show y392.length = x381001_1.length from (Kd.R_reads' HO_381001.out).1.symm]; exact (Kd.R_reads' HO_381001.out).2.1); rintro e w41 ⟨rfl, hb⟩; have n0_ := Aside0.mk (Kd.S_below (by (with_reducible repeat (first | apply Kd.S_alloc | apply Kd.S_drewN | apply Kd.S_drew)); exact HO_381000.out) hb); have n1_ := Aside0.mk (Kd.R_below (by (with_reducible repeat (first | apply Kd.R_alloc | apply Kd.R_drewN | apply Kd.R_drew)); exact HO_381001.out) hb); have n2_ := Aside0.mk (blk_below (g := gb380) (o := .cells #[.slice Ao35 x381000_1.length co35, .slice (some ⟨go25, 0, none⟩) x381001_1.length co25] 25 (0, 0)) (by (with_reducible repeat (first | refine blk_drewN ?_ _ | refine blk_drew ?_ | refine blk_alloc ?_ _)); exact BK380.out) hb); have n3_ := Aside0.mk (below_step (by repeat (first | (with_reducible first | exact HB.out | apply below_alloc | apply pw_below_drewN | apply below_drew1 | refine below_set ?_ GE380.out) | exact HB.out)) hb); clear HO_381000; clear HO_381001; clear BK380; clear HB; have HO_381000 := n0_; have HO_381001 := n1_; have BK380 := n2_; have HB := n3_; clear n0_ n1_ n2_ n3_; (try clear hb); (try clear hb2); (try clear hk); (try clear hi)))
                  go_ret
                  exact ⟨by first | rfl | (simp [errW_none, errW_some] <;> rfl) | (simp only [← hji22]; first | rfl | (simp [errW_none, errW_some] <;> rfl)) | (simp [*, errW_none, errW_some] <;> rfl), by repeat (first | (with_reducible first | exact HB.out | apply below_alloc | apply pw_below_drewN | apply below_drew1 | refine below_set ?_ GE380.out) | exact HB.out)⟩
              · replace c28 := Bool.eq_false_iff.mpr c28
                subst c28
                have H1 : (some false) = some r := by rw [if_neg (show ¬ (false = true) by decide)] at H; exact H
                clear H
                have H := H1
                clear H1
                exact absurd ((Option.some.inj H).trans HT_.out) (by decide)
            · rw [if_neg c24] at H
              exact absurd H (by simp)
          · rw [if_neg c23] at H
            exact absurd H (by simp)

/-- THE ONE PURE STATEMENT of arboristlaw12_ValidRoots: yours. -/
def arboristlaw12_ValidRoots.Pure : Prop := ∀ (a0 : Int) (a1 : Int) (a2 : Int), (Lit.int .i64 a0).wf = true → (Lit.int .i64 a1).wf = true → (Lit.int .i64 a2).wf = true → ∃ k, arboristlaw12_ValidRoots.f k a0 a1 a2 = some true
theorem arboristlaw12_ValidRoots.walk (P : arboristlaw12_ValidRoots.Pure) (a0 : Int) (a1 : Int) (a2 : Int) (w : World) (w0 : (Lit.int .i64 a0).wf = true) (w1 : (Lit.int .i64 a1).wf = true) (w2 : (Lit.int .i64 a2).wf = true) :
    Calls Try.prog 8 #[.int .i64 a0, .int .i64 a1, .int .i64 a2] w fun e w' => e = .returned (.bool true) ∧ Below w.heap.size w w' := by
  obtain ⟨k, h⟩ := P a0 a1 a2 w0 w1 w2
  refine (arboristlaw12_ValidRoots.calls k a0 a1 a2 true w rfl h).mono ?_
  rintro e w' ⟨rfl, hd⟩
  exact ⟨rfl, hd⟩

end Go.Proofs.Ytpmfdggbccbfaaa.Pr
