-- Printed by a program of this session's own (wip/tools/pp.py) over the kit's print.py; Lean checks it.
import Derived.Test.YtefmpehjahfnpaaDoorPr0
import Derived.Test.YtefmpehjahfnpaaDoorPr9
import Derived.Test.YtefmpehjahfnpaaDoorPr22
namespace Go.Proofs.YtefmpehjahfnpaaDoor.Pr
open Go.RowKit Go.Proofs.YtefmpehjahfnpaaDoorW.PrintWords Go.Proofs.YtefmpehjahfnpaaDoorW.PrintLast Go.Proofs.YtefmpehjahfnpaaDoorW.PrintMore
attribute [local go_sem] max2_int min2_int max_two min_two max_three min_three max_four min_four   -- for this text's walks alone
set_option linter.unusedVariables false
set_option linter.unusedSimpArgs false

/-! ### arboristlaw09_OrderPlain: function 6 -/
mutual
def arboristlaw09_OrderPlain.l0 : Nat → Int → Bool → Bool → Int → List Int → Option (Bool)
  | 0, _, _, _, _, _ => none
  | k + 1, x0, x1, x5, x7, x467000 => if x7 < x0 then (arboristlaw09_OrderPlain.l1 k x0 x1 x5 x7 0 0 x467000) else (arboristlaw09_OrderPlain.l2 k x0 x5 1 x467000)
def arboristlaw09_OrderPlain.l1 : Nat → Int → Bool → Bool → Int → Int → Int → List Int → Option (Bool)
  | 0, _, _, _, _, _, _, _ => none
  | k + 1, x0, x1, x5, x7, x8, x9, x467000 => if x9 < x0 then (if x1 = true then (if x9 = x7 then (arboristlaw09_OrderPlain.l1 k x0 x1 x5 x7 x8 (wrap64 (x9 + 1)) x467000) else (if 0 ≤ (IntKind.u64.wrap (x9)) then (arboristlaw09_OrderPlain.l1 k x0 x1 x5 x7 (Go.bits .or .u64 x8 (shl .u64 1 (IntKind.u64.wrap (x9)))) (wrap64 (x9 + 1)) x467000) else (none))) else (arboristlaw09_OrderPlain.l1 k x0 x1 x5 x7 x8 (wrap64 (x9 + 1)) x467000)) else (if x467000.length < 17592186044416 then (arboristlaw09_OrderPlain.l0 k x0 x1 x5 (wrap64 (x7 + 1)) (x467000 ++ [x8])) else (none))
def arboristlaw09_OrderPlain.l2 : Nat → Int → Bool → Int → List Int → Option (Bool)
  | 0, _, _, _, _ => none
  | k + 1, x0, x5, x10, x467000 => if x10 ≤ 3 then ((order_Of.f k x467000 x10).bind fun bt470 => (if bt470.2 = 0 then (arboristlaw09_OrderPlain.j3 k x0 x5 x10 bt470.1 ((bt470.1.length : Int) != x0) x467000) else (arboristlaw09_OrderPlain.j3 k x0 x5 x10 bt470.1 true x467000))) else (some x5)
def arboristlaw09_OrderPlain.j3 : Nat → Int → Bool → Int → List Int → Bool → List Int → Option (Bool)
  | 0, _, _, _, _, _, _ => none
  | k + 1, x0, x5, x10, x11, x63, x467000 => if x63 = true then (some false) else (arboristlaw09_OrderPlain.l3 k x0 x5 x10 x11 0 x467000)
def arboristlaw09_OrderPlain.l3 : Nat → Int → Bool → Int → List Int → Int → List Int → Option (Bool)
  | 0, _, _, _, _, _, _ => none
  | k + 1, x0, x5, x10, x11, x13, x467000 => if x13 < x0 then (if x10 < 3 then (if 0 ≤ x13 then (if x13 < (x11.length : Int) then (if (rd x11 x13) = x13 then (if x10 = 3 then (if (rd x11 x13) = (wrap64 ((wrap64 (x0 - 1)) - x13)) then (arboristlaw09_OrderPlain.l3 k x0 x5 x10 x11 (wrap64 (x13 + 1)) x467000) else (some false)) else (arboristlaw09_OrderPlain.l3 k x0 x5 x10 x11 (wrap64 (x13 + 1)) x467000)) else (some false)) else (none)) else (none)) else (if x10 = 3 then (if 0 ≤ x13 then (if x13 < (x11.length : Int) then (if (rd x11 x13) = (wrap64 ((wrap64 (x0 - 1)) - x13)) then (arboristlaw09_OrderPlain.l3 k x0 x5 x10 x11 (wrap64 (x13 + 1)) x467000) else (some false)) else (none)) else (none)) else (arboristlaw09_OrderPlain.l3 k x0 x5 x10 x11 (wrap64 (x13 + 1)) x467000))) else (arboristlaw09_OrderPlain.l2 k x0 x5 (wrap64 (x10 + 1)) x467000)
end
def arboristlaw09_OrderPlain.f (k : Nat) (a0 : Int) (a1 : Bool) : Option (Bool) := (arboristlaw09_shown.f k).bind fun t465 => (arboristlaw09_OrderPlain.l0 k (Int.tmod (Go.bits .and .i64 a0 65535) 41) a1 t465 0 ([] : List Int))
theorem arboristlaw09_OrderPlain.mono_l : ∀ k, (∀ y0 y1 y2 y3 y4, LeO (arboristlaw09_OrderPlain.l0 k y0 y1 y2 y3 y4) (arboristlaw09_OrderPlain.l0 (k + 1) y0 y1 y2 y3 y4)) ∧ (∀ y0 y1 y2 y3 y4 y5 y6, LeO (arboristlaw09_OrderPlain.l1 k y0 y1 y2 y3 y4 y5 y6) (arboristlaw09_OrderPlain.l1 (k + 1) y0 y1 y2 y3 y4 y5 y6)) ∧ (∀ y0 y1 y2 y3, LeO (arboristlaw09_OrderPlain.l2 k y0 y1 y2 y3) (arboristlaw09_OrderPlain.l2 (k + 1) y0 y1 y2 y3)) ∧ (∀ y0 y1 y2 y3 y4 y5, LeO (arboristlaw09_OrderPlain.j3 k y0 y1 y2 y3 y4 y5) (arboristlaw09_OrderPlain.j3 (k + 1) y0 y1 y2 y3 y4 y5)) ∧ (∀ y0 y1 y2 y3 y4 y5, LeO (arboristlaw09_OrderPlain.l3 k y0 y1 y2 y3 y4 y5) (arboristlaw09_OrderPlain.l3 (k + 1) y0 y1 y2 y3 y4 y5))
  | 0 => ⟨fun _ _ _ _ _ r h => by simp [arboristlaw09_OrderPlain.l0] at h, fun _ _ _ _ _ _ _ r h => by simp [arboristlaw09_OrderPlain.l1] at h, fun _ _ _ _ r h => by simp [arboristlaw09_OrderPlain.l2] at h, fun _ _ _ _ _ _ r h => by simp [arboristlaw09_OrderPlain.j3] at h, fun _ _ _ _ _ _ r h => by simp [arboristlaw09_OrderPlain.l3] at h⟩
  | k + 1 => by
    obtain ⟨ih0, ih1, ih2, ih3, ih4⟩ := arboristlaw09_OrderPlain.mono_l k
    refine ⟨?_, ?_, ?_, ?_, ?_⟩
    all_goals intros
    all_goals (first | unfold arboristlaw09_OrderPlain.l0 | unfold arboristlaw09_OrderPlain.l1 | unfold arboristlaw09_OrderPlain.l2 | unfold arboristlaw09_OrderPlain.j3 | unfold arboristlaw09_OrderPlain.l3)
    all_goals repeat' first
    | (with_reducible exact ih0 _ _ _ _ _)
    | (with_reducible exact ih1 _ _ _ _ _ _ _)
    | (with_reducible exact ih2 _ _ _ _)
    | (with_reducible exact ih3 _ _ _ _ _ _)
    | (with_reducible exact ih4 _ _ _ _ _ _)
    | (with_reducible exact arboristlaw09_shown.mono _)
    | (with_reducible exact order_Of.mono _ _ _)
    | (with_reducible exact LeO.refl _)
    | (with_reducible exact LeO.none _)
    | (with_reducible refine LeO.ite ?_ ?_)
    | (with_reducible refine LeO.bind ?_ (fun _ => ?_))
    | exact ih0 _ _ _ _ _
    | exact ih1 _ _ _ _ _ _ _
    | exact ih2 _ _ _ _
    | exact ih3 _ _ _ _ _ _
    | exact ih4 _ _ _ _ _ _
    | exact arboristlaw09_shown.mono _
    | exact order_Of.mono _ _ _
    | exact LeO.none _
    | refine LeO.ite ?_ ?_
    | refine LeO.bind ?_ (fun _ => ?_)
theorem arboristlaw09_OrderPlain.mono : ∀ a0 a1 k, LeO (arboristlaw09_OrderPlain.f k a0 a1) (arboristlaw09_OrderPlain.f (k + 1) a0 a1) := by
  intro a0 a1 k
  obtain ⟨ih0, ih1, ih2, ih3, ih4⟩ := arboristlaw09_OrderPlain.mono_l k
  unfold arboristlaw09_OrderPlain.f
  repeat' first
      | (with_reducible exact ih0 _ _ _ _ _)
      | (with_reducible exact ih1 _ _ _ _ _ _ _)
      | (with_reducible exact ih2 _ _ _ _)
      | (with_reducible exact ih3 _ _ _ _ _ _)
      | (with_reducible exact ih4 _ _ _ _ _ _)
      | (with_reducible exact arboristlaw09_shown.mono _)
      | (with_reducible exact order_Of.mono _ _ _)
      | (with_reducible exact LeO.refl _)
      | (with_reducible exact LeO.none _)
      | (with_reducible refine LeO.ite ?_ ?_)
      | (with_reducible refine LeO.bind ?_ (fun _ => ?_))
      | exact ih0 _ _ _ _ _
      | exact ih1 _ _ _ _ _ _ _
      | exact ih2 _ _ _ _
      | exact ih3 _ _ _ _ _ _
      | exact ih4 _ _ _ _ _ _
      | exact arboristlaw09_shown.mono _
      | exact order_Of.mono _ _ _
      | exact LeO.none _
      | refine LeO.ite ?_ ?_
      | refine LeO.bind ?_ (fun _ => ?_)
set_option maxHeartbeats 8000000 in
set_option maxRecDepth 100000 in
theorem arboristlaw09_OrderPlain.calls (k : Nat) (a0 : Int) (a1 : Bool) (r : Bool) (w : World) (hTb : Tab64 w) (hT : r = true) (h : arboristlaw09_OrderPlain.f k a0 a1 = some r) :
    Calls Tryd.prog 6 #[.int .i64 a0, .bool a1] w fun e w' => e = .returned (.bool r) ∧ Below w.heap.size w w' := by
  have HTAB := Aside0.mk hTb
  clear hTb
  have HT_ := Aside0.mk (show r = true from hT)
  clear hT
  have hu32 := Tryd.underlying32
  have HB := Aside0.mk (Below.refl w.heap.size w)
  have H : ((arboristlaw09_shown.f k).bind fun t465 => (arboristlaw09_OrderPlain.l0 k (Int.tmod (Go.bits .and .i64 a0 65535) 41) a1 t465 0 ([] : List Int))) = some r := h
  clear h
  replace H := Option.bind_eq_some_iff.mp H
  obtain ⟨t465, A30, H⟩ := H
  replace H : (arboristlaw09_OrderPlain.l0 k (Int.tmod (Go.bits .and .i64 a0 65535) 41) a1 t465 0 ([] : List Int)) = some r := H
  have A3 := Aside0.mk A30
  clear A30
  have H' := Aside0.mk H
  clear H
  go_enter Tryd.func6, Tryd.ntmps6
  go_wp2_with (first | ((with_reducible refine gate_callee (f := 8) rfl ?_); refine goesL_ (some 14) rfl rfl Tryd.func8 (by kernel_rfl) rfl #[] rfl (by (try simp only [List.map_toArray, List.map_cons, List.map_nil]); first | done | rfl | (simp only [List.length_drop, List.length_take]; rfl)) ?_; (with_reducible refine (arboristlaw09_shown.calls (hTb := (by first | exact HTAB.out | exact tab_drewN HTAB.out _ | exact tab_below HTAB.out (by repeat (first | (with_reducible first | exact HB.out | apply below_alloc | apply pw_below_drewN | apply below_drew1 | refine below_set ?_ GE466.out) | exact HB.out)))) k  t465 _ A3.out).mono ?_); rintro e w4 ⟨rfl, hb⟩; refine ⟨_, rfl, ?_⟩; have n0_ := Aside0.mk (below_step (by repeat (first | (with_reducible first | exact HB.out | apply below_alloc | apply pw_below_drewN | apply below_drew1) | exact HB.out)) hb); clear HB; have HB := n0_; clear n0_; (try clear hb); (try clear hb2); (try clear hk); (try clear hi)) | ((with_reducible refine gate_dst (N := 6) rfl ?_); (try (refine gate_guard (by rfl) ?_; dsimp only)); refine box_event ?hg (N := 6) ?hd (cs := #[.slice none 0 0]) (t := 32) ?hr ?_; (case hd => rfl); (case hg => rfl); (case hr => first | (go_simp; done) | (go_simp; rfl)); intro gb466 hg w5 hbox hb; have n0_ := Aside0.mk (below_step (by repeat (first | (with_reducible first | exact HB.out | apply below_alloc | apply pw_below_drewN | apply below_drew1) | exact HB.out)) hb); have n1_ := Aside0.mk (hbox); have n2_ := Aside0.mk ((by rw [hg]; exact (below_size (by repeat (first | (with_reducible first | exact HB.out | apply below_alloc | apply pw_below_drewN | apply below_drew1) | exact HB.out))) : w.heap.size ≤ gb466)); have n3_ := Aside0.mk ((by rw [hg]; exact (below_size (by repeat (first | (with_reducible first | exact HB.out | apply below_alloc | apply pw_below_drewN | apply below_drew1) | exact HB.out))) : w.heap.size ≤ gb466)); clear HB; have HB := n0_; have BK466 := n1_; have GW466 := n2_; have GE466 := n3_; clear n0_ n1_ n2_ n3_; clear hb hbox hg; have hcz6_0 : w5.cell? ⟨gb466, 0, none⟩ = some (.slice none 0 0) := (blk_cell BK466.out 0).trans rfl; have hfz6_0 := blk_frozen BK466.out 0))
  go_loopg [7] k (fun kq v7 w' => ∃ (x7_1 : Int) (x467000_1 : List Int) (u467000 : Value), v7 = .int .i64 x7_1 ∧ Aside0 (arboristlaw09_OrderPlain.l0 kq (Int.tmod (Go.bits .and .i64 a0 65535) 41) a1 t465 x7_1 x467000_1 = some r) ∧ Aside0 (kq ≤ k) ∧ Aside0 (Kd.R (Kd.int .u64) 44 w' w.heap.size (fun _ => True) u467000 x467000_1) ∧ Aside0 (w'.heap[gb466]? = some (.cells #[u467000] 32 (0, 0))) ∧ Aside0 (Below w.heap.size w w'))
  case atStart => exact ⟨(0), (([] : List Int)), (.slice none 0 0), (by first | rfl | (simp; done) | (simp [*]; done)), H', ⟨Nat.le_refl _⟩, ⟨by first | exact Kd.R_nil _ _ _ _ _ | exact Kd.N_nil _ _ _ _ _ | exact Kd.V_nil _ _ _ _ _ | exact Kd.Q_nil _ _ _ _ _ | exact Kd.S_nil _ _ _ _ _⟩, ⟨by (with_reducible repeat (first | refine blk_drewN ?_ _ | refine blk_drew ?_ | refine blk_alloc ?_ _)); refine blk_put (cs := #[.slice none 0 0]) ?_ 0 _ rfl; (with_reducible repeat (first | refine blk_drewN ?_ _ | refine blk_drew ?_ | refine blk_alloc ?_ _)); exact BK466.out⟩, ⟨by repeat (first | (with_reducible first | exact HB.out | apply below_alloc | apply pw_below_drewN | apply below_drew1 | refine below_set ?_ GE466.out) | exact HB.out)⟩⟩
  case round =>
    clear H'
    try clear p2
    try clear c6
    try clear hcz6_0
    try clear hfz6_0
    obtain ⟨x7_1, x467000_1, u467000, rfl, HA, HK1, HO_467000, BK466, HB⟩ := hrel
    cases gk with
    | zero => exact absurd HA.out (by simp [arboristlaw09_OrderPlain.l0])
    | succ k1 =>
      have H := HA.out
      clear HA
      simp only [arboristlaw09_OrderPlain.l0] at H
      by_cases c7 : x7_1 < (Int.tmod (Go.bits .and .i64 a0 65535) 41)
      · rw [if_pos c7] at H
        have c7b0 : decide (x7_1 < (Int.tmod (Go.bits .and .i64 a0 65535) 41)) = true := decide_eq_true c7
        clear c7
        have H' := Aside0.mk H
        clear H
        go_wp2
        go_loopg [8, 9] k1 (fun kq v8 v9 w' => ∃ (x8_2 : Int) (x9_2 : Int), v8 = .int .u64 x8_2 ∧ v9 = .int .i64 x9_2 ∧ Aside0 (arboristlaw09_OrderPlain.l1 kq (Int.tmod (Go.bits .and .i64 a0 65535) 41) a1 t465 x7_1 x8_2 x9_2 x467000_1 = some r) ∧ Aside0 (kq ≤ k1) ∧ Aside0 (Kd.R (Kd.int .u64) 44 w' w.heap.size (fun _ => True) u467000 x467000_1) ∧ Aside0 (w'.heap[gb466]? = some (.cells #[u467000] 32 (0, 0))) ∧ Aside0 (Below w.heap.size w w'))
        case atStart => exact ⟨(0), (0), (by first | rfl | (simp; done) | (simp [*]; done)), (by first | rfl | (simp; done) | (simp [*]; done)), H', ⟨Nat.le_refl _⟩, ⟨by (with_reducible repeat (first | apply Kd.R_alloc | apply Kd.R_drewN | apply Kd.R_drew)); exact HO_467000.out⟩, ⟨by (with_reducible repeat (first | refine blk_drewN ?_ _ | refine blk_drew ?_ | refine blk_alloc ?_ _)); exact BK466.out⟩, ⟨by repeat (first | (with_reducible first | exact HB.out | apply below_alloc | apply pw_below_drewN | apply below_drew1 | refine below_set ?_ GE466.out) | exact HB.out)⟩⟩
        case round =>
          clear H'
          try clear p2
          try clear c6
          try clear c7
          try clear c7b0
          try clear hcz6_0
          try clear hfz6_0
          try clear p2
          obtain ⟨x8_2, x9_2, rfl, rfl, HA, HK2, HO_467000, BK466, HB⟩ := hrel
          cases gk with
          | zero => exact absurd HA.out (by simp [arboristlaw09_OrderPlain.l1])
          | succ k2 =>
            have H := HA.out
            clear HA
            simp only [arboristlaw09_OrderPlain.l1] at H
            by_cases c8 : x9_2 < (Int.tmod (Go.bits .and .i64 a0 65535) 41)
            · rw [if_pos c8] at H
              have c8b0 : decide (x9_2 < (Int.tmod (Go.bits .and .i64 a0 65535) 41)) = true := decide_eq_true c8
              clear c8
              by_cases c9 : a1 = true
              · subst c9
                have H1 : (if x9_2 = x7_1 then (arboristlaw09_OrderPlain.l1 k2 (Int.tmod (Go.bits .and .i64 a0 65535) 41) true t465 x7_1 x8_2 (wrap64 (x9_2 + 1)) x467000_1) else (if 0 ≤ (IntKind.u64.wrap (x9_2)) then (arboristlaw09_OrderPlain.l1 k2 (Int.tmod (Go.bits .and .i64 a0 65535) 41) true t465 x7_1 (Go.bits .or .u64 x8_2 (shl .u64 1 (IntKind.u64.wrap (x9_2)))) (wrap64 (x9_2 + 1)) x467000_1) else (none))) = some r := by rw [if_pos rfl] at H; exact H
                clear H
                have H := H1
                clear H1
                by_cases c10 : x9_2 = x7_1
                · rw [if_pos c10] at H
                  have c10b0 : (x9_2 == x7_1) = true := beq_iff_eq.mpr c10
                  have c10b1 : (x9_2 != x7_1) = false := bne_eq_false_iff_eq.mpr c10
                  clear c10
                  have H' := Aside0.mk H
                  clear H
                  go_wp2
                  go_roundg k2
                  case measure => have := HK1.out; have := HK2.out; omega
                  case rel => exact ⟨(x8_2), (wrap64 (x9_2 + 1)), (by first | rfl | (simp; done) | (simp [*]; done)), (by first | rfl | (simp; done) | (simp [*]; done)), H', ⟨by have := HK1.out; have := HK2.out; omega⟩, ⟨by (with_reducible repeat (first | apply Kd.R_alloc | apply Kd.R_drewN | apply Kd.R_drew)); exact HO_467000.out⟩, ⟨by (with_reducible repeat (first | refine blk_drewN ?_ _ | refine blk_drew ?_ | refine blk_alloc ?_ _)); exact BK466.out⟩, ⟨by repeat (first | (with_reducible first | exact HB.out | apply below_alloc | apply pw_below_drewN | apply below_drew1 | refine below_set ?_ GE466.out) | exact HB.out)⟩⟩
                · rw [if_neg c10] at H
                  have c10b0 : (x9_2 == x7_1) = false := beq_eq_false_iff_ne.mpr c10
                  have c10b1 : (x9_2 != x7_1) = true := bne_iff_ne.mpr c10
                  obtain ⟨ji11, hji11⟩ : ∃ j_ : Int, (IntKind.u64.wrap (x9_2)) = j_ := ⟨_, rfl⟩
                  replace H : (if 0 ≤ (ji11) then (arboristlaw09_OrderPlain.l1 k2 (Int.tmod (Go.bits .and .i64 a0 65535) 41) true t465 x7_1 (Go.bits .or .u64 x8_2 (shl .u64 1 (ji11))) (wrap64 (x9_2 + 1)) x467000_1) else (none)) = some r := by first | (rw [hji11] at H; exact H) | (simp only [hji11] at H ⊢; exact H)
                  by_cases c12 : 0 ≤ (ji11)
                  · rw [if_pos c12] at H
                    have c12b0 := eq_true c12
                    have c12b1 : decide (0 ≤ (ji11)) = true := decide_eq_true c12
                    clear c12
                    obtain ⟨ji13, hji13⟩ : ∃ j_ : Int, (shl .u64 1 (ji11)) = j_ := ⟨_, rfl⟩
                    replace H : (arboristlaw09_OrderPlain.l1 k2 (Int.tmod (Go.bits .and .i64 a0 65535) 41) true t465 x7_1 (Go.bits .or .u64 x8_2 (ji13)) (wrap64 (x9_2 + 1)) x467000_1) = some r := by first | (rw [hji13] at H; exact H) | (simp only [hji13] at H ⊢; exact H)
                    have hji13_ : (IntKind.u64.wrap (1 * 2 ^ min (ji11).toNat 64)) = ji13 := hji13
                    have hji13z : (ji11) ≤ 64 → (IntKind.u64.wrap (1 * 2 ^ (ji11).toNat)) = ji13 := shl_small hji13
                    have hji13u : (IntKind.u64.wrap (2 ^ min (ji11).toNat 64)) = ji13 := by have h_ := hji13_; rw [Int.one_mul] at h_; exact h_
                    have hji13v : (ji11) ≤ 64 → (IntKind.u64.wrap (2 ^ (ji11).toNat)) = ji13 := fun hle_ => by have h_ := hji13z hle_; rw [Int.one_mul] at h_; exact h_
                    have H' := Aside0.mk H
                    clear H
                    go_wp2
                    go_roundg k2
                    case measure => have := HK1.out; have := HK2.out; omega
                    case rel => exact ⟨(Go.bits .or .u64 x8_2 (ji13)), (wrap64 (x9_2 + 1)), (by first | rfl | (simp; done) | (simp only [← hji13] <;> (first | rfl | simp)) | (simp [*]; done)), (by first | rfl | (simp; done) | (simp [*]; done)), H', ⟨by have := HK1.out; have := HK2.out; omega⟩, ⟨by (with_reducible repeat (first | apply Kd.R_alloc | apply Kd.R_drewN | apply Kd.R_drew)); exact HO_467000.out⟩, ⟨by (with_reducible repeat (first | refine blk_drewN ?_ _ | refine blk_drew ?_ | refine blk_alloc ?_ _)); exact BK466.out⟩, ⟨by repeat (first | (with_reducible first | exact HB.out | apply below_alloc | apply pw_below_drewN | apply below_drew1 | refine below_set ?_ GE466.out) | exact HB.out)⟩⟩
                  · rw [if_neg c12] at H
                    exact absurd H (by simp)
              · replace c9 := Bool.eq_false_iff.mpr c9
                subst c9
                have H1 : (arboristlaw09_OrderPlain.l1 k2 (Int.tmod (Go.bits .and .i64 a0 65535) 41) false t465 x7_1 x8_2 (wrap64 (x9_2 + 1)) x467000_1) = some r := by rw [if_neg (show ¬ (false = true) by decide)] at H; exact H
                clear H
                have H := H1
                clear H1
                have H' := Aside0.mk H
                clear H
                go_wp2
                go_roundg k2
                case measure => have := HK1.out; have := HK2.out; omega
                case rel => exact ⟨(x8_2), (wrap64 (x9_2 + 1)), (by first | rfl | (simp; done) | (simp [*]; done)), (by first | rfl | (simp; done) | (simp [*]; done)), H', ⟨by have := HK1.out; have := HK2.out; omega⟩, ⟨by (with_reducible repeat (first | apply Kd.R_alloc | apply Kd.R_drewN | apply Kd.R_drew)); exact HO_467000.out⟩, ⟨by (with_reducible repeat (first | refine blk_drewN ?_ _ | refine blk_drew ?_ | refine blk_alloc ?_ _)); exact BK466.out⟩, ⟨by repeat (first | (with_reducible first | exact HB.out | apply below_alloc | apply pw_below_drewN | apply below_drew1 | refine below_set ?_ GE466.out) | exact HB.out)⟩⟩
            · rw [if_neg c8] at H
              have c8b0 : decide (x9_2 < (Int.tmod (Go.bits .and .i64 a0 65535) 41)) = false := decide_eq_false c8
              clear c8
              by_cases c14 : x467000_1.length < 17592186044416
              · rw [if_pos c14] at H
                have LMc14 := Aside0.mk c14
                clear c14
                obtain ⟨y467, hy467⟩ : ∃ y_ : List Int, y_ = (x467000_1 ++ [x8_2]) := ⟨_, rfl⟩
                replace H : (arboristlaw09_OrderPlain.l0 k2 (Int.tmod (Go.bits .and .i64 a0 65535) 41) a1 t465 (wrap64 (x7_1 + 1)) y467) = some r := by first | (rw [hy467]; with_reducible exact H) | (have H2_ := (Option.bind_some _ _).symm.trans H; rw [hy467]; with_reducible exact H2_) | (have H2_ := (Option.bind_some _ _).symm.trans H; with_reducible exact H2_) | with_reducible exact H | (rw [hy467]; exact H) | exact H
                have Ny467 := Aside0.mk hy467
                clear hy467
                have H' := Aside0.mk H
                clear H
                have hcz15_0 : wr.cell? ⟨gb466, 0, none⟩ = some (u467000) := (blk_cell BK466.out 0).trans rfl
                have hfz15_0 := blk_frozen BK466.out 0
                go_wp2_with (first | ((with_reducible refine gate_builtin (b := .append) (xs := #[.tmp 41, .tmp 43]) rfl ?_); (try (refine gate_guard (by rfl) ?_; dsimp only)); at_builtin; refine Kd.R_append (Kd.int .u64) (w0 := w) w.heap.size rfl (.tmp 41) (.tmp 43) 30 44 (.int .u64 0) 8 rfl Tryd.underlying30 info44 rfl (by decide) (by omega) u467000 x467000_1 x8_2 [.int .u64 x8_2] (fun _ => True) (fun _ => False) rfl rfl ?aP (fun _ hk => hk.elim) ?aF ?aO ?aB ?aS ?aL ?_; (case aP => exact rfl); (case aB => exact (by repeat (first | (with_reducible first | exact HB.out | apply below_alloc | apply pw_below_drewN | apply below_drew1 | refine below_set ?_ GE466.out) | exact HB.out))); (case aF => exact (fun _ _ => trivial)); (case aO => exact (by (with_reducible repeat (first | apply Kd.R_alloc | apply Kd.R_drewN | apply Kd.R_drew)); exact HO_467000.out)); (case aS => exact (below_size (by repeat (first | (with_reducible first | exact HB.out | apply below_alloc | apply pw_below_drewN | apply below_drew1 | refine below_set ?_ GE466.out) | exact HB.out)))); (case aL => have := LMc14.out; omega); intro v468 w16 ho hb hg hat; rw [← Ny467.out] at ho; have n0_ := Aside0.mk (blk_grown (g := gb466) (o := .cells #[u467000] 32 (0, 0)) (by (with_reducible repeat (first | refine blk_drewN ?_ _ | refine blk_drew ?_ | refine blk_alloc ?_ _)); exact BK466.out) hg (Kd.R_ne HO_467000.out BK466.out (by decide))); have n1_ := Aside0.mk (hb); have n2_ := Aside0.mk (ho); clear BK466; clear HB; clear HO_467000; have BK466 := n0_; have HB := n1_; have HO469 := n2_; clear n0_ n1_ n2_; clear ho hb hg hat; obtain ⟨Ao17, co17, eo17⟩ := Kd.R_slice HO469.out; subst eo17; have hcz18_0 : w16.cell? ⟨gb466, 0, none⟩ = some (u467000) := (blk_cell BK466.out 0).trans rfl; have hfz18_0 := blk_frozen BK466.out 0))
                go_roundg k2
                case measure => have := HK1.out; have := HK2.out; omega
                case rel => exact ⟨(wrap64 (x7_1 + 1)), (y467), (.slice Ao17 y467.length co17), (by first | rfl | (simp; done) | (simp [*]; done)), H', ⟨by have := HK1.out; have := HK2.out; omega⟩, ⟨by (with_reducible repeat (first | apply Kd.R_alloc | apply Kd.R_drewN | apply Kd.R_drew)); exact Kd.R_mono (Kd.R_far (p := ⟨gb466, 0, none⟩) (Kd.R_types HO469.out BK466.out (by decide)) (fun _ hk => hk.2) (.slice Ao17 y467.length co17)) (fun _ hk => trivial)⟩, ⟨by (with_reducible repeat (first | refine blk_drewN ?_ _ | refine blk_drew ?_ | refine blk_alloc ?_ _)); refine blk_put (cs := #[u467000]) ?_ 0 _ rfl; (with_reducible repeat (first | refine blk_drewN ?_ _ | refine blk_drew ?_ | refine blk_alloc ?_ _)); exact BK466.out⟩, ⟨by repeat (first | (with_reducible first | exact HB.out | apply below_alloc | apply pw_below_drewN | apply below_drew1 | refine below_set ?_ GE466.out) | exact HB.out)⟩⟩
              · rw [if_neg c14] at H
                exact absurd H (by simp)
      · rw [if_neg c7] at H
        have c7b0 : decide (x7_1 < (Int.tmod (Go.bits .and .i64 a0 65535) 41)) = false := decide_eq_false c7
        clear c7
        have H' := Aside0.mk H
        clear H
        go_wp2
        go_loopg [10] k1 (fun kq v10 w' => ∃ (x10_2 : Int), v10 = .int .i64 x10_2 ∧ Aside0 (arboristlaw09_OrderPlain.l2 kq (Int.tmod (Go.bits .and .i64 a0 65535) 41) t465 x10_2 x467000_1 = some r) ∧ Aside0 (kq ≤ k1) ∧ Aside0 (Kd.R (Kd.int .u64) 44 w' w.heap.size (fun _ => True) u467000 x467000_1) ∧ Aside0 (w'.heap[gb466]? = some (.cells #[u467000] 32 (0, 0))) ∧ Aside0 (Below w.heap.size w w'))
        case atStart => exact ⟨(1), (by first | rfl | (simp; done) | (simp [*]; done)), H', ⟨Nat.le_refl _⟩, ⟨by (with_reducible repeat (first | apply Kd.R_alloc | apply Kd.R_drewN | apply Kd.R_drew)); exact HO_467000.out⟩, ⟨by (with_reducible repeat (first | refine blk_drewN ?_ _ | refine blk_drew ?_ | refine blk_alloc ?_ _)); exact BK466.out⟩, ⟨by repeat (first | (with_reducible first | exact HB.out | apply below_alloc | apply pw_below_drewN | apply below_drew1 | refine below_set ?_ GE466.out) | exact HB.out)⟩⟩
        case round =>
          clear H'
          try clear c1
          try clear p2
          try clear c6
          try clear p6
          try clear c7
          try clear c7b0
          try clear c8
          try clear c8b0
          try clear c9
          try clear c10
          try clear c10b0
          try clear c10b1
          try clear c12
          try clear c12b0
          try clear c12b1
          try clear c14
          try clear hcz15_0
          try clear hcz18_0
          try clear hcz6_0
          try clear hfz15_0
          try clear hfz18_0
          try clear hfz6_0
          try clear p2
          obtain ⟨x10_2, rfl, HA, HK2, HO_467000, BK466, HB⟩ := hrel
          cases gk with
          | zero => exact absurd HA.out (by simp [arboristlaw09_OrderPlain.l2])
          | succ k2 =>
            have H := HA.out
            clear HA
            simp only [arboristlaw09_OrderPlain.l2] at H
            by_cases c19 : x10_2 ≤ 3
            · rw [if_pos c19] at H
              have c19b0 : decide (x10_2 ≤ 3) = true := decide_eq_true c19
              clear c19
              replace H := Option.bind_eq_some_iff.mp H
              obtain ⟨⟨t470, t473⟩, A200, H⟩ := H
              replace H : (if t473 = 0 then (arboristlaw09_OrderPlain.j3 k2 (Int.tmod (Go.bits .and .i64 a0 65535) 41) t465 x10_2 t470 ((t470.length : Int) != (Int.tmod (Go.bits .and .i64 a0 65535) 41)) x467000_1) else (arboristlaw09_OrderPlain.j3 k2 (Int.tmod (Go.bits .and .i64 a0 65535) 41) t465 x10_2 t470 true x467000_1)) = some r := H
              have A20 := Aside0.mk A200
              clear A200
              have HC21 := Aside0.mk H
              clear H
              have hcz22_0 : wr.cell? ⟨gb466, 0, none⟩ = some (u467000) := (blk_cell BK466.out 0).trans rfl
              have hfz22_0 := blk_frozen BK466.out 0
              obtain ⟨Ao23, co23, eo23⟩ := Kd.R_slice HO_467000.out
              subst eo23
              go_upto_region 18 with (first | ((with_reducible refine gate_callee (f := 10) rfl ?_); refine goesL_ (some 53) rfl rfl Tryd.func10 (by kernel_rfl) rfl #[.agg #[.slice Ao23 x467000_1.length co23], .int .i64 x10_2] rfl (by (try simp only [List.map_toArray, List.map_cons, List.map_nil]); first | done | rfl | (simp only [List.length_drop, List.length_take]; rfl)) ?_; (with_reducible refine (order_Of.calls (hTb := (by first | exact HTAB.out | exact tab_drewN HTAB.out _ | exact tab_below HTAB.out (by repeat (first | (with_reducible first | exact HB.out | apply below_alloc | apply pw_below_drewN | apply below_drew1 | refine below_set ?_ GE466.out) | exact HB.out)))) k2 _ _ x467000_1 x10_2 t470 t473 _ ?side1 ?side2 A20.out).mono ?_); (case side1 => repeat (first | exact (Kd.R_reads' HO_467000.out).2.2 | (with_reducible refine Kd.C_alloc ?_ _) | (with_reducible refine Kd.C_drewN ?_ _) | (with_reducible refine Kd.C_drew ?_))); (case side2 => exact (Kd.R_reads' HO_467000.out).2.1); rintro e w24 ⟨v471, rfl, ho0, hb⟩; refine ⟨_, rfl, ?_⟩; have n0_ := Aside0.mk (Kd.R_below (by (with_reducible repeat (first | apply Kd.R_alloc | apply Kd.R_drewN | apply Kd.R_drew)); exact HO_467000.out) hb); have n1_ := Aside0.mk (Kd.R_lower ho0 (below_size (by repeat (first | (with_reducible first | exact HB.out | apply below_alloc | apply pw_below_drewN | apply below_drew1 | refine below_set ?_ GE466.out) | exact HB.out)))); have n2_ := Aside0.mk (blk_below (g := gb466) (o := .cells #[.slice Ao23 x467000_1.length co23] 32 (0, 0)) (by (with_reducible repeat (first | refine blk_drewN ?_ _ | refine blk_drew ?_ | refine blk_alloc ?_ _)); exact BK466.out) hb); have n3_ := Aside0.mk (below_step (by repeat (first | (with_reducible first | exact HB.out | apply below_alloc | apply pw_below_drewN | apply below_drew1 | refine below_set ?_ GE466.out) | exact HB.out)) hb); clear HO_467000; clear BK466; clear HB; have HO_467000 := n0_; have HO472 := n1_; have BK466 := n2_; have HB := n3_; clear n0_ n1_ n2_ n3_; (try clear hb); (try clear hb2); (try clear hk); (try clear hi); (try clear ho0)))
              (try simp only [Act.put, List.setIfInBounds_toArray, List.set_cons_zero, List.set_cons_succ])
              go_cut [63] (fun v63 wc => ∃ (kq : Nat) (x63_20 : Bool), v63 = .bool x63_20 ∧ Aside0 (arboristlaw09_OrderPlain.j3 kq (Int.tmod (Go.bits .and .i64 a0 65535) 41) t465 x10_2 t470 x63_20 x467000_1 = some r) ∧ Aside0 (kq ≤ k2) ∧ Aside0 (Kd.R (Kd.int .i64) 3 wc w.heap.size (fun _ => True) v471 t470) ∧ Aside0 (Kd.R (Kd.int .u64) 44 wc w.heap.size (fun _ => True) (.slice Ao23 x467000_1.length co23) x467000_1) ∧ Aside0 (wc.heap[gb466]? = some (.cells #[(.slice Ao23 x467000_1.length co23)] 32 (0, 0))) ∧ Aside0 (Below w.heap.size w wc))
              case first =>
                have H := HC21.out
                clear HC21
                by_cases c25 : t473 = 0
                · rw [if_pos c25] at H
                  have c25b0 : (t473 == 0) = true := beq_iff_eq.mpr c25
                  have c25b1 : (t473 != 0) = false := bne_eq_false_iff_eq.mpr c25
                  clear c25
                  (first | rw [c25b0] | (simp only [i64_w, i32_w]; rw [c25b0]) | skip)
                  have H' := Aside0.mk H
                  clear H
                  obtain ⟨Ao26, co26, eo26⟩ := Kd.R_slice HO472.out
                  subst eo26
                  go_wp2
                  go_meet
                  case rel => exact ⟨_, (((t470.length : Int) != (Int.tmod (Go.bits .and .i64 a0 65535) 41))), (by first | rfl | (simp; done) | (simp [*]; done)), H', ⟨by have := HK1.out; have := HK2.out; first | omega | exact Nat.le_refl _⟩, ⟨by (with_reducible repeat (first | apply Kd.R_alloc | apply Kd.R_drewN | apply Kd.R_drew)); exact HO472.out⟩, ⟨by (with_reducible repeat (first | apply Kd.R_alloc | apply Kd.R_drewN | apply Kd.R_drew)); exact HO_467000.out⟩, ⟨by (with_reducible repeat (first | refine blk_drewN ?_ _ | refine blk_drew ?_ | refine blk_alloc ?_ _)); exact BK466.out⟩, ⟨by repeat (first | (with_reducible first | exact HB.out | apply below_alloc | apply pw_below_drewN | apply below_drew1 | refine below_set ?_ GE466.out) | exact HB.out)⟩⟩
                · rw [if_neg c25] at H
                  have c25b0 : (t473 == 0) = false := beq_eq_false_iff_ne.mpr c25
                  have c25b1 : (t473 != 0) = true := bne_iff_ne.mpr c25
                  (first | rw [c25b0] | (simp only [i64_w, i32_w]; rw [c25b0]) | skip)
                  have H' := Aside0.mk H
                  clear H
                  go_wp2
                  go_meet
                  case rel => exact ⟨_, (true), (by first | rfl | (simp; done) | (simp [*]; done)), H', ⟨by have := HK1.out; have := HK2.out; first | omega | exact Nat.le_refl _⟩, ⟨by (with_reducible repeat (first | apply Kd.R_alloc | apply Kd.R_drewN | apply Kd.R_drew)); exact HO472.out⟩, ⟨by (with_reducible repeat (first | apply Kd.R_alloc | apply Kd.R_drewN | apply Kd.R_drew)); exact HO_467000.out⟩, ⟨by (with_reducible repeat (first | refine blk_drewN ?_ _ | refine blk_drew ?_ | refine blk_alloc ?_ _)); exact BK466.out⟩, ⟨by repeat (first | (with_reducible first | exact HB.out | apply below_alloc | apply pw_below_drewN | apply below_drew1 | refine below_set ?_ GE466.out) | exact HB.out)⟩⟩
              case rest =>
                clear HC21
                try clear c1
                try clear c2
                try clear p2
                try clear c6
                try clear p6
                try clear c7
                try clear c7b0
                try clear c8
                try clear c8b0
                try clear c9
                try clear c10
                try clear c10b0
                try clear c10b1
                try clear c12
                try clear c12b0
                try clear c12b1
                try clear c14
                try clear c19
                try clear c19b0
                try clear c25
                try clear c25b0
                try clear c25b1
                try clear hcz15_0
                try clear hcz18_0
                try clear hcz22_0
                try clear hcz6_0
                try clear hfz15_0
                try clear hfz18_0
                try clear hfz22_0
                try clear hfz6_0
                try clear p2
                try clear p6
                obtain ⟨kq, x63_20, rfl, HA, HJ20, HO_11, HO_467000, BK466, HB⟩ := hcut
                cases kq with
                | zero => exact absurd HA.out (by simp [arboristlaw09_OrderPlain.j3])
                | succ kj20 =>
                  have H := HA.out
                  clear HA
                  simp only [arboristlaw09_OrderPlain.j3] at H
                  by_cases c27 : x63_20 = true
                  · subst c27
                    have H1 : (some false) = some r := by rw [if_pos rfl] at H; exact H
                    clear H
                    have H := H1
                    clear H1
                    exact absurd ((Option.some.inj H).trans HT_.out) (by decide)
                  · replace c27 := Bool.eq_false_iff.mpr c27
                    subst c27
                    have H1 : (arboristlaw09_OrderPlain.l3 kj20 (Int.tmod (Go.bits .and .i64 a0 65535) 41) t465 x10_2 t470 0 x467000_1) = some r := by rw [if_neg (show ¬ (false = true) by decide)] at H; exact H
                    clear H
                    have H := H1
                    clear H1
                    have H' := Aside0.mk H
                    clear H
                    go_wp2
                    go_loopg [13] kj20 (fun kq v13 w' => ∃ (x13_4 : Int), v13 = .int .i64 x13_4 ∧ Aside0 (arboristlaw09_OrderPlain.l3 kq (Int.tmod (Go.bits .and .i64 a0 65535) 41) t465 x10_2 t470 x13_4 x467000_1 = some r) ∧ Aside0 (kq ≤ kj20) ∧ Aside0 (Kd.R (Kd.int .i64) 3 w' w.heap.size (fun _ => True) v471 t470) ∧ Aside0 (Kd.R (Kd.int .u64) 44 w' w.heap.size (fun _ => True) (.slice Ao23 x467000_1.length co23) x467000_1) ∧ Aside0 (w'.heap[gb466]? = some (.cells #[(.slice Ao23 x467000_1.length co23)] 32 (0, 0))) ∧ Aside0 (Below w.heap.size w w'))
                    case atStart => exact ⟨(0), (by first | rfl | (simp; done) | (simp [*]; done)), H', ⟨Nat.le_refl _⟩, ⟨by (with_reducible repeat (first | apply Kd.R_alloc | apply Kd.R_drewN | apply Kd.R_drew)); exact HO_11.out⟩, ⟨by (with_reducible repeat (first | apply Kd.R_alloc | apply Kd.R_drewN | apply Kd.R_drew)); exact HO_467000.out⟩, ⟨by (with_reducible repeat (first | refine blk_drewN ?_ _ | refine blk_drew ?_ | refine blk_alloc ?_ _)); exact BK466.out⟩, ⟨by repeat (first | (with_reducible first | exact HB.out | apply below_alloc | apply pw_below_drewN | apply below_drew1 | refine below_set ?_ GE466.out) | exact HB.out)⟩⟩
                    case round =>
                      clear H'
                      try clear c1
                      try clear c2
                      try clear p2
                      try clear c6
                      try clear p6
                      try clear c7
                      try clear c7b0
                      try clear c8
                      try clear c8b0
                      try clear c9
                      try clear c10
                      try clear c10b0
                      try clear c10b1
                      try clear c12
                      try clear c12b0
                      try clear c12b1
                      try clear c14
                      try clear c19
                      try clear c19b0
                      try clear c25
                      try clear c25b0
                      try clear c25b1
                      try clear c27
                      try clear hcz15_0
                      try clear hcz18_0
                      try clear hcz22_0
                      try clear hcz6_0
                      try clear hfz15_0
                      try clear hfz18_0
                      try clear hfz22_0
                      try clear hfz6_0
                      try clear p2
                      try clear p6
                      obtain ⟨x13_4, rfl, HA, HK4, HO_11, HO_467000, BK466, HB⟩ := hrel
                      cases gk with
                      | zero => exact absurd HA.out (by simp [arboristlaw09_OrderPlain.l3])
                      | succ k4 =>
                        have H := HA.out
                        clear HA
                        simp only [arboristlaw09_OrderPlain.l3] at H
                        by_cases c28 : x13_4 < (Int.tmod (Go.bits .and .i64 a0 65535) 41)
                        · rw [if_pos c28] at H
                          have c28b0 : decide (x13_4 < (Int.tmod (Go.bits .and .i64 a0 65535) 41)) = true := decide_eq_true c28
                          clear c28
                          by_cases c29 : x10_2 < 3
                          · rw [if_pos c29] at H
                            have c29b0 : decide (x10_2 < 3) = true := decide_eq_true c29
                            clear c29
                            by_cases c30 : 0 ≤ x13_4
                            · rw [if_pos c30] at H
                              have c30b0 : decide (0 ≤ x13_4) = true := decide_eq_true c30
                              clear c30
                              by_cases c31 : x13_4 < (t470.length : Int)
                              · rw [if_pos c31] at H
                                have c31b0 : decide (x13_4 < (t470.length : Int)) = true := decide_eq_true c31
                                clear c31
                                by_cases c32 : (rd t470 x13_4) = x13_4
                                · rw [if_pos c32] at H
                                  have c32b0 : ((rd t470 x13_4) == x13_4) = true := beq_iff_eq.mpr c32
                                  have c32b1 : ((rd t470 x13_4) != x13_4) = false := bne_eq_false_iff_eq.mpr c32
                                  clear c32
                                  by_cases c33 : x10_2 = 3
                                  · rw [if_pos c33] at H
                                    have c33b0 : (x10_2 == 3) = true := beq_iff_eq.mpr c33
                                    have c33b1 : (x10_2 != 3) = false := bne_eq_false_iff_eq.mpr c33
                                    clear c33
                                    by_cases c34 : (rd t470 x13_4) = (wrap64 ((wrap64 ((Int.tmod (Go.bits .and .i64 a0 65535) 41) - 1)) - x13_4))
                                    · rw [if_pos c34] at H
                                      have c34b0 : ((rd t470 x13_4) == (wrap64 ((wrap64 ((Int.tmod (Go.bits .and .i64 a0 65535) 41) - 1)) - x13_4))) = true := beq_iff_eq.mpr c34
                                      have c34b1 : ((rd t470 x13_4) != (wrap64 ((wrap64 ((Int.tmod (Go.bits .and .i64 a0 65535) 41) - 1)) - x13_4))) = false := bne_eq_false_iff_eq.mpr c34
                                      clear c34
                                      have H' := Aside0.mk H
                                      clear H
                                      obtain ⟨Ao35, co35, eo35⟩ := Kd.R_slice HO_11.out
                                      subst eo35
                                      have p474 : 0 ≤ (x13_4 : Int) := of_decide_eq_true (by first | (with_reducible assumption) | assumption)
                                      have q474 : x13_4 < (t470.length : Int) := of_decide_eq_true (by first | (with_reducible assumption) | assumption)
                                      obtain ⟨ad474, e474, hx474_0⟩ := Kd.at_int (Kd.R_reads' HO_11.out).2.2 x13_4 p474 q474
                                      cases e474
                                      replace p474 := eq_true p474
                                      replace q474 := eq_true q474
                                      have p475 : 0 ≤ (x13_4 : Int) := of_decide_eq_true (by first | (with_reducible assumption) | assumption)
                                      have q475 : x13_4 < (t470.length : Int) := of_decide_eq_true (by first | (with_reducible assumption) | assumption)
                                      obtain ⟨ad475, e475, hx475_0⟩ := Kd.at_int (Kd.R_reads' HO_11.out).2.2 x13_4 p475 q475
                                      obtain rfl : ad474 = ad475 := (by injection e475)
                                      replace p475 := eq_true p475
                                      replace q475 := eq_true q475
                                      go_wp2
                                      go_roundg k4
                                      case measure => have := HK1.out; have := HK2.out; have := HJ20.out; have := HK4.out; omega
                                      case rel => exact ⟨(wrap64 (x13_4 + 1)), (by first | rfl | (simp; done) | (simp [*]; done)), H', ⟨by have := HK1.out; have := HK2.out; have := HJ20.out; have := HK4.out; omega⟩, ⟨by (with_reducible repeat (first | apply Kd.R_alloc | apply Kd.R_drewN | apply Kd.R_drew)); exact HO_11.out⟩, ⟨by (with_reducible repeat (first | apply Kd.R_alloc | apply Kd.R_drewN | apply Kd.R_drew)); exact HO_467000.out⟩, ⟨by (with_reducible repeat (first | refine blk_drewN ?_ _ | refine blk_drew ?_ | refine blk_alloc ?_ _)); exact BK466.out⟩, ⟨by repeat (first | (with_reducible first | exact HB.out | apply below_alloc | apply pw_below_drewN | apply below_drew1 | refine below_set ?_ GE466.out) | exact HB.out)⟩⟩
                                    · rw [if_neg c34] at H
                                      have c34b0 : ((rd t470 x13_4) == (wrap64 ((wrap64 ((Int.tmod (Go.bits .and .i64 a0 65535) 41) - 1)) - x13_4))) = false := beq_eq_false_iff_ne.mpr c34
                                      have c34b1 : ((rd t470 x13_4) != (wrap64 ((wrap64 ((Int.tmod (Go.bits .and .i64 a0 65535) 41) - 1)) - x13_4))) = true := bne_iff_ne.mpr c34
                                      exact absurd ((Option.some.inj H).trans HT_.out) (by decide)
                                  · rw [if_neg c33] at H
                                    have c33b0 : (x10_2 == 3) = false := beq_eq_false_iff_ne.mpr c33
                                    have c33b1 : (x10_2 != 3) = true := bne_iff_ne.mpr c33
                                    have H' := Aside0.mk H
                                    clear H
                                    obtain ⟨Ao36, co36, eo36⟩ := Kd.R_slice HO_11.out
                                    subst eo36
                                    have p474 : 0 ≤ (x13_4 : Int) := of_decide_eq_true (by first | (with_reducible assumption) | assumption)
                                    have q474 : x13_4 < (t470.length : Int) := of_decide_eq_true (by first | (with_reducible assumption) | assumption)
                                    obtain ⟨ad474, e474, hx474_0⟩ := Kd.at_int (Kd.R_reads' HO_11.out).2.2 x13_4 p474 q474
                                    cases e474
                                    replace p474 := eq_true p474
                                    replace q474 := eq_true q474
                                    go_wp2
                                    go_roundg k4
                                    case measure => have := HK1.out; have := HK2.out; have := HJ20.out; have := HK4.out; omega
                                    case rel => exact ⟨(wrap64 (x13_4 + 1)), (by first | rfl | (simp; done) | (simp [*]; done)), H', ⟨by have := HK1.out; have := HK2.out; have := HJ20.out; have := HK4.out; omega⟩, ⟨by (with_reducible repeat (first | apply Kd.R_alloc | apply Kd.R_drewN | apply Kd.R_drew)); exact HO_11.out⟩, ⟨by (with_reducible repeat (first | apply Kd.R_alloc | apply Kd.R_drewN | apply Kd.R_drew)); exact HO_467000.out⟩, ⟨by (with_reducible repeat (first | refine blk_drewN ?_ _ | refine blk_drew ?_ | refine blk_alloc ?_ _)); exact BK466.out⟩, ⟨by repeat (first | (with_reducible first | exact HB.out | apply below_alloc | apply pw_below_drewN | apply below_drew1 | refine below_set ?_ GE466.out) | exact HB.out)⟩⟩
                                · rw [if_neg c32] at H
                                  have c32b0 : ((rd t470 x13_4) == x13_4) = false := beq_eq_false_iff_ne.mpr c32
                                  have c32b1 : ((rd t470 x13_4) != x13_4) = true := bne_iff_ne.mpr c32
                                  exact absurd ((Option.some.inj H).trans HT_.out) (by decide)
                              · rw [if_neg c31] at H
                                exact absurd H (by simp)
                            · rw [if_neg c30] at H
                              exact absurd H (by simp)
                          · rw [if_neg c29] at H
                            have c29b0 : decide (x10_2 < 3) = false := decide_eq_false c29
                            clear c29
                            by_cases c37 : x10_2 = 3
                            · rw [if_pos c37] at H
                              have c37b0 : (x10_2 == 3) = true := beq_iff_eq.mpr c37
                              have c37b1 : (x10_2 != 3) = false := bne_eq_false_iff_eq.mpr c37
                              clear c37
                              by_cases c38 : 0 ≤ x13_4
                              · rw [if_pos c38] at H
                                have c38b0 : decide (0 ≤ x13_4) = true := decide_eq_true c38
                                clear c38
                                by_cases c39 : x13_4 < (t470.length : Int)
                                · rw [if_pos c39] at H
                                  have c39b0 : decide (x13_4 < (t470.length : Int)) = true := decide_eq_true c39
                                  clear c39
                                  by_cases c40 : (rd t470 x13_4) = (wrap64 ((wrap64 ((Int.tmod (Go.bits .and .i64 a0 65535) 41) - 1)) - x13_4))
                                  · rw [if_pos c40] at H
                                    have c40b0 : ((rd t470 x13_4) == (wrap64 ((wrap64 ((Int.tmod (Go.bits .and .i64 a0 65535) 41) - 1)) - x13_4))) = true := beq_iff_eq.mpr c40
                                    have c40b1 : ((rd t470 x13_4) != (wrap64 ((wrap64 ((Int.tmod (Go.bits .and .i64 a0 65535) 41) - 1)) - x13_4))) = false := bne_eq_false_iff_eq.mpr c40
                                    clear c40
                                    have H' := Aside0.mk H
                                    clear H
                                    obtain ⟨Ao41, co41, eo41⟩ := Kd.R_slice HO_11.out
                                    subst eo41
                                    have p476 : 0 ≤ (x13_4 : Int) := of_decide_eq_true (by first | (with_reducible assumption) | assumption)
                                    have q476 : x13_4 < (t470.length : Int) := of_decide_eq_true (by first | (with_reducible assumption) | assumption)
                                    obtain ⟨ad476, e476, hx476_0⟩ := Kd.at_int (Kd.R_reads' HO_11.out).2.2 x13_4 p476 q476
                                    cases e476
                                    replace p476 := eq_true p476
                                    replace q476 := eq_true q476
                                    go_wp2
                                    go_roundg k4
                                    case measure => have := HK1.out; have := HK2.out; have := HJ20.out; have := HK4.out; omega
                                    case rel => exact ⟨(wrap64 (x13_4 + 1)), (by first | rfl | (simp; done) | (simp [*]; done)), H', ⟨by have := HK1.out; have := HK2.out; have := HJ20.out; have := HK4.out; omega⟩, ⟨by (with_reducible repeat (first | apply Kd.R_alloc | apply Kd.R_drewN | apply Kd.R_drew)); exact HO_11.out⟩, ⟨by (with_reducible repeat (first | apply Kd.R_alloc | apply Kd.R_drewN | apply Kd.R_drew)); exact HO_467000.out⟩, ⟨by (with_reducible repeat (first | refine blk_drewN ?_ _ | refine blk_drew ?_ | refine blk_alloc ?_ _)); exact BK466.out⟩, ⟨by repeat (first | (with_reducible first | exact HB.out | apply below_alloc | apply pw_below_drewN | apply below_drew1 | refine below_set ?_ GE466.out) | exact HB.out)⟩⟩
                                  · rw [if_neg c40] at H
                                    have c40b0 : ((rd t470 x13_4) == (wrap64 ((wrap64 ((Int.tmod (Go.bits .and .i64 a0 65535) 41) - 1)) - x13_4))) = false := beq_eq_false_iff_ne.mpr c40
                                    have c40b1 : ((rd t470 x13_4) != (wrap64 ((wrap64 ((Int.tmod (Go.bits .and .i64 a0 65535) 41) - 1)) - x13_4))) = true := bne_iff_ne.mpr c40
                                    exact absurd ((Option.some.inj H).trans HT_.out) (by decide)
                                · rw [if_neg c39] at H
                                  exact absurd H (by simp)
                              · rw [if_neg c38] at H
                                exact absurd H (by simp)
                            · rw [if_neg c37] at H
                              have c37b0 : (x10_2 == 3) = false := beq_eq_false_iff_ne.mpr c37
                              have c37b1 : (x10_2 != 3) = true := bne_iff_ne.mpr c37
                              have H' := Aside0.mk H
                              clear H
                              go_wp2
                              go_roundg k4
                              case measure => have := HK1.out; have := HK2.out; have := HJ20.out; have := HK4.out; omega
                              case rel => exact ⟨(wrap64 (x13_4 + 1)), (by first | rfl | (simp; done) | (simp [*]; done)), H', ⟨by have := HK1.out; have := HK2.out; have := HJ20.out; have := HK4.out; omega⟩, ⟨by (with_reducible repeat (first | apply Kd.R_alloc | apply Kd.R_drewN | apply Kd.R_drew)); exact HO_11.out⟩, ⟨by (with_reducible repeat (first | apply Kd.R_alloc | apply Kd.R_drewN | apply Kd.R_drew)); exact HO_467000.out⟩, ⟨by (with_reducible repeat (first | refine blk_drewN ?_ _ | refine blk_drew ?_ | refine blk_alloc ?_ _)); exact BK466.out⟩, ⟨by repeat (first | (with_reducible first | exact HB.out | apply below_alloc | apply pw_below_drewN | apply below_drew1 | refine below_set ?_ GE466.out) | exact HB.out)⟩⟩
                        · rw [if_neg c28] at H
                          have c28b0 : decide (x13_4 < (Int.tmod (Go.bits .and .i64 a0 65535) 41)) = false := decide_eq_false c28
                          clear c28
                          have H' := Aside0.mk H
                          clear H
                          go_wp2
                          go_roundg k4
                          case measure => have := HK1.out; have := HK2.out; have := HJ20.out; have := HK4.out; omega
                          case rel => exact ⟨(wrap64 (x10_2 + 1)), (by first | rfl | (simp; done) | (simp [*]; done)), H', ⟨by have := HK1.out; have := HK2.out; have := HJ20.out; have := HK4.out; omega⟩, ⟨by (with_reducible repeat (first | apply Kd.R_alloc | apply Kd.R_drewN | apply Kd.R_drew)); exact HO_467000.out⟩, ⟨by (with_reducible repeat (first | refine blk_drewN ?_ _ | refine blk_drew ?_ | refine blk_alloc ?_ _)); exact BK466.out⟩, ⟨by repeat (first | (with_reducible first | exact HB.out | apply below_alloc | apply pw_below_drewN | apply below_drew1 | refine below_set ?_ GE466.out) | exact HB.out)⟩⟩
            · rw [if_neg c19] at H
              have c19b0 : decide (x10_2 ≤ 3) = false := decide_eq_false c19
              clear c19
              obtain rfl := Option.some.inj H
              go_wp2
              go_ret
              exact ⟨by first | rfl | (simp [errW_none, errW_some] <;> rfl) | (simp [*, errW_none, errW_some] <;> rfl), by repeat (first | (with_reducible first | exact HB.out | apply below_alloc | apply pw_below_drewN | apply below_drew1 | refine below_set ?_ GE466.out) | exact HB.out)⟩

/-- THE ONE PURE STATEMENT of arboristlaw09_OrderPlain. -/
def arboristlaw09_OrderPlain.Pure : Prop := ∀ (a0 : Int) (a1 : Bool), (Lit.int .i64 a0).wf = true → ∃ k, arboristlaw09_OrderPlain.f k a0 a1 = some true

end Go.Proofs.YtefmpehjahfnpaaDoor.Pr
