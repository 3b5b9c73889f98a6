-- Printed by a program of this session's own (wip/tools/pp.py) over the kit's print.py; Lean checks it.
import Derived.Test.YtaodbohfhelokaaDoorPr0
import Derived.Test.YtaodbohfhelokaaDoorPr15
namespace Go.Proofs.YtaodbohfhelokaaDoor.Pr
open Go.RowKit Go.Proofs.YtaodbohfhelokaaDoorW.PrintWords Go.Proofs.YtaodbohfhelokaaDoorW.PrintLast Go.Proofs.YtaodbohfhelokaaDoorW.PrintMore
attribute [local go_sem] max2_int min2_int max_two min_two max_three min_three max_four min_four   -- for this text's walks alone
set_option linter.unusedVariables false
set_option linter.unusedSimpArgs false

/-! ### arboristlaw08_made: function 15 -/
mutual
def arboristlaw08_made.l0 : Nat → Int → List (List Int) → List (List Bool) → Int → Option ((List (List Bool)))
  | 0, _, _, _, _ => none
  | k + 1, x0, x1, x5, x6 => if x6 < (x1.length : Int) then (if x6 < 60 then (arboristlaw08_made.j1 k x0 x1 x5 x6 (decide (x0 > 0))) else (arboristlaw08_made.j1 k x0 x1 x5 x6 false)) else (arboristlaw08_made.j1 k x0 x1 x5 x6 false)
def arboristlaw08_made.j1 : Nat → Int → List (List Int) → List (List Bool) → Int → Bool → Option ((List (List Bool)))
  | 0, _, _, _, _, _ => none
  | k + 1, x0, x1, x5, x6, x25 => if x25 = true then (if 0 ≤ x6 then (if x6 < (x1.length : Int) then (if ((rd_L2 x1 x6).length : Int) < 2 then (arboristlaw08_made.l0 k x0 x1 x5 (wrap64 (x6 + 1))) else (if 0 < ((rd_L2 x1 x6).length : Int) then (if x0 = 0 then (none) else (if 1 < ((rd_L2 x1 x6).length : Int) then (if (Int.tmod (Go.bits .and .i64 (rd (rd_L2 x1 x6) 0) 65535) x0) = (Int.tmod (Go.bits .and .i64 (rd (rd_L2 x1 x6) 1) 65535) x0) then (arboristlaw08_made.l0 k x0 x1 x5 (wrap64 (x6 + 1))) else (if 0 ≤ (Int.tmod (Go.bits .and .i64 (rd (rd_L2 x1 x6) 0) 65535) x0) then (if (Int.tmod (Go.bits .and .i64 (rd (rd_L2 x1 x6) 0) 65535) x0) < (x5.length : Int) then (if 0 ≤ (Int.tmod (Go.bits .and .i64 (rd (rd_L2 x1 x6) 1) 65535) x0) then (if (Int.tmod (Go.bits .and .i64 (rd (rd_L2 x1 x6) 1) 65535) x0) < ((rd_L5 x5 (Int.tmod (Go.bits .and .i64 (rd (rd_L2 x1 x6) 0) 65535) x0)).length : Int) then ((some (x5.set ((Int.tmod (Go.bits .and .i64 (rd (rd_L2 x1 x6) 0) 65535) x0) : Int).toNat ((rd_L5 x5 (Int.tmod (Go.bits .and .i64 (rd (rd_L2 x1 x6) 0) 65535) x0)).set ((Int.tmod (Go.bits .and .i64 (rd (rd_L2 x1 x6) 1) 65535) x0) : Int).toNat true) : List (List Bool))).bind fun y239 => (if (Int.tmod (Go.bits .and .i64 (rd (rd_L2 x1 x6) 1) 65535) x0) < (x5.length : Int) then (if (Int.tmod (Go.bits .and .i64 (rd (rd_L2 x1 x6) 0) 65535) x0) < ((rd_L5 y239 (Int.tmod (Go.bits .and .i64 (rd (rd_L2 x1 x6) 1) 65535) x0)).length : Int) then (arboristlaw08_made.l0 k x0 x1 (y239.set ((Int.tmod (Go.bits .and .i64 (rd (rd_L2 x1 x6) 1) 65535) x0) : Int).toNat ((rd_L5 y239 (Int.tmod (Go.bits .and .i64 (rd (rd_L2 x1 x6) 1) 65535) x0)).set ((Int.tmod (Go.bits .and .i64 (rd (rd_L2 x1 x6) 0) 65535) x0) : Int).toNat true)) (wrap64 (x6 + 1))) else (none)) else (none))) else (none)) else (none)) else (none)) else (none))) else (none))) else (none))) else (none)) else (none)) else (some x5)
end
def arboristlaw08_made.f (k : Nat) (a0 : Int) (l1 : List (List Int)) : Option ((List (List Bool))) := (arboristref08_Empty.f k (Int.tmod (Go.bits .and .i64 a0 65535) 13)).bind fun t228 => (arboristlaw08_made.l0 k (Int.tmod (Go.bits .and .i64 a0 65535) 13) l1 t228 0)
theorem arboristlaw08_made.mono_l : ∀ k, (∀ y0 y1 y2 y3, LeO (arboristlaw08_made.l0 k y0 y1 y2 y3) (arboristlaw08_made.l0 (k + 1) y0 y1 y2 y3)) ∧ (∀ y0 y1 y2 y3 y4, LeO (arboristlaw08_made.j1 k y0 y1 y2 y3 y4) (arboristlaw08_made.j1 (k + 1) y0 y1 y2 y3 y4))
  | 0 => ⟨fun _ _ _ _ r h => by simp [arboristlaw08_made.l0] at h, fun _ _ _ _ _ r h => by simp [arboristlaw08_made.j1] at h⟩
  | k + 1 => by
    obtain ⟨ih0, ih1⟩ := arboristlaw08_made.mono_l k
    refine ⟨?_, ?_⟩
    all_goals intros
    all_goals (first | unfold arboristlaw08_made.l0 | unfold arboristlaw08_made.j1)
    all_goals repeat' first
    | (with_reducible exact ih0 _ _ _ _)
    | (with_reducible exact ih1 _ _ _ _ _)
    | (with_reducible exact arboristref08_Empty.mono _ _)
    | (with_reducible exact LeO.refl _)
    | (with_reducible exact LeO.none _)
    | (with_reducible refine LeO.ite ?_ ?_)
    | (with_reducible refine LeO.bind ?_ (fun _ => ?_))
    | exact ih0 _ _ _ _
    | exact ih1 _ _ _ _ _
    | exact arboristref08_Empty.mono _ _
    | exact LeO.none _
    | refine LeO.ite ?_ ?_
    | refine LeO.bind ?_ (fun _ => ?_)
theorem arboristlaw08_made.mono : ∀ a0 a1 k, LeO (arboristlaw08_made.f k a0 a1) (arboristlaw08_made.f (k + 1) a0 a1) := by
  intro a0 a1 k
  obtain ⟨ih0, ih1⟩ := arboristlaw08_made.mono_l k
  unfold arboristlaw08_made.f
  repeat' first
      | (with_reducible exact ih0 _ _ _ _)
      | (with_reducible exact ih1 _ _ _ _ _)
      | (with_reducible exact arboristref08_Empty.mono _ _)
      | (with_reducible exact LeO.refl _)
      | (with_reducible exact LeO.none _)
      | (with_reducible refine LeO.ite ?_ ?_)
      | (with_reducible refine LeO.bind ?_ (fun _ => ?_))
      | exact ih0 _ _ _ _
      | exact ih1 _ _ _ _ _
      | exact arboristref08_Empty.mono _ _
      | exact LeO.none _
      | refine LeO.ite ?_ ?_
      | refine LeO.bind ?_ (fun _ => ?_)
set_option maxHeartbeats 8000000 in
set_option maxRecDepth 100000 in
theorem arboristlaw08_made.calls (k : Nat) (a0 : Int) (A1 : Option Addr) (c1 : Nat) (l1 : List (List Int)) (r : List (List Bool)) (w : World) (hr1 : Kd.C (Kd.slice 3 (Kd.int .i64)) w A1 l1.length l1) (hc1 : l1.length ≤ c1) (h : arboristlaw08_made.f k a0 l1 = some r) :
    Calls Tryd.prog 15 #[.int .i64 a0, .slice A1 l1.length c1] w fun e w' => ∃ v0_ : Value, e = .returned (v0_) ∧ Kd.S (Kd.slice 4 Kd.bool) 37 w' w.heap.size (fun _ => True) v0_ r ∧ Below w.heap.size w w' := by
  have HR1 := Aside0.mk hr1
  have HC1 := Aside0.mk hc1
  clear hr1 hc1
  have HB := Aside0.mk (Below.refl w.heap.size w)
  have H : ((arboristref08_Empty.f k (Int.tmod (Go.bits .and .i64 a0 65535) 13)).bind fun t228 => (arboristlaw08_made.l0 k (Int.tmod (Go.bits .and .i64 a0 65535) 13) l1 t228 0)) = some r := h
  clear h
  replace H := Option.bind_eq_some_iff.mp H
  obtain ⟨t228, A30, H⟩ := H
  replace H : (arboristlaw08_made.l0 k (Int.tmod (Go.bits .and .i64 a0 65535) 13) l1 t228 0) = some r := H
  have A3 := Aside0.mk A30
  clear A30
  have H' := Aside0.mk H
  clear H
  go_enter Tryd.func15, Tryd.ntmps15
  go_wp2_with (first | ((with_reducible refine gate_callee (f := 33) rfl ?_); refine goesL_ (some 13) rfl rfl Tryd.func33 (by kernel_rfl) rfl #[.int .i64 (Int.tmod (Go.bits .and .i64 a0 65535) 13)] rfl (by (try simp only [List.map_toArray, List.map_cons, List.map_nil]); first | done | rfl | (simp only [List.length_drop, List.length_take]; rfl)) ?_; (with_reducible refine (arboristref08_Empty.calls k (Int.tmod (Go.bits .and .i64 a0 65535) 13) t228 _ A3.out).mono ?_); rintro e w4 ⟨v229, rfl, ho0, hb⟩; refine ⟨_, rfl, ?_⟩; have n0_ := Aside0.mk (Kd.S_lower ho0 (below_size (by repeat (first | (with_reducible first | exact HB.out | apply below_alloc | apply pw_below_drewN | apply below_drew1) | exact HB.out)))); have n1_ := Aside0.mk (below_step (by repeat (first | (with_reducible first | exact HB.out | apply below_alloc | apply pw_below_drewN | apply below_drew1) | exact HB.out)) hb); clear HB; have HO230 := n0_; have HB := n1_; clear n0_ n1_; (try clear hb); (try clear hb2); (try clear hk); (try clear hi); (try clear ho0)))
  go_loopg [6] k (fun kq v6 w' => ∃ (x5_1 : List (List Bool)) (x6_1 : Int), v6 = .int .i64 x6_1 ∧ Aside0 (arboristlaw08_made.l0 kq (Int.tmod (Go.bits .and .i64 a0 65535) 13) l1 x5_1 x6_1 = some r) ∧ Aside0 (kq ≤ k) ∧ Aside0 (Kd.S (Kd.slice 4 Kd.bool) 37 w' w.heap.size (fun _ => True) v229 x5_1) ∧ Aside0 (Below w.heap.size w w'))
  case atStart => exact ⟨(t228), (0), (by first | rfl | (simp; done) | (simp [*]; done)), H', ⟨Nat.le_refl _⟩, ⟨by (with_reducible repeat (first | apply Kd.S_alloc | apply Kd.S_drewN | apply Kd.S_drew)); exact HO230.out⟩, ⟨by repeat (first | (with_reducible first | exact HB.out | apply below_alloc | apply pw_below_drewN | apply below_drew1) | exact HB.out)⟩⟩
  case round =>
    clear H'
    try clear c1
    try clear p2
    try clear c3
    obtain ⟨x5_1, x6_1, rfl, HA, HK1, HO_5, HB⟩ := hrel
    cases gk with
    | zero => exact absurd HA.out (by simp [arboristlaw08_made.l0])
    | succ k1 =>
      have H := HA.out
      clear HA
      simp only [arboristlaw08_made.l0] at H
      have HC5 := Aside0.mk H
      clear H
      go_upto_region 4 with (fail)
      go_cut [25] (fun v25 wc => ∃ (kq : Nat) (x25_4 : Bool), v25 = .bool x25_4 ∧ Aside0 (arboristlaw08_made.j1 kq (Int.tmod (Go.bits .and .i64 a0 65535) 13) l1 x5_1 x6_1 x25_4 = some r) ∧ Aside0 (kq ≤ k1) ∧ Aside0 (Kd.S (Kd.slice 4 Kd.bool) 37 wc w.heap.size (fun _ => True) v229 x5_1) ∧ Aside0 (Below w.heap.size w wc))
      case first =>
        have H := HC5.out
        clear HC5
        by_cases c6 : x6_1 < (l1.length : Int)
        · rw [if_pos c6] at H
          have c6b0 : decide (x6_1 < (l1.length : Int)) = true := decide_eq_true c6
          clear c6
          (first | rw [c6b0] | (simp only [i64_w, i32_w]; rw [c6b0]) | skip)
          by_cases c7 : x6_1 < 60
          · rw [if_pos c7] at H
            have c7b0 : decide (x6_1 < 60) = true := decide_eq_true c7
            clear c7
            have H' := Aside0.mk H
            clear H
            go_wp2
            go_meet
            case rel => exact ⟨_, (decide ((Int.tmod (Go.bits .and .i64 a0 65535) 13) > 0)), (by first | rfl | (simp; done) | (simp [*]; done)), H', ⟨by have := HK1.out; first | omega | exact Nat.le_refl _⟩, ⟨by (with_reducible repeat (first | apply Kd.S_alloc | apply Kd.S_drewN | apply Kd.S_drew)); exact HO_5.out⟩, ⟨by repeat (first | (with_reducible first | exact HB.out | apply below_alloc | apply pw_below_drewN | apply below_drew1) | exact HB.out)⟩⟩
          · rw [if_neg c7] at H
            have c7b0 : decide (x6_1 < 60) = false := decide_eq_false c7
            clear c7
            have H' := Aside0.mk H
            clear H
            go_wp2
            go_meet
            case rel => exact ⟨_, (false), (by first | rfl | (simp; done) | (simp [*]; done)), H', ⟨by have := HK1.out; first | omega | exact Nat.le_refl _⟩, ⟨by (with_reducible repeat (first | apply Kd.S_alloc | apply Kd.S_drewN | apply Kd.S_drew)); exact HO_5.out⟩, ⟨by repeat (first | (with_reducible first | exact HB.out | apply below_alloc | apply pw_below_drewN | apply below_drew1) | exact HB.out)⟩⟩
        · rw [if_neg c6] at H
          have c6b0 : decide (x6_1 < (l1.length : Int)) = false := decide_eq_false c6
          clear c6
          (first | rw [c6b0] | (simp only [i64_w, i32_w]; rw [c6b0]) | skip)
          have H' := Aside0.mk H
          clear H
          go_wp2
          go_meet
          case rel => exact ⟨_, (false), (by first | rfl | (simp; done) | (simp [*]; done)), H', ⟨by have := HK1.out; first | omega | exact Nat.le_refl _⟩, ⟨by (with_reducible repeat (first | apply Kd.S_alloc | apply Kd.S_drewN | apply Kd.S_drew)); exact HO_5.out⟩, ⟨by repeat (first | (with_reducible first | exact HB.out | apply below_alloc | apply pw_below_drewN | apply below_drew1) | exact HB.out)⟩⟩
      case rest =>
        clear HC5
        try clear c1
        try clear p2
        try clear c3
        try clear c6
        try clear c6b0
        try clear c7
        try clear c7b0
        try clear p2
        obtain ⟨kq, x25_4, rfl, HA, HJ4, HO_5, HB⟩ := hcut
        cases kq with
        | zero => exact absurd HA.out (by simp [arboristlaw08_made.j1])
        | succ kj4 =>
          have H := HA.out
          clear HA
          simp only [arboristlaw08_made.j1] at H
          by_cases c8 : x25_4 = true
          · subst c8
            have H1 : (if 0 ≤ x6_1 then (if x6_1 < (l1.length : Int) then (if ((rd_L2 l1 x6_1).length : Int) < 2 then (arboristlaw08_made.l0 kj4 (Int.tmod (Go.bits .and .i64 a0 65535) 13) l1 x5_1 (wrap64 (x6_1 + 1))) else (if 0 < ((rd_L2 l1 x6_1).length : Int) then (if (Int.tmod (Go.bits .and .i64 a0 65535) 13) = 0 then (none) else (if 1 < ((rd_L2 l1 x6_1).length : Int) then (if (Int.tmod (Go.bits .and .i64 (rd (rd_L2 l1 x6_1) 0) 65535) (Int.tmod (Go.bits .and .i64 a0 65535) 13)) = (Int.tmod (Go.bits .and .i64 (rd (rd_L2 l1 x6_1) 1) 65535) (Int.tmod (Go.bits .and .i64 a0 65535) 13)) then (arboristlaw08_made.l0 kj4 (Int.tmod (Go.bits .and .i64 a0 65535) 13) l1 x5_1 (wrap64 (x6_1 + 1))) else (if 0 ≤ (Int.tmod (Go.bits .and .i64 (rd (rd_L2 l1 x6_1) 0) 65535) (Int.tmod (Go.bits .and .i64 a0 65535) 13)) then (if (Int.tmod (Go.bits .and .i64 (rd (rd_L2 l1 x6_1) 0) 65535) (Int.tmod (Go.bits .and .i64 a0 65535) 13)) < (x5_1.length : Int) then (if 0 ≤ (Int.tmod (Go.bits .and .i64 (rd (rd_L2 l1 x6_1) 1) 65535) (Int.tmod (Go.bits .and .i64 a0 65535) 13)) then (if (Int.tmod (Go.bits .and .i64 (rd (rd_L2 l1 x6_1) 1) 65535) (Int.tmod (Go.bits .and .i64 a0 65535) 13)) < ((rd_L5 x5_1 (Int.tmod (Go.bits .and .i64 (rd (rd_L2 l1 x6_1) 0) 65535) (Int.tmod (Go.bits .and .i64 a0 65535) 13))).length : Int) then ((some (x5_1.set ((Int.tmod (Go.bits .and .i64 (rd (rd_L2 l1 x6_1) 0) 65535) (Int.tmod (Go.bits .and .i64 a0 65535) 13)) : Int).toNat ((rd_L5 x5_1 (Int.tmod (Go.bits .and .i64 (rd (rd_L2 l1 x6_1) 0) 65535) (Int.tmod (Go.bits .and .i64 a0 65535) 13))).set ((Int.tmod (Go.bits .and .i64 (rd (rd_L2 l1 x6_1) 1) 65535) (Int.tmod (Go.bits .and .i64 a0 65535) 13)) : Int).toNat true) : List (List Bool))).bind fun y239 => (if (Int.tmod (Go.bits .and .i64 (rd (rd_L2 l1 x6_1) 1) 65535) (Int.tmod (Go.bits .and .i64 a0 65535) 13)) < (x5_1.length : Int) then (if (Int.tmod (Go.bits .and .i64 (rd (rd_L2 l1 x6_1) 0) 65535) (Int.tmod (Go.bits .and .i64 a0 65535) 13)) < ((rd_L5 y239 (Int.tmod (Go.bits .and .i64 (rd (rd_L2 l1 x6_1) 1) 65535) (Int.tmod (Go.bits .and .i64 a0 65535) 13))).length : Int) then (arboristlaw08_made.l0 kj4 (Int.tmod (Go.bits .and .i64 a0 65535) 13) l1 (y239.set ((Int.tmod (Go.bits .and .i64 (rd (rd_L2 l1 x6_1) 1) 65535) (Int.tmod (Go.bits .and .i64 a0 65535) 13)) : Int).toNat ((rd_L5 y239 (Int.tmod (Go.bits .and .i64 (rd (rd_L2 l1 x6_1) 1) 65535) (Int.tmod (Go.bits .and .i64 a0 65535) 13))).set ((Int.tmod (Go.bits .and .i64 (rd (rd_L2 l1 x6_1) 0) 65535) (Int.tmod (Go.bits .and .i64 a0 65535) 13)) : Int).toNat true)) (wrap64 (x6_1 + 1))) else (none)) else (none))) else (none)) else (none)) else (none)) else (none))) else (none))) else (none))) else (none)) else (none)) = some r := by rw [if_pos rfl] at H; exact H
            clear H
            have H := H1
            clear H1
            by_cases c9 : 0 ≤ x6_1
            · rw [if_pos c9] at H
              have c9b0 : decide (0 ≤ x6_1) = true := decide_eq_true c9
              clear c9
              by_cases c10 : x6_1 < (l1.length : Int)
              · rw [if_pos c10] at H
                have c10b0 : decide (x6_1 < (l1.length : Int)) = true := decide_eq_true c10
                clear c10
                by_cases c11 : ((rd_L2 l1 x6_1).length : Int) < 2
                · rw [if_pos c11] at H
                  have c11b0 : decide (((rd_L2 l1 x6_1).length : Int) < 2) = true := decide_eq_true c11
                  have c11b1 : decide ((rd_L2 l1 x6_1).length < 2) = true := decide_eq_true (by omega)
                  clear c11
                  have H' := Aside0.mk H
                  clear H
                  have p231 : 0 ≤ (x6_1 : Int) := of_decide_eq_true (by first | (with_reducible assumption) | assumption)
                  have q231 : x6_1 < (l1.length : Int) := of_decide_eq_true (by first | (with_reducible assumption) | assumption)
                  obtain ⟨ad231, A231_0, c231_0, e231, hx231_0, hl231_0, hi231_0⟩ := at_L2 HR1.out x6_1 p231 q231
                  cases e231
                  replace hx231_0 := (HB.out.cell (World.block_lt_of_cell? w _ hx231_0)).trans hx231_0
                  have HR231_0 := Aside0.mk hi231_0
                  have HC231_0 := Aside0.mk hl231_0
                  clear hi231_0 hl231_0
                  replace p231 := eq_true p231
                  replace q231 := eq_true q231
                  go_wp2
                  go_roundg kj4
                  case measure => have := HK1.out; have := HJ4.out; omega
                  case rel => exact ⟨(x5_1), (wrap64 (x6_1 + 1)), (by first | rfl | (simp; done) | (simp [*]; done)), H', ⟨by have := HK1.out; have := HJ4.out; omega⟩, ⟨by (with_reducible repeat (first | apply Kd.S_alloc | apply Kd.S_drewN | apply Kd.S_drew)); exact HO_5.out⟩, ⟨by repeat (first | (with_reducible first | exact HB.out | apply below_alloc | apply pw_below_drewN | apply below_drew1) | exact HB.out)⟩⟩
                · rw [if_neg c11] at H
                  have c11b0 : decide (((rd_L2 l1 x6_1).length : Int) < 2) = false := decide_eq_false c11
                  have c11b1 : decide ((rd_L2 l1 x6_1).length < 2) = false := decide_eq_false (by omega)
                  clear c11
                  by_cases c12 : 0 < ((rd_L2 l1 x6_1).length : Int)
                  · rw [if_pos c12] at H
                    have c12b0 : decide (0 < ((rd_L2 l1 x6_1).length : Int)) = true := decide_eq_true c12
                    have c12b1 : decide (0 < (rd_L2 l1 x6_1).length) = true := decide_eq_true (by omega)
                    clear c12
                    by_cases c13 : (Int.tmod (Go.bits .and .i64 a0 65535) 13) = 0
                    · rw [if_pos c13] at H
                      exact absurd H (by simp)
                    · rw [if_neg c13] at H
                      have c13b0 : ((Int.tmod (Go.bits .and .i64 a0 65535) 13) == 0) = false := beq_eq_false_iff_ne.mpr c13
                      have c13b1 : ((Int.tmod (Go.bits .and .i64 a0 65535) 13) != 0) = true := bne_iff_ne.mpr c13
                      by_cases c14 : 1 < ((rd_L2 l1 x6_1).length : Int)
                      · rw [if_pos c14] at H
                        have c14b0 : decide (1 < ((rd_L2 l1 x6_1).length : Int)) = true := decide_eq_true c14
                        have c14b1 : decide (1 < (rd_L2 l1 x6_1).length) = true := decide_eq_true (by omega)
                        clear c14
                        by_cases c15 : (Int.tmod (Go.bits .and .i64 (rd (rd_L2 l1 x6_1) 0) 65535) (Int.tmod (Go.bits .and .i64 a0 65535) 13)) = (Int.tmod (Go.bits .and .i64 (rd (rd_L2 l1 x6_1) 1) 65535) (Int.tmod (Go.bits .and .i64 a0 65535) 13))
                        · rw [if_pos c15] at H
                          have c15b0 : ((Int.tmod (Go.bits .and .i64 (rd (rd_L2 l1 x6_1) 0) 65535) (Int.tmod (Go.bits .and .i64 a0 65535) 13)) == (Int.tmod (Go.bits .and .i64 (rd (rd_L2 l1 x6_1) 1) 65535) (Int.tmod (Go.bits .and .i64 a0 65535) 13))) = true := beq_iff_eq.mpr c15
                          have c15b1 : ((Int.tmod (Go.bits .and .i64 (rd (rd_L2 l1 x6_1) 0) 65535) (Int.tmod (Go.bits .and .i64 a0 65535) 13)) != (Int.tmod (Go.bits .and .i64 (rd (rd_L2 l1 x6_1) 1) 65535) (Int.tmod (Go.bits .and .i64 a0 65535) 13))) = false := bne_eq_false_iff_eq.mpr c15
                          clear c15
                          have H' := Aside0.mk H
                          clear H
                          have p231 : 0 ≤ (x6_1 : Int) := of_decide_eq_true (by first | (with_reducible assumption) | assumption)
                          have q231 : x6_1 < (l1.length : Int) := of_decide_eq_true (by first | (with_reducible assumption) | assumption)
                          obtain ⟨ad231, A231_0, c231_0, e231, hx231_0, hl231_0, hi231_0⟩ := at_L2 HR1.out x6_1 p231 q231
                          cases e231
                          replace hx231_0 := (HB.out.cell (World.block_lt_of_cell? w _ hx231_0)).trans hx231_0
                          have HR231_0 := Aside0.mk hi231_0
                          have HC231_0 := Aside0.mk hl231_0
                          clear hi231_0 hl231_0
                          replace p231 := eq_true p231
                          replace q231 := eq_true q231
                          have p232 : 0 ≤ (x6_1 : Int) := of_decide_eq_true (by first | (with_reducible assumption) | assumption)
                          have q232 : x6_1 < (l1.length : Int) := of_decide_eq_true (by first | (with_reducible assumption) | assumption)
                          obtain ⟨ad232, A232_0, c232_0, e232, hx232_0, hl232_0, hi232_0⟩ := at_L2 HR1.out x6_1 p232 q232
                          obtain rfl : ad231 = ad232 := (by injection e232)
                          replace hx232_0 := (HB.out.cell (World.block_lt_of_cell? w _ hx232_0)).trans hx232_0
                          have HR232_0 := Aside0.mk hi232_0
                          have HC232_0 := Aside0.mk hl232_0
                          clear hi232_0 hl232_0
                          replace p232 := eq_true p232
                          replace q232 := eq_true q232
                          have ea_ := Option.some.inj (hx231_0.symm.trans hx232_0)
                          injection ea_ with ea_ en_ ec_
                          subst ea_
                          subst ec_
                          clear en_
                          have p233 : 0 ≤ (0 : Int) := (by omega)
                          have q233 : 0 < ((rd_L2 l1 x6_1).length : Int) := of_decide_eq_true (by first | (with_reducible assumption) | assumption)
                          obtain ⟨ad233, e233, hx233_0⟩ := Kd.at_int HR232_0.out 0 p233 q233
                          cases e233
                          have qi233 : (0 < (rd_L2 l1 x6_1).length) = True := eq_true (by omega)
                          (try rw [show ((0 : Int)).toNat = 0 from rfl] at hx233_0)
                          (try rw [Addr.add_zero'] at hx233_0)
                          replace hx233_0 := (HB.out.cell (World.block_lt_of_cell? w _ hx233_0)).trans hx233_0
                          replace p233 := eq_true p233
                          replace q233 := eq_true q233
                          have p234 : 0 ≤ (x6_1 : Int) := of_decide_eq_true (by first | (with_reducible assumption) | assumption)
                          have q234 : x6_1 < (l1.length : Int) := of_decide_eq_true (by first | (with_reducible assumption) | assumption)
                          obtain ⟨ad234, A234_0, c234_0, e234, hx234_0, hl234_0, hi234_0⟩ := at_L2 HR1.out x6_1 p234 q234
                          obtain rfl : ad231 = ad234 := (by injection e234)
                          replace hx234_0 := (HB.out.cell (World.block_lt_of_cell? w _ hx234_0)).trans hx234_0
                          have HR234_0 := Aside0.mk hi234_0
                          have HC234_0 := Aside0.mk hl234_0
                          clear hi234_0 hl234_0
                          replace p234 := eq_true p234
                          replace q234 := eq_true q234
                          have ea_ := Option.some.inj (hx231_0.symm.trans hx234_0)
                          injection ea_ with ea_ en_ ec_
                          subst ea_
                          subst ec_
                          clear en_
                          have p235 : 0 ≤ (1 : Int) := (by omega)
                          have q235 : 1 < ((rd_L2 l1 x6_1).length : Int) := of_decide_eq_true (by first | (with_reducible assumption) | assumption)
                          obtain ⟨ad235, e235, hx235_0⟩ := Kd.at_int HR234_0.out 1 p235 q235
                          cases e235
                          (try simp only [show (1 : Int).toNat = 1 from rfl, Nat.reduceMul, Nat.reduceEqDiff, Go.Addr.add, ↓reduceIte] at hx235_0)
                          have qi235 : (1 < (rd_L2 l1 x6_1).length) = True := eq_true (by omega)
                          (try rw [show ((1 : Int)).toNat = 1 from rfl] at hx235_0)
                          replace hx235_0 := (HB.out.cell (World.block_lt_of_cell? w _ hx235_0)).trans hx235_0
                          replace p235 := eq_true p235
                          replace q235 := eq_true q235
                          go_wp2
                          go_roundg kj4
                          case measure => have := HK1.out; have := HJ4.out; omega
                          case rel => exact ⟨(x5_1), (wrap64 (x6_1 + 1)), (by first | rfl | (simp; done) | (simp [*]; done)), H', ⟨by have := HK1.out; have := HJ4.out; omega⟩, ⟨by (with_reducible repeat (first | apply Kd.S_alloc | apply Kd.S_drewN | apply Kd.S_drew)); exact HO_5.out⟩, ⟨by repeat (first | (with_reducible first | exact HB.out | apply below_alloc | apply pw_below_drewN | apply below_drew1) | exact HB.out)⟩⟩
                        · rw [if_neg c15] at H
                          have c15b0 : ((Int.tmod (Go.bits .and .i64 (rd (rd_L2 l1 x6_1) 0) 65535) (Int.tmod (Go.bits .and .i64 a0 65535) 13)) == (Int.tmod (Go.bits .and .i64 (rd (rd_L2 l1 x6_1) 1) 65535) (Int.tmod (Go.bits .and .i64 a0 65535) 13))) = false := beq_eq_false_iff_ne.mpr c15
                          have c15b1 : ((Int.tmod (Go.bits .and .i64 (rd (rd_L2 l1 x6_1) 0) 65535) (Int.tmod (Go.bits .and .i64 a0 65535) 13)) != (Int.tmod (Go.bits .and .i64 (rd (rd_L2 l1 x6_1) 1) 65535) (Int.tmod (Go.bits .and .i64 a0 65535) 13))) = true := bne_iff_ne.mpr c15
                          obtain ⟨ji16, hji16⟩ : ∃ j_ : Int, (Int.tmod (Go.bits .and .i64 (rd (rd_L2 l1 x6_1) 0) 65535) (Int.tmod (Go.bits .and .i64 a0 65535) 13)) = j_ := ⟨_, rfl⟩
                          replace H : (if 0 ≤ (ji16) then (if (ji16) < (x5_1.length : Int) then (if 0 ≤ (Int.tmod (Go.bits .and .i64 (rd (rd_L2 l1 x6_1) 1) 65535) (Int.tmod (Go.bits .and .i64 a0 65535) 13)) then (if (Int.tmod (Go.bits .and .i64 (rd (rd_L2 l1 x6_1) 1) 65535) (Int.tmod (Go.bits .and .i64 a0 65535) 13)) < ((rd_L5 x5_1 (ji16)).length : Int) then ((some (x5_1.set ((ji16) : Int).toNat ((rd_L5 x5_1 (ji16)).set ((Int.tmod (Go.bits .and .i64 (rd (rd_L2 l1 x6_1) 1) 65535) (Int.tmod (Go.bits .and .i64 a0 65535) 13)) : Int).toNat true) : List (List Bool))).bind fun y239 => (if (Int.tmod (Go.bits .and .i64 (rd (rd_L2 l1 x6_1) 1) 65535) (Int.tmod (Go.bits .and .i64 a0 65535) 13)) < (x5_1.length : Int) then (if (ji16) < ((rd_L5 y239 (Int.tmod (Go.bits .and .i64 (rd (rd_L2 l1 x6_1) 1) 65535) (Int.tmod (Go.bits .and .i64 a0 65535) 13))).length : Int) then (arboristlaw08_made.l0 kj4 (Int.tmod (Go.bits .and .i64 a0 65535) 13) l1 (y239.set ((Int.tmod (Go.bits .and .i64 (rd (rd_L2 l1 x6_1) 1) 65535) (Int.tmod (Go.bits .and .i64 a0 65535) 13)) : Int).toNat ((rd_L5 y239 (Int.tmod (Go.bits .and .i64 (rd (rd_L2 l1 x6_1) 1) 65535) (Int.tmod (Go.bits .and .i64 a0 65535) 13))).set ((ji16) : Int).toNat true)) (wrap64 (x6_1 + 1))) else (none)) else (none))) else (none)) else (none)) else (none)) else (none)) = some r := by first | (rw [hji16] at H; exact H) | (simp only [hji16] at H ⊢; exact H)
                          (try rw [hji16] at c15b0)
                          (try rw [hji16] at c15b1)
                          by_cases c17 : 0 ≤ (ji16)
                          · rw [if_pos c17] at H
                            have c17b0 : decide (0 ≤ (ji16)) = true := decide_eq_true c17
                            clear c17
                            by_cases c18 : (ji16) < (x5_1.length : Int)
                            · rw [if_pos c18] at H
                              have c18b0 : decide ((ji16) < (x5_1.length : Int)) = true := decide_eq_true c18
                              clear c18
                              obtain ⟨ji19, hji19⟩ : ∃ j_ : Int, (Int.tmod (Go.bits .and .i64 (rd (rd_L2 l1 x6_1) 1) 65535) (Int.tmod (Go.bits .and .i64 a0 65535) 13)) = j_ := ⟨_, rfl⟩
                              replace H : (if 0 ≤ (ji19) then (if (ji19) < ((rd_L5 x5_1 (ji16)).length : Int) then ((some (x5_1.set ((ji16) : Int).toNat ((rd_L5 x5_1 (ji16)).set ((ji19) : Int).toNat true) : List (List Bool))).bind fun y239 => (if (ji19) < (x5_1.length : Int) then (if (ji16) < ((rd_L5 y239 (ji19)).length : Int) then (arboristlaw08_made.l0 kj4 (Int.tmod (Go.bits .and .i64 a0 65535) 13) l1 (y239.set ((ji19) : Int).toNat ((rd_L5 y239 (ji19)).set ((ji16) : Int).toNat true)) (wrap64 (x6_1 + 1))) else (none)) else (none))) else (none)) else (none)) = some r := by first | (rw [hji19] at H; exact H) | (simp only [hji19] at H ⊢; exact H)
                              (try rw [hji19] at c15b0)
                              (try rw [hji19] at c15b1)
                              by_cases c20 : 0 ≤ (ji19)
                              · rw [if_pos c20] at H
                                have c20b0 : decide (0 ≤ (ji19)) = true := decide_eq_true c20
                                clear c20
                                by_cases c21 : (ji19) < ((rd_L5 x5_1 (ji16)).length : Int)
                                · rw [if_pos c21] at H
                                  have c21b0 : decide ((ji19) < ((rd_L5 x5_1 (ji16)).length : Int)) = true := decide_eq_true c21
                                  clear c21
                                  obtain ⟨y237, hy237⟩ : ∃ y_ : List Bool, y_ = ((rd_L5 x5_1 (ji16)).set ((ji19) : Int).toNat true) := ⟨_, rfl⟩
                                  replace H : ((some (x5_1.set ((ji16) : Int).toNat y237 : List (List Bool))).bind fun y239 => (if (ji19) < (x5_1.length : Int) then (if (ji16) < ((rd_L5 y239 (ji19)).length : Int) then (arboristlaw08_made.l0 kj4 (Int.tmod (Go.bits .and .i64 a0 65535) 13) l1 (y239.set ((ji19) : Int).toNat ((rd_L5 y239 (ji19)).set ((ji16) : Int).toNat true)) (wrap64 (x6_1 + 1))) else (none)) else (none))) = some r := by first | (rw [hy237]; with_reducible exact H) | (have H2_ := (Option.bind_some _ _).symm.trans H; rw [hy237]; with_reducible exact H2_) | (have H2_ := (Option.bind_some _ _).symm.trans H; with_reducible exact H2_) | with_reducible exact H | (rw [hy237]; exact H) | exact H
                                  have Ny237 := Aside0.mk hy237
                                  clear hy237
                                  obtain ⟨y239, hy239⟩ : ∃ y_ : List (List Bool), y_ = (x5_1.set ((ji16) : Int).toNat y237) := ⟨_, rfl⟩
                                  replace H : (if (ji19) < (x5_1.length : Int) then (if (ji16) < ((rd_L5 y239 (ji19)).length : Int) then (arboristlaw08_made.l0 kj4 (Int.tmod (Go.bits .and .i64 a0 65535) 13) l1 (y239.set ((ji19) : Int).toNat ((rd_L5 y239 (ji19)).set ((ji16) : Int).toNat true)) (wrap64 (x6_1 + 1))) else (none)) else (none)) = some r := by first | (rw [hy239]; with_reducible exact H) | (have H2_ := (Option.bind_some _ _).symm.trans H; rw [hy239]; with_reducible exact H2_) | (have H2_ := (Option.bind_some _ _).symm.trans H; with_reducible exact H2_) | with_reducible exact H | (rw [hy239]; exact H) | exact H
                                  have Ny239 := Aside0.mk hy239
                                  clear hy239
                                  by_cases c23 : (ji19) < (x5_1.length : Int)
                                  · rw [if_pos c23] at H
                                    have c23b0 : decide ((ji19) < (x5_1.length : Int)) = true := decide_eq_true c23
                                    clear c23
                                    by_cases c24 : (ji16) < ((rd_L5 y239 (ji19)).length : Int)
                                    · rw [if_pos c24] at H
                                      have c24b0 : decide ((ji16) < ((rd_L5 y239 (ji19)).length : Int)) = true := decide_eq_true c24
                                      clear c24
                                      obtain ⟨y241, hy241⟩ : ∃ y_ : List Bool, y_ = ((rd_L5 y239 (ji19)).set ((ji16) : Int).toNat true) := ⟨_, rfl⟩
                                      replace H : (arboristlaw08_made.l0 kj4 (Int.tmod (Go.bits .and .i64 a0 65535) 13) l1 (y239.set ((ji19) : Int).toNat y241) (wrap64 (x6_1 + 1))) = some r := by first | (rw [hy241]; with_reducible exact H) | (have H2_ := (Option.bind_some _ _).symm.trans H; rw [hy241]; with_reducible exact H2_) | (have H2_ := (Option.bind_some _ _).symm.trans H; with_reducible exact H2_) | with_reducible exact H | (rw [hy241]; exact H) | exact H
                                      have Ny241 := Aside0.mk hy241
                                      clear hy241
                                      obtain ⟨y243, hy243⟩ : ∃ y_ : List (List Bool), y_ = (y239.set ((ji19) : Int).toNat y241) := ⟨_, rfl⟩
                                      replace H : (arboristlaw08_made.l0 kj4 (Int.tmod (Go.bits .and .i64 a0 65535) 13) l1 y243 (wrap64 (x6_1 + 1))) = some r := by first | (rw [hy243]; with_reducible exact H) | (have H2_ := (Option.bind_some _ _).symm.trans H; rw [hy243]; with_reducible exact H2_) | (have H2_ := (Option.bind_some _ _).symm.trans H; with_reducible exact H2_) | with_reducible exact H | (rw [hy243]; exact H) | exact H
                                      have Ny243 := Aside0.mk hy243
                                      clear hy243
                                      have H' := Aside0.mk H
                                      clear H
                                      have p231 : 0 ≤ (x6_1 : Int) := of_decide_eq_true (by first | (with_reducible assumption) | assumption)
                                      have q231 : x6_1 < (l1.length : Int) := of_decide_eq_true (by first | (with_reducible assumption) | assumption)
                                      obtain ⟨ad231, A231_0, c231_0, e231, hx231_0, hl231_0, hi231_0⟩ := at_L2 HR1.out x6_1 p231 q231
                                      cases e231
                                      replace hx231_0 := (HB.out.cell (World.block_lt_of_cell? w _ hx231_0)).trans hx231_0
                                      have HR231_0 := Aside0.mk hi231_0
                                      have HC231_0 := Aside0.mk hl231_0
                                      clear hi231_0 hl231_0
                                      replace p231 := eq_true p231
                                      replace q231 := eq_true q231
                                      have p232 : 0 ≤ (x6_1 : Int) := of_decide_eq_true (by first | (with_reducible assumption) | assumption)
                                      have q232 : x6_1 < (l1.length : Int) := of_decide_eq_true (by first | (with_reducible assumption) | assumption)
                                      obtain ⟨ad232, A232_0, c232_0, e232, hx232_0, hl232_0, hi232_0⟩ := at_L2 HR1.out x6_1 p232 q232
                                      obtain rfl : ad231 = ad232 := (by injection e232)
                                      replace hx232_0 := (HB.out.cell (World.block_lt_of_cell? w _ hx232_0)).trans hx232_0
                                      have HR232_0 := Aside0.mk hi232_0
                                      have HC232_0 := Aside0.mk hl232_0
                                      clear hi232_0 hl232_0
                                      replace p232 := eq_true p232
                                      replace q232 := eq_true q232
                                      have ea_ := Option.some.inj (hx231_0.symm.trans hx232_0)
                                      injection ea_ with ea_ en_ ec_
                                      subst ea_
                                      subst ec_
                                      clear en_
                                      have p233 : 0 ≤ (0 : Int) := (by omega)
                                      have q233 : 0 < ((rd_L2 l1 x6_1).length : Int) := of_decide_eq_true (by first | (with_reducible assumption) | assumption)
                                      obtain ⟨ad233, e233, hx233_0⟩ := Kd.at_int HR232_0.out 0 p233 q233
                                      cases e233
                                      have qi233 : (0 < (rd_L2 l1 x6_1).length) = True := eq_true (by omega)
                                      (try rw [show ((0 : Int)).toNat = 0 from rfl] at hx233_0)
                                      (try rw [Addr.add_zero'] at hx233_0)
                                      replace hx233_0 := (HB.out.cell (World.block_lt_of_cell? w _ hx233_0)).trans hx233_0
                                      replace p233 := eq_true p233
                                      replace q233 := eq_true q233
                                      have p234 : 0 ≤ (x6_1 : Int) := of_decide_eq_true (by first | (with_reducible assumption) | assumption)
                                      have q234 : x6_1 < (l1.length : Int) := of_decide_eq_true (by first | (with_reducible assumption) | assumption)
                                      obtain ⟨ad234, A234_0, c234_0, e234, hx234_0, hl234_0, hi234_0⟩ := at_L2 HR1.out x6_1 p234 q234
                                      obtain rfl : ad231 = ad234 := (by injection e234)
                                      replace hx234_0 := (HB.out.cell (World.block_lt_of_cell? w _ hx234_0)).trans hx234_0
                                      have HR234_0 := Aside0.mk hi234_0
                                      have HC234_0 := Aside0.mk hl234_0
                                      clear hi234_0 hl234_0
                                      replace p234 := eq_true p234
                                      replace q234 := eq_true q234
                                      have ea_ := Option.some.inj (hx231_0.symm.trans hx234_0)
                                      injection ea_ with ea_ en_ ec_
                                      subst ea_
                                      subst ec_
                                      clear en_
                                      have p235 : 0 ≤ (1 : Int) := (by omega)
                                      have q235 : 1 < ((rd_L2 l1 x6_1).length : Int) := of_decide_eq_true (by first | (with_reducible assumption) | assumption)
                                      obtain ⟨ad235, e235, hx235_0⟩ := Kd.at_int HR234_0.out 1 p235 q235
                                      cases e235
                                      (try simp only [show (1 : Int).toNat = 1 from rfl, Nat.reduceMul, Nat.reduceEqDiff, Go.Addr.add, ↓reduceIte] at hx235_0)
                                      have qi235 : (1 < (rd_L2 l1 x6_1).length) = True := eq_true (by omega)
                                      (try rw [show ((1 : Int)).toNat = 1 from rfl] at hx235_0)
                                      replace hx235_0 := (HB.out.cell (World.block_lt_of_cell? w _ hx235_0)).trans hx235_0
                                      replace p235 := eq_true p235
                                      replace q235 := eq_true q235
                                      obtain ⟨Ao26, co26, eo26⟩ := Kd.S_slice HO_5.out
                                      subst eo26
                                      have p236 : 0 ≤ ((ji16) : Int) := of_decide_eq_true (by first | (with_reducible assumption) | assumption)
                                      have q236 : (ji16) < (x5_1.length : Int) := of_decide_eq_true (by first | (with_reducible assumption) | assumption)
                                      obtain ⟨ad236, A236_0, c236_0, e236, hx236_0, hl236_0, hi236_0⟩ := at_L5 (Kd.S_reads' HO_5.out).2.2 (ji16) p236 q236
                                      cases e236
                                      obtain ⟨ce236, hce236, hMe236, hcc236⟩ := Kd.S_get HO_5.out [] (ji16) p236 (by first | exact q236 | exact of_decide_eq_true (by first | (with_reducible assumption) | assumption) | (have e_ := (Kd.S_reads' HO_5.out).1; omega))
                                      obtain ⟨ve236_0, rfl, ge236_0⟩ := hMe236
                                      have hv236_0 := hcc236 0 _ rfl
                                      rw [Nat.add_zero, show ((Kd.slice 4 Kd.bool)).sz = 1 from rfl, Nat.mul_one] at hv236_0
                                      replace hv236_0 := Option.some.inj (hv236_0.symm.trans hx236_0)
                                      rw [hv236_0] at ge236_0
                                      have HL236_0 := Aside0.mk (show Kd.R Kd.bool 4 _ _ _ _ (rd_L5 x5_1 (ji16)) from ge236_0)
                                      clear hv236_0 ge236_0
                                      have HX236_0 := Aside0.mk hx236_0
                                      clear hcc236 hce236
                                      have HR236_0 := Aside0.mk hi236_0
                                      have HC236_0 := Aside0.mk hl236_0
                                      clear hi236_0 hl236_0
                                      replace p236 := eq_true p236
                                      replace q236 := eq_true q236
                                      have p22 : 0 ≤ ((ji19) : Int) := of_decide_eq_true (by first | (with_reducible assumption) | assumption)
                                      have q22 : ((ji19) : Int) < (((rd_L5 x5_1 (ji16)).length : Int) : Int) := of_decide_eq_true (by first | (with_reducible assumption) | assumption)
                                      obtain ⟨go22, co22, eo22, gb22, gl22, cl22, HG22⟩ := Kd.R_form HL236_0.out (by omega)
                                      (first | cases eo22 | (injection eo22 with ea_ en_ ec_; (first | subst ea_ | (injection ea_ with ea_; subst ea_)); subst ec_; clear en_))
                                      have GB22 := Aside0.mk gb22
                                      have GG22 := Aside0.mk HG22
                                      clear gb22 gl22 HG22
                                      obtain ⟨hx22_0, hf22_0⟩ := Kd.R_celln false HL236_0.out ((ji19) : Int) p22 q22
                                      replace p22 := eq_true p22
                                      replace q22 := eq_true q22
                                      have hq27 : ((ji16) : Int) < (x5_1.length : Int) := (by have h_ : ((ji16) : Int) < ((x5_1.length : Int) : Int) := of_decide_eq_true (by first | (with_reducible assumption) | assumption); first | exact h_ | (have e_ := (Kd.S_reads' HO_5.out).1; omega) | simpa only [List.length_set, List.length_set] using h_)
                                      obtain ⟨oki27, ce27, hcl27, hM27, hcc27, hok27, hbk27⟩ := Kd.S_borrow HO_5.out [] ((ji16) : Int) (of_decide_eq_true (by first | (with_reducible assumption) | assumption)) (by first | exact hq27 | (have e_ := (Kd.S_reads' HO_5.out).1; have h_ := hq27; omega))
                                      obtain ⟨ve27_0, rfl, ge27_0⟩ := hM27
                                      have hv27 := hcc27 0 _ rfl
                                      rw [Nat.add_zero, show ((Kd.slice 4 Kd.bool)).sz = 1 from rfl, Nat.mul_one] at hv27
                                      replace hv27 := Option.some.inj (hv27.symm.trans HX236_0.out)
                                      subst hv27
                                      clear hcc27 hcl27
                                      replace ge27_0 := (show Kd.R Kd.bool 4 _ _ _ _ (rd_L5 x5_1 (ji16)) from ge27_0)
                                      have HP27 := Kd.R_putg ge27_0 ((ji19) : Int) true
                                      go_wp2_with (first | ((with_reducible refine gate_store (t := 4) (p := 60) rfl ?_); refine store_event (t := 4) (p := 60) (v := ?vo_w28) (w1 := (wc.setCell ⟨go22, ((ji19) : Int).toNat, none⟩ (.bool true))) ?hg ?ho ?hn ?hr ?_; (case ho => rfl); (case hg => rfl); (case hn => rfl); (case hr => first | (go_simp; done) | (go_simp; rfl)); intro w28 hw; have hg : wc.grownBy w28 (some go22) := (by rw [hw]; exact HP27.2); have hz_ : Kd.R Kd.bool 4 w28 w.heap.size oki27 (.slice (some ⟨go22, 0, none⟩) (rd_L5 x5_1 (ji16)).length c236_0) y237 := (by rw [hw, Ny237.out]; exact HP27.1); have hp_ : Kd.S (Kd.slice 4 Kd.bool) 37 w28 w.heap.size (fun _ => True) (.slice (some ad236) x5_1.length co26) y239 := (by rw [Ny239.out]; exact hbk27 hg (fun k_ e_ => by injection e_ with e_; subst e_; exact ge27_0.1 _ rfl) (Kd.M_row hz_)); have hm_ := Kd.R_mono hz_ hok27; clear HP27 hbk27; have n0_ := Aside0.mk (hp_); have n1_ := Aside0.mk ((by rw [hw]; exact below_set (HB.out) GB22.out : Below w.heap.size w w28)); have n2_ := Aside0.mk (hm_); have n3_ := Aside0.mk ((Kd.R_reads' hm_).2.1); clear HO_5; clear HB; clear HL236_0; have HO_5 := n0_; have HB := n1_; have HL244 := n2_; have HC238 := n3_; clear n0_ n1_ n2_ n3_; clear hg hw hp_ hz_ hm_ hok27; have p240 : 0 ≤ ((ji19) : Int) := of_decide_eq_true (by first | (with_reducible assumption) | assumption); have q240 : (ji19) < (y239.length : Int) := (by have h_ : ((ji19) : Int) < ((x5_1.length : Int) : Int) := of_decide_eq_true (by first | (with_reducible assumption) | assumption); first | (have e_ := (Kd.S_reads' HO_5.out).1; omega) | simpa only [Ny239.out, List.length_set] using h_); have ql240 : (((ji19) : Int) < ((x5_1.length : Int) : Int)) = True := eq_true (of_decide_eq_true (by first | (with_reducible assumption) | assumption)); obtain ⟨ad240, A240_0, c240_0, e240, hx240_0, hl240_0, hi240_0⟩ := at_L5 (Kd.S_reads' HO_5.out).2.2 (ji19) p240 q240; obtain rfl : ad236 = ad240 := (by injection e240); obtain ⟨ce240, hce240, hMe240, hcc240⟩ := Kd.S_get HO_5.out [] (ji19) p240 (by first | exact q240 | exact of_decide_eq_true (by first | (with_reducible assumption) | assumption) | (have e_ := (Kd.S_reads' HO_5.out).1; omega)); obtain ⟨ve240_0, rfl, ge240_0⟩ := hMe240; have hv240_0 := hcc240 0 _ rfl; rw [Nat.add_zero, show ((Kd.slice 4 Kd.bool)).sz = 1 from rfl, Nat.mul_one] at hv240_0; replace hv240_0 := Option.some.inj (hv240_0.symm.trans hx240_0); rw [hv240_0] at ge240_0; have HL240_0 := Aside0.mk (show Kd.R Kd.bool 4 _ _ _ _ (rd_L5 y239 (ji19)) from ge240_0); clear hv240_0 ge240_0; have HX240_0 := Aside0.mk hx240_0; clear hcc240 hce240; have HR240_0 := Aside0.mk hi240_0; have HC240_0 := Aside0.mk hl240_0; clear hi240_0 hl240_0; replace p240 := eq_true p240; replace q240 := eq_true q240; have p25 : 0 ≤ ((ji16) : Int) := of_decide_eq_true (by first | (with_reducible assumption) | assumption); have q25 : ((ji16) : Int) < (((rd_L5 y239 (ji19)).length : Int) : Int) := of_decide_eq_true (by first | (with_reducible assumption) | assumption); obtain ⟨go25, co25, eo25, gb25, gl25, cl25, HG25⟩ := Kd.R_form HL240_0.out (by omega); (first | cases eo25 | (injection eo25 with ea_ en_ ec_; (first | subst ea_ | (injection ea_ with ea_; subst ea_)); subst ec_; clear en_)); have GB25 := Aside0.mk gb25; have GG25 := Aside0.mk HG25; clear gb25 gl25 HG25; obtain ⟨hx25_0, hf25_0⟩ := Kd.R_celln false HL240_0.out ((ji16) : Int) p25 q25; replace p25 := eq_true p25; replace q25 := eq_true q25; have hq29 : ((ji19) : Int) < (y239.length : Int) := (by have h_ : ((ji19) : Int) < ((x5_1.length : Int) : Int) := of_decide_eq_true (by first | (with_reducible assumption) | assumption); first | exact h_ | (have e_ := (Kd.S_reads' HO_5.out).1; omega) | simpa only [Ny239.out, List.length_set] using h_); obtain ⟨oki29, ce29, hcl29, hM29, hcc29, hok29, hbk29⟩ := Kd.S_borrow HO_5.out [] ((ji19) : Int) (of_decide_eq_true (by first | (with_reducible assumption) | assumption)) (by first | exact hq29 | (have e_ := (Kd.S_reads' HO_5.out).1; have h_ := hq29; omega)); obtain ⟨ve29_0, rfl, ge29_0⟩ := hM29; have hv29 := hcc29 0 _ rfl; rw [Nat.add_zero, show ((Kd.slice 4 Kd.bool)).sz = 1 from rfl, Nat.mul_one] at hv29; replace hv29 := Option.some.inj (hv29.symm.trans HX240_0.out); subst hv29; clear hcc29 hcl29; replace ge29_0 := (show Kd.R Kd.bool 4 _ _ _ _ (rd_L5 y239 (ji19)) from ge29_0); have HP29 := Kd.R_putg ge29_0 ((ji16) : Int) true) | ((with_reducible refine gate_store (t := 4) (p := 66) rfl ?_); refine store_event (t := 4) (p := 66) (v := ?vo_w30) (w1 := (w28.setCell ⟨go25, ((ji16) : Int).toNat, none⟩ (.bool true))) ?hg ?ho ?hn ?hr ?_; (case ho => rfl); (case hg => rfl); (case hn => rfl); (case hr => first | (go_simp; done) | (go_simp; rfl)); intro w30 hw; have hg : w28.grownBy w30 (some go25) := (by rw [hw]; exact HP29.2); have hz_ : Kd.R Kd.bool 4 w30 w.heap.size oki29 (.slice (some ⟨go25, 0, none⟩) (rd_L5 y239 (ji19)).length c240_0) y241 := (by rw [hw, Ny241.out]; exact HP29.1); have hp_ : Kd.S (Kd.slice 4 Kd.bool) 37 w30 w.heap.size (fun _ => True) (.slice (some ad236) x5_1.length co26) y243 := (by rw [Ny243.out]; exact hbk29 hg (fun k_ e_ => by injection e_ with e_; subst e_; exact ge29_0.1 _ rfl) (Kd.M_row hz_)); have hm_ := Kd.R_mono hz_ hok29; clear HP29 hbk29; have n0_ := Aside0.mk (hp_); have n1_ := Aside0.mk ((by rw [hw]; exact below_set (HB.out) GB25.out : Below w.heap.size w w30)); have n2_ := Aside0.mk (hm_); have n3_ := Aside0.mk ((Kd.R_reads' hm_).2.1); clear HO_5; clear HB; clear HL244; clear HL240_0; have HO_5 := n0_; have HB := n1_; have HL245 := n2_; have HC242 := n3_; clear n0_ n1_ n2_ n3_; clear hg hw hp_ hz_ hm_ hok29))
                                      go_roundg kj4
                                      case measure => have := HK1.out; have := HJ4.out; omega
                                      case rel => exact ⟨(y243), (wrap64 (x6_1 + 1)), (by first | rfl | (simp; done) | (simp [*]; done)), H', ⟨by have := HK1.out; have := HJ4.out; omega⟩, ⟨by (with_reducible repeat (first | apply Kd.S_alloc | apply Kd.S_drewN | apply Kd.S_drew)); exact HO_5.out⟩, ⟨by repeat (first | (with_reducible first | exact HB.out | apply below_alloc | apply pw_below_drewN | apply below_drew1) | exact HB.out)⟩⟩
                                    · rw [if_neg c24] at H
                                      exact absurd H (by simp)
                                  · rw [if_neg c23] at H
                                    exact absurd H (by simp)
                                · rw [if_neg c21] at H
                                  exact absurd H (by simp)
                              · rw [if_neg c20] at H
                                exact absurd H (by simp)
                            · rw [if_neg c18] at H
                              exact absurd H (by simp)
                          · rw [if_neg c17] at H
                            exact absurd H (by simp)
                      · rw [if_neg c14] at H
                        exact absurd H (by simp)
                  · rw [if_neg c12] at H
                    exact absurd H (by simp)
              · rw [if_neg c10] at H
                exact absurd H (by simp)
            · rw [if_neg c9] at H
              exact absurd H (by simp)
          · replace c8 := Bool.eq_false_iff.mpr c8
            subst c8
            have H1 : (some x5_1) = some r := by rw [if_neg (show ¬ (false = true) by decide)] at H; exact H
            clear H
            have H := H1
            clear H1
            obtain rfl := Option.some.inj H
            go_wp2
            go_ret
            exact ⟨_, by first | rfl | (simp [errW_none, errW_some] <;> rfl) | (simp [*, errW_none, errW_some] <;> rfl), by (with_reducible repeat (first | apply Kd.S_alloc | apply Kd.S_drewN | apply Kd.S_drew)); exact HO_5.out, by repeat (first | (with_reducible first | exact HB.out | apply below_alloc | apply pw_below_drewN | apply below_drew1) | exact HB.out)⟩

end Go.Proofs.YtaodbohfhelokaaDoor.Pr
