-- Printed by a program of this session's own (wip/tools/pp.py) over the kit's print.py; Lean checks it.
import Derived.Test.YtefmpehjahfnpaaDoorPr0
import Derived.Test.YtefmpehjahfnpaaDoorPr22
namespace Go.Proofs.YtefmpehjahfnpaaDoor.Pr
open Go.RowKit Go.Proofs.YtefmpehjahfnpaaDoorW.PrintWords Go.Proofs.YtefmpehjahfnpaaDoorW.PrintLast Go.Proofs.YtefmpehjahfnpaaDoorW.PrintMore
attribute [local go_sem] max2_int min2_int max_two min_two max_three min_three max_four min_four   -- for this text's walks alone
set_option linter.unusedVariables false
set_option linter.unusedSimpArgs false

/-! ### arboristlaw09_made: function 9 -/
mutual
def arboristlaw09_made.l0 : Nat → Int → List (List Int) → List (List Bool) → Int → Option ((List (List Bool)))
  | 0, _, _, _, _ => none
  | k + 1, x0, x1, x5, x6 => if x6 < (x1.length : Int) then (if x6 < 40 then (arboristlaw09_made.j1 k x0 x1 x5 x6 (decide (x0 > 0))) else (arboristlaw09_made.j1 k x0 x1 x5 x6 false)) else (arboristlaw09_made.j1 k x0 x1 x5 x6 false)
def arboristlaw09_made.j1 : Nat → Int → List (List Int) → List (List Bool) → Int → Bool → Option ((List (List Bool)))
  | 0, _, _, _, _, _ => none
  | k + 1, x0, x1, x5, x6, x25 => if x25 = true then (if 0 ≤ x6 then (if x6 < (x1.length : Int) then (if ((rd_L2 x1 x6).length : Int) < 2 then (arboristlaw09_made.l0 k x0 x1 x5 (wrap64 (x6 + 1))) else (if 0 < ((rd_L2 x1 x6).length : Int) then (if x0 = 0 then (none) else (if 1 < ((rd_L2 x1 x6).length : Int) then (if (Int.tmod (Go.bits .and .i64 (rd (rd_L2 x1 x6) 0) 65535) x0) = (Int.tmod (Go.bits .and .i64 (rd (rd_L2 x1 x6) 1) 65535) x0) then (arboristlaw09_made.l0 k x0 x1 x5 (wrap64 (x6 + 1))) else (if 0 ≤ (Int.tmod (Go.bits .and .i64 (rd (rd_L2 x1 x6) 0) 65535) x0) then (if (Int.tmod (Go.bits .and .i64 (rd (rd_L2 x1 x6) 0) 65535) x0) < (x5.length : Int) then (if 0 ≤ (Int.tmod (Go.bits .and .i64 (rd (rd_L2 x1 x6) 1) 65535) x0) then (if (Int.tmod (Go.bits .and .i64 (rd (rd_L2 x1 x6) 1) 65535) x0) < ((rd_L6 x5 (Int.tmod (Go.bits .and .i64 (rd (rd_L2 x1 x6) 0) 65535) x0)).length : Int) then ((some (x5.set ((Int.tmod (Go.bits .and .i64 (rd (rd_L2 x1 x6) 0) 65535) x0) : Int).toNat ((rd_L6 x5 (Int.tmod (Go.bits .and .i64 (rd (rd_L2 x1 x6) 0) 65535) x0)).set ((Int.tmod (Go.bits .and .i64 (rd (rd_L2 x1 x6) 1) 65535) x0) : Int).toNat true) : List (List Bool))).bind fun y281 => (if (Int.tmod (Go.bits .and .i64 (rd (rd_L2 x1 x6) 1) 65535) x0) < (x5.length : Int) then (if (Int.tmod (Go.bits .and .i64 (rd (rd_L2 x1 x6) 0) 65535) x0) < ((rd_L6 y281 (Int.tmod (Go.bits .and .i64 (rd (rd_L2 x1 x6) 1) 65535) x0)).length : Int) then (arboristlaw09_made.l0 k x0 x1 (y281.set ((Int.tmod (Go.bits .and .i64 (rd (rd_L2 x1 x6) 1) 65535) x0) : Int).toNat ((rd_L6 y281 (Int.tmod (Go.bits .and .i64 (rd (rd_L2 x1 x6) 1) 65535) x0)).set ((Int.tmod (Go.bits .and .i64 (rd (rd_L2 x1 x6) 0) 65535) x0) : Int).toNat true)) (wrap64 (x6 + 1))) else (none)) else (none))) else (none)) else (none)) else (none)) else (none))) else (none))) else (none))) else (none)) else (none)) else (some x5)
end
def arboristlaw09_made.f (k : Nat) (a0 : Int) (l1 : List (List Int)) : Option ((List (List Bool))) := (arboristref08_Empty.f k (Int.tmod (Go.bits .and .i64 a0 65535) 10)).bind fun t270 => (arboristlaw09_made.l0 k (Int.tmod (Go.bits .and .i64 a0 65535) 10) l1 t270 0)
theorem arboristlaw09_made.mono_l : ∀ k, (∀ y0 y1 y2 y3, LeO (arboristlaw09_made.l0 k y0 y1 y2 y3) (arboristlaw09_made.l0 (k + 1) y0 y1 y2 y3)) ∧ (∀ y0 y1 y2 y3 y4, LeO (arboristlaw09_made.j1 k y0 y1 y2 y3 y4) (arboristlaw09_made.j1 (k + 1) y0 y1 y2 y3 y4))
  | 0 => ⟨fun _ _ _ _ r h => by simp [arboristlaw09_made.l0] at h, fun _ _ _ _ _ r h => by simp [arboristlaw09_made.j1] at h⟩
  | k + 1 => by
    obtain ⟨ih0, ih1⟩ := arboristlaw09_made.mono_l k
    refine ⟨?_, ?_⟩
    all_goals intros
    all_goals (first | unfold arboristlaw09_made.l0 | unfold arboristlaw09_made.j1)
    all_goals repeat' first
    | (with_reducible exact ih0 _ _ _ _)
    | (with_reducible exact ih1 _ _ _ _ _)
    | (with_reducible exact arboristref08_Empty.mono _ _)
    | (with_reducible exact LeO.refl _)
    | (with_reducible exact LeO.none _)
    | (with_reducible refine LeO.ite ?_ ?_)
    | (with_reducible refine LeO.bind ?_ (fun _ => ?_))
    | exact ih0 _ _ _ _
    | exact ih1 _ _ _ _ _
    | exact arboristref08_Empty.mono _ _
    | exact LeO.none _
    | refine LeO.ite ?_ ?_
    | refine LeO.bind ?_ (fun _ => ?_)
theorem arboristlaw09_made.mono : ∀ a0 a1 k, LeO (arboristlaw09_made.f k a0 a1) (arboristlaw09_made.f (k + 1) a0 a1) := by
  intro a0 a1 k
  obtain ⟨ih0, ih1⟩ := arboristlaw09_made.mono_l k
  unfold arboristlaw09_made.f
  repeat' first
      | (with_reducible exact ih0 _ _ _ _)
      | (with_reducible exact ih1 _ _ _ _ _)
      | (with_reducible exact arboristref08_Empty.mono _ _)
      | (with_reducible exact LeO.refl _)
      | (with_reducible exact LeO.none _)
      | (with_reducible refine LeO.ite ?_ ?_)
      | (with_reducible refine LeO.bind ?_ (fun _ => ?_))
      | exact ih0 _ _ _ _
      | exact ih1 _ _ _ _ _
      | exact arboristref08_Empty.mono _ _
      | exact LeO.none _
      | refine LeO.ite ?_ ?_
      | refine LeO.bind ?_ (fun _ => ?_)
set_option maxHeartbeats 8000000 in
set_option maxRecDepth 100000 in
theorem arboristlaw09_made.calls (k : Nat) (a0 : Int) (A1 : Option Addr) (c1 : Nat) (l1 : List (List Int)) (r : List (List Bool)) (w : World) (hr1 : Kd.C (Kd.slice 3 (Kd.int .i64)) w A1 l1.length l1) (hc1 : l1.length ≤ c1) (h : arboristlaw09_made.f k a0 l1 = some r) :
    Calls Tryd.prog 9 #[.int .i64 a0, .slice A1 l1.length c1] w fun e w' => ∃ v0_ : Value, e = .returned (v0_) ∧ Kd.S (Kd.slice 4 Kd.bool) 42 w' w.heap.size (fun _ => True) v0_ r ∧ Below w.heap.size w w' := by
  have HR1 := Aside0.mk hr1
  have HC1 := Aside0.mk hc1
  clear hr1 hc1
  have HB := Aside0.mk (Below.refl w.heap.size w)
  have H : ((arboristref08_Empty.f k (Int.tmod (Go.bits .and .i64 a0 65535) 10)).bind fun t270 => (arboristlaw09_made.l0 k (Int.tmod (Go.bits .and .i64 a0 65535) 10) l1 t270 0)) = some r := h
  clear h
  replace H := Option.bind_eq_some_iff.mp H
  obtain ⟨t270, A30, H⟩ := H
  replace H : (arboristlaw09_made.l0 k (Int.tmod (Go.bits .and .i64 a0 65535) 10) l1 t270 0) = some r := H
  have A3 := Aside0.mk A30
  clear A30
  have H' := Aside0.mk H
  clear H
  go_enter Tryd.func9, Tryd.ntmps9
  go_wp2_with (first | ((with_reducible refine gate_callee (f := 19) rfl ?_); refine goesL_ (some 13) rfl rfl Tryd.func19 (by kernel_rfl) rfl #[.int .i64 (Int.tmod (Go.bits .and .i64 a0 65535) 10)] rfl (by (try simp only [List.map_toArray, List.map_cons, List.map_nil]); first | done | rfl | (simp only [List.length_drop, List.length_take]; rfl)) ?_; (with_reducible refine (arboristref08_Empty.calls k (Int.tmod (Go.bits .and .i64 a0 65535) 10) t270 _ A3.out).mono ?_); rintro e w4 ⟨v271, rfl, ho0, hb⟩; refine ⟨_, rfl, ?_⟩; have n0_ := Aside0.mk (Kd.S_lower ho0 (below_size (by repeat (first | (with_reducible first | exact HB.out | apply below_alloc | apply pw_below_drewN | apply below_drew1) | exact HB.out)))); have n1_ := Aside0.mk (below_step (by repeat (first | (with_reducible first | exact HB.out | apply below_alloc | apply pw_below_drewN | apply below_drew1) | exact HB.out)) hb); clear HB; have HO272 := n0_; have HB := n1_; clear n0_ n1_; (try clear hb); (try clear hb2); (try clear hk); (try clear hi); (try clear ho0)))
  go_loopg [6] k (fun kq v6 w' => ∃ (x5_1 : List (List Bool)) (x6_1 : Int), v6 = .int .i64 x6_1 ∧ Aside0 (arboristlaw09_made.l0 kq (Int.tmod (Go.bits .and .i64 a0 65535) 10) l1 x5_1 x6_1 = some r) ∧ Aside0 (kq ≤ k) ∧ Aside0 (Kd.S (Kd.slice 4 Kd.bool) 42 w' w.heap.size (fun _ => True) v271 x5_1) ∧ Aside0 (Below w.heap.size w w'))
  case atStart => exact ⟨(t270), (0), (by first | rfl | (simp; done) | (simp [*]; done)), H', ⟨Nat.le_refl _⟩, ⟨by (with_reducible repeat (first | apply Kd.S_alloc | apply Kd.S_drewN | apply Kd.S_drew)); exact HO272.out⟩, ⟨by repeat (first | (with_reducible first | exact HB.out | apply below_alloc | apply pw_below_drewN | apply below_drew1) | exact HB.out)⟩⟩
  case round =>
    clear H'
    try clear c1
    try clear p2
    obtain ⟨x5_1, x6_1, rfl, HA, HK1, HO_5, HB⟩ := hrel
    cases gk with
    | zero => exact absurd HA.out (by simp [arboristlaw09_made.l0])
    | succ k1 =>
      have H := HA.out
      clear HA
      simp only [arboristlaw09_made.l0] at H
      have HC5 := Aside0.mk H
      clear H
      go_upto_region 4 with (fail)
      go_cut [25] (fun v25 wc => ∃ (kq : Nat) (x25_4 : Bool), v25 = .bool x25_4 ∧ Aside0 (arboristlaw09_made.j1 kq (Int.tmod (Go.bits .and .i64 a0 65535) 10) l1 x5_1 x6_1 x25_4 = some r) ∧ Aside0 (kq ≤ k1) ∧ Aside0 (Kd.S (Kd.slice 4 Kd.bool) 42 wc w.heap.size (fun _ => True) v271 x5_1) ∧ Aside0 (Below w.heap.size w wc))
      case first =>
        have H := HC5.out
        clear HC5
        by_cases c6 : x6_1 < (l1.length : Int)
        · rw [if_pos c6] at H
          have c6b0 : decide (x6_1 < (l1.length : Int)) = true := decide_eq_true c6
          clear c6
          (first | rw [c6b0] | (simp only [i64_w, i32_w]; rw [c6b0]) | skip)
          by_cases c7 : x6_1 < 40
          · rw [if_pos c7] at H
            have c7b0 : decide (x6_1 < 40) = true := decide_eq_true c7
            clear c7
            have H' := Aside0.mk H
            clear H
            go_wp2
            go_meet
            case rel => exact ⟨_, (decide ((Int.tmod (Go.bits .and .i64 a0 65535) 10) > 0)), (by first | rfl | (simp; done) | (simp [*]; done)), H', ⟨by have := HK1.out; first | omega | exact Nat.le_refl _⟩, ⟨by (with_reducible repeat (first | apply Kd.S_alloc | apply Kd.S_drewN | apply Kd.S_drew)); exact HO_5.out⟩, ⟨by repeat (first | (with_reducible first | exact HB.out | apply below_alloc | apply pw_below_drewN | apply below_drew1) | exact HB.out)⟩⟩
          · rw [if_neg c7] at H
            have c7b0 : decide (x6_1 < 40) = false := decide_eq_false c7
            clear c7
            have H' := Aside0.mk H
            clear H
            go_wp2
            go_meet
            case rel => exact ⟨_, (false), (by first | rfl | (simp; done) | (simp [*]; done)), H', ⟨by have := HK1.out; first | omega | exact Nat.le_refl _⟩, ⟨by (with_reducible repeat (first | apply Kd.S_alloc | apply Kd.S_drewN | apply Kd.S_drew)); exact HO_5.out⟩, ⟨by repeat (first | (with_reducible first | exact HB.out | apply below_alloc | apply pw_below_drewN | apply below_drew1) | exact HB.out)⟩⟩
        · rw [if_neg c6] at H
          have c6b0 : decide (x6_1 < (l1.length : Int)) = false := decide_eq_false c6
          clear c6
          (first | rw [c6b0] | (simp only [i64_w, i32_w]; rw [c6b0]) | skip)
          have H' := Aside0.mk H
          clear H
          go_wp2
          go_meet
          case rel => exact ⟨_, (false), (by first | rfl | (simp; done) | (simp [*]; done)), H', ⟨by have := HK1.out; first | omega | exact Nat.le_refl _⟩, ⟨by (with_reducible repeat (first | apply Kd.S_alloc | apply Kd.S_drewN | apply Kd.S_drew)); exact HO_5.out⟩, ⟨by repeat (first | (with_reducible first | exact HB.out | apply below_alloc | apply pw_below_drewN | apply below_drew1) | exact HB.out)⟩⟩
      case rest =>
        clear HC5
        try clear c1
        try clear p2
        try clear c6
        try clear c6b0
        try clear c7
        try clear c7b0
        try clear p2
        obtain ⟨kq, x25_4, rfl, HA, HJ4, HO_5, HB⟩ := hcut
        cases kq with
        | zero => exact absurd HA.out (by simp [arboristlaw09_made.j1])
        | succ kj4 =>
          have H := HA.out
          clear HA
          simp only [arboristlaw09_made.j1] at H
          by_cases c8 : x25_4 = true
          · subst c8
            have H1 : (if 0 ≤ x6_1 then (if x6_1 < (l1.length : Int) then (if ((rd_L2 l1 x6_1).length : Int) < 2 then (arboristlaw09_made.l0 kj4 (Int.tmod (Go.bits .and .i64 a0 65535) 10) l1 x5_1 (wrap64 (x6_1 + 1))) else (if 0 < ((rd_L2 l1 x6_1).length : Int) then (if (Int.tmod (Go.bits .and .i64 a0 65535) 10) = 0 then (none) else (if 1 < ((rd_L2 l1 x6_1).length : Int) then (if (Int.tmod (Go.bits .and .i64 (rd (rd_L2 l1 x6_1) 0) 65535) (Int.tmod (Go.bits .and .i64 a0 65535) 10)) = (Int.tmod (Go.bits .and .i64 (rd (rd_L2 l1 x6_1) 1) 65535) (Int.tmod (Go.bits .and .i64 a0 65535) 10)) then (arboristlaw09_made.l0 kj4 (Int.tmod (Go.bits .and .i64 a0 65535) 10) l1 x5_1 (wrap64 (x6_1 + 1))) else (if 0 ≤ (Int.tmod (Go.bits .and .i64 (rd (rd_L2 l1 x6_1) 0) 65535) (Int.tmod (Go.bits .and .i64 a0 65535) 10)) then (if (Int.tmod (Go.bits .and .i64 (rd (rd_L2 l1 x6_1) 0) 65535) (Int.tmod (Go.bits .and .i64 a0 65535) 10)) < (x5_1.length : Int) then (if 0 ≤ (Int.tmod (Go.bits .and .i64 (rd (rd_L2 l1 x6_1) 1) 65535) (Int.tmod (Go.bits .and .i64 a0 65535) 10)) then (if (Int.tmod (Go.bits .and .i64 (rd (rd_L2 l1 x6_1) 1) 65535) (Int.tmod (Go.bits .and .i64 a0 65535) 10)) < ((rd_L6 x5_1 (Int.tmod (Go.bits .and .i64 (rd (rd_L2 l1 x6_1) 0) 65535) (Int.tmod (Go.bits .and .i64 a0 65535) 10))).length : Int) then ((some (x5_1.set ((Int.tmod (Go.bits .and .i64 (rd (rd_L2 l1 x6_1) 0) 65535) (Int.tmod (Go.bits .and .i64 a0 65535) 10)) : Int).toNat ((rd_L6 x5_1 (Int.tmod (Go.bits .and .i64 (rd (rd_L2 l1 x6_1) 0) 65535) (Int.tmod (Go.bits .and .i64 a0 65535) 10))).set ((Int.tmod (Go.bits .and .i64 (rd (rd_L2 l1 x6_1) 1) 65535) (Int.tmod (Go.bits .and .i64 a0 65535) 10)) : Int).toNat true) : List (List Bool))).bind fun y281 => (if (Int.tmod (Go.bits .and .i64 (rd (rd_L2 l1 x6_1) 1) 65535) (Int.tmod (Go.bits .and .i64 a0 65535) 10)) < (x5_1.length : Int) then (if (Int.tmod (Go.bits .and .i64 (rd (rd_L2 l1 x6_1) 0) 65535) (Int.tmod (Go.bits .and .i64 a0 65535) 10)) < ((rd_L6 y281 (Int.tmod (Go.bits .and .i64 (rd (rd_L2 l1 x6_1) 1) 65535) (Int.tmod (Go.bits .and .i64 a0 65535) 10))).length : Int) then (arboristlaw09_made.l0 kj4 (Int.tmod (Go.bits .and .i64 a0 65535) 10) l1 (y281.set ((Int.tmod (Go.bits .and .i64 (rd (rd_L2 l1 x6_1) 1) 65535) (Int.tmod (Go.bits .and .i64 a0 65535) 10)) : Int).toNat ((rd_L6 y281 (Int.tmod (Go.bits .and .i64 (rd (rd_L2 l1 x6_1) 1) 65535) (Int.tmod (Go.bits .and .i64 a0 65535) 10))).set ((Int.tmod (Go.bits .and .i64 (rd (rd_L2 l1 x6_1) 0) 65535) (Int.tmod (Go.bits .and .i64 a0 65535) 10)) : Int).toNat true)) (wrap64 (x6_1 + 1))) else (none)) else (none))) else (none)) else (none)) else (none)) else (none))) else (none))) else (none))) else (none)) else (none)) = some r := by rw [if_pos rfl] at H; exact H
            clear H
            have H := H1
            clear H1
            by_cases c9 : 0 ≤ x6_1
            · rw [if_pos c9] at H
              have c9b0 : decide (0 ≤ x6_1) = true := decide_eq_true c9
              clear c9
              by_cases c10 : x6_1 < (l1.length : Int)
              · rw [if_pos c10] at H
                have c10b0 : decide (x6_1 < (l1.length : Int)) = true := decide_eq_true c10
                clear c10
                by_cases c11 : ((rd_L2 l1 x6_1).length : Int) < 2
                · rw [if_pos c11] at H
                  have c11b0 : decide (((rd_L2 l1 x6_1).length : Int) < 2) = true := decide_eq_true c11
                  have c11b1 : decide ((rd_L2 l1 x6_1).length < 2) = true := decide_eq_true (by omega)
                  clear c11
                  have H' := Aside0.mk H
                  clear H
                  have p273 : 0 ≤ (x6_1 : Int) := of_decide_eq_true (by first | (with_reducible assumption) | assumption)
                  have q273 : x6_1 < (l1.length : Int) := of_decide_eq_true (by first | (with_reducible assumption) | assumption)
                  obtain ⟨ad273, A273_0, c273_0, e273, hx273_0, hl273_0, hi273_0⟩ := at_L2 HR1.out x6_1 p273 q273
                  cases e273
                  replace hx273_0 := (HB.out.cell (World.block_lt_of_cell? w _ hx273_0)).trans hx273_0
                  have HR273_0 := Aside0.mk hi273_0
                  have HC273_0 := Aside0.mk hl273_0
                  clear hi273_0 hl273_0
                  replace p273 := eq_true p273
                  replace q273 := eq_true q273
                  go_wp2
                  go_roundg kj4
                  case measure => have := HK1.out; have := HJ4.out; omega
                  case rel => exact ⟨(x5_1), (wrap64 (x6_1 + 1)), (by first | rfl | (simp; done) | (simp [*]; done)), H', ⟨by have := HK1.out; have := HJ4.out; omega⟩, ⟨by (with_reducible repeat (first | apply Kd.S_alloc | apply Kd.S_drewN | apply Kd.S_drew)); exact HO_5.out⟩, ⟨by repeat (first | (with_reducible first | exact HB.out | apply below_alloc | apply pw_below_drewN | apply below_drew1) | exact HB.out)⟩⟩
                · rw [if_neg c11] at H
                  have c11b0 : decide (((rd_L2 l1 x6_1).length : Int) < 2) = false := decide_eq_false c11
                  have c11b1 : decide ((rd_L2 l1 x6_1).length < 2) = false := decide_eq_false (by omega)
                  clear c11
                  by_cases c12 : 0 < ((rd_L2 l1 x6_1).length : Int)
                  · rw [if_pos c12] at H
                    have c12b0 : decide (0 < ((rd_L2 l1 x6_1).length : Int)) = true := decide_eq_true c12
                    have c12b1 : decide (0 < (rd_L2 l1 x6_1).length) = true := decide_eq_true (by omega)
                    clear c12
                    by_cases c13 : (Int.tmod (Go.bits .and .i64 a0 65535) 10) = 0
                    · rw [if_pos c13] at H
                      exact absurd H (by simp)
                    · rw [if_neg c13] at H
                      have c13b0 : ((Int.tmod (Go.bits .and .i64 a0 65535) 10) == 0) = false := beq_eq_false_iff_ne.mpr c13
                      have c13b1 : ((Int.tmod (Go.bits .and .i64 a0 65535) 10) != 0) = true := bne_iff_ne.mpr c13
                      by_cases c14 : 1 < ((rd_L2 l1 x6_1).length : Int)
                      · rw [if_pos c14] at H
                        have c14b0 : decide (1 < ((rd_L2 l1 x6_1).length : Int)) = true := decide_eq_true c14
                        have c14b1 : decide (1 < (rd_L2 l1 x6_1).length) = true := decide_eq_true (by omega)
                        clear c14
                        by_cases c15 : (Int.tmod (Go.bits .and .i64 (rd (rd_L2 l1 x6_1) 0) 65535) (Int.tmod (Go.bits .and .i64 a0 65535) 10)) = (Int.tmod (Go.bits .and .i64 (rd (rd_L2 l1 x6_1) 1) 65535) (Int.tmod (Go.bits .and .i64 a0 65535) 10))
                        · rw [if_pos c15] at H
                          have c15b0 : ((Int.tmod (Go.bits .and .i64 (rd (rd_L2 l1 x6_1) 0) 65535) (Int.tmod (Go.bits .and .i64 a0 65535) 10)) == (Int.tmod (Go.bits .and .i64 (rd (rd_L2 l1 x6_1) 1) 65535) (Int.tmod (Go.bits .and .i64 a0 65535) 10))) = true := beq_iff_eq.mpr c15
                          have c15b1 : ((Int.tmod (Go.bits .and .i64 (rd (rd_L2 l1 x6_1) 0) 65535) (Int.tmod (Go.bits .and .i64 a0 65535) 10)) != (Int.tmod (Go.bits .and .i64 (rd (rd_L2 l1 x6_1) 1) 65535) (Int.tmod (Go.bits .and .i64 a0 65535) 10))) = false := bne_eq_false_iff_eq.mpr c15
                          clear c15
                          have H' := Aside0.mk H
                          clear H
                          have p273 : 0 ≤ (x6_1 : Int) := of_decide_eq_true (by first | (with_reducible assumption) | assumption)
                          have q273 : x6_1 < (l1.length : Int) := of_decide_eq_true (by first | (with_reducible assumption) | assumption)
                          obtain ⟨ad273, A273_0, c273_0, e273, hx273_0, hl273_0, hi273_0⟩ := at_L2 HR1.out x6_1 p273 q273
                          cases e273
                          replace hx273_0 := (HB.out.cell (World.block_lt_of_cell? w _ hx273_0)).trans hx273_0
                          have HR273_0 := Aside0.mk hi273_0
                          have HC273_0 := Aside0.mk hl273_0
                          clear hi273_0 hl273_0
                          replace p273 := eq_true p273
                          replace q273 := eq_true q273
                          have p274 : 0 ≤ (x6_1 : Int) := of_decide_eq_true (by first | (with_reducible assumption) | assumption)
                          have q274 : x6_1 < (l1.length : Int) := of_decide_eq_true (by first | (with_reducible assumption) | assumption)
                          obtain ⟨ad274, A274_0, c274_0, e274, hx274_0, hl274_0, hi274_0⟩ := at_L2 HR1.out x6_1 p274 q274
                          obtain rfl : ad273 = ad274 := (by injection e274)
                          replace hx274_0 := (HB.out.cell (World.block_lt_of_cell? w _ hx274_0)).trans hx274_0
                          have HR274_0 := Aside0.mk hi274_0
                          have HC274_0 := Aside0.mk hl274_0
                          clear hi274_0 hl274_0
                          replace p274 := eq_true p274
                          replace q274 := eq_true q274
                          have ea_ := Option.some.inj (hx273_0.symm.trans hx274_0)
                          injection ea_ with ea_ en_ ec_
                          subst ea_
                          subst ec_
                          clear en_
                          have p275 : 0 ≤ (0 : Int) := (by omega)
                          have q275 : 0 < ((rd_L2 l1 x6_1).length : Int) := of_decide_eq_true (by first | (with_reducible assumption) | assumption)
                          obtain ⟨ad275, e275, hx275_0⟩ := Kd.at_int HR274_0.out 0 p275 q275
                          cases e275
                          have qi275 : (0 < (rd_L2 l1 x6_1).length) = True := eq_true (by omega)
                          (try rw [show ((0 : Int)).toNat = 0 from rfl] at hx275_0)
                          (try rw [Addr.add_zero'] at hx275_0)
                          replace hx275_0 := (HB.out.cell (World.block_lt_of_cell? w _ hx275_0)).trans hx275_0
                          replace p275 := eq_true p275
                          replace q275 := eq_true q275
                          have p276 : 0 ≤ (x6_1 : Int) := of_decide_eq_true (by first | (with_reducible assumption) | assumption)
                          have q276 : x6_1 < (l1.length : Int) := of_decide_eq_true (by first | (with_reducible assumption) | assumption)
                          obtain ⟨ad276, A276_0, c276_0, e276, hx276_0, hl276_0, hi276_0⟩ := at_L2 HR1.out x6_1 p276 q276
                          obtain rfl : ad273 = ad276 := (by injection e276)
                          replace hx276_0 := (HB.out.cell (World.block_lt_of_cell? w _ hx276_0)).trans hx276_0
                          have HR276_0 := Aside0.mk hi276_0
                          have HC276_0 := Aside0.mk hl276_0
                          clear hi276_0 hl276_0
                          replace p276 := eq_true p276
                          replace q276 := eq_true q276
                          have ea_ := Option.some.inj (hx273_0.symm.trans hx276_0)
                          injection ea_ with ea_ en_ ec_
                          subst ea_
                          subst ec_
                          clear en_
                          have p277 : 0 ≤ (1 : Int) := (by omega)
                          have q277 : 1 < ((rd_L2 l1 x6_1).length : Int) := of_decide_eq_true (by first | (with_reducible assumption) | assumption)
                          obtain ⟨ad277, e277, hx277_0⟩ := Kd.at_int HR276_0.out 1 p277 q277
                          cases e277
                          (try simp only [show (1 : Int).toNat = 1 from rfl, Nat.reduceMul, Nat.reduceEqDiff, Go.Addr.add, ↓reduceIte] at hx277_0)
                          have qi277 : (1 < (rd_L2 l1 x6_1).length) = True := eq_true (by omega)
                          (try rw [show ((1 : Int)).toNat = 1 from rfl] at hx277_0)
                          replace hx277_0 := (HB.out.cell (World.block_lt_of_cell? w _ hx277_0)).trans hx277_0
                          replace p277 := eq_true p277
                          replace q277 := eq_true q277
                          go_wp2
                          go_roundg kj4
                          case measure => have := HK1.out; have := HJ4.out; omega
                          case rel => exact ⟨(x5_1), (wrap64 (x6_1 + 1)), (by first | rfl | (simp; done) | (simp [*]; done)), H', ⟨by have := HK1.out; have := HJ4.out; omega⟩, ⟨by (with_reducible repeat (first | apply Kd.S_alloc | apply Kd.S_drewN | apply Kd.S_drew)); exact HO_5.out⟩, ⟨by repeat (first | (with_reducible first | exact HB.out | apply below_alloc | apply pw_below_drewN | apply below_drew1) | exact HB.out)⟩⟩
                        · rw [if_neg c15] at H
                          have c15b0 : ((Int.tmod (Go.bits .and .i64 (rd (rd_L2 l1 x6_1) 0) 65535) (Int.tmod (Go.bits .and .i64 a0 65535) 10)) == (Int.tmod (Go.bits .and .i64 (rd (rd_L2 l1 x6_1) 1) 65535) (Int.tmod (Go.bits .and .i64 a0 65535) 10))) = false := beq_eq_false_iff_ne.mpr c15
                          have c15b1 : ((Int.tmod (Go.bits .and .i64 (rd (rd_L2 l1 x6_1) 0) 65535) (Int.tmod (Go.bits .and .i64 a0 65535) 10)) != (Int.tmod (Go.bits .and .i64 (rd (rd_L2 l1 x6_1) 1) 65535) (Int.tmod (Go.bits .and .i64 a0 65535) 10))) = true := bne_iff_ne.mpr c15
                          obtain ⟨ji16, hji16⟩ : ∃ j_ : Int, (Int.tmod (Go.bits .and .i64 (rd (rd_L2 l1 x6_1) 0) 65535) (Int.tmod (Go.bits .and .i64 a0 65535) 10)) = j_ := ⟨_, rfl⟩
                          replace H : (if 0 ≤ (ji16) then (if (ji16) < (x5_1.length : Int) then (if 0 ≤ (Int.tmod (Go.bits .and .i64 (rd (rd_L2 l1 x6_1) 1) 65535) (Int.tmod (Go.bits .and .i64 a0 65535) 10)) then (if (Int.tmod (Go.bits .and .i64 (rd (rd_L2 l1 x6_1) 1) 65535) (Int.tmod (Go.bits .and .i64 a0 65535) 10)) < ((rd_L6 x5_1 (ji16)).length : Int) then ((some (x5_1.set ((ji16) : Int).toNat ((rd_L6 x5_1 (ji16)).set ((Int.tmod (Go.bits .and .i64 (rd (rd_L2 l1 x6_1) 1) 65535) (Int.tmod (Go.bits .and .i64 a0 65535) 10)) : Int).toNat true) : List (List Bool))).bind fun y281 => (if (Int.tmod (Go.bits .and .i64 (rd (rd_L2 l1 x6_1) 1) 65535) (Int.tmod (Go.bits .and .i64 a0 65535) 10)) < (x5_1.length : Int) then (if (ji16) < ((rd_L6 y281 (Int.tmod (Go.bits .and .i64 (rd (rd_L2 l1 x6_1) 1) 65535) (Int.tmod (Go.bits .and .i64 a0 65535) 10))).length : Int) then (arboristlaw09_made.l0 kj4 (Int.tmod (Go.bits .and .i64 a0 65535) 10) l1 (y281.set ((Int.tmod (Go.bits .and .i64 (rd (rd_L2 l1 x6_1) 1) 65535) (Int.tmod (Go.bits .and .i64 a0 65535) 10)) : Int).toNat ((rd_L6 y281 (Int.tmod (Go.bits .and .i64 (rd (rd_L2 l1 x6_1) 1) 65535) (Int.tmod (Go.bits .and .i64 a0 65535) 10))).set ((ji16) : Int).toNat true)) (wrap64 (x6_1 + 1))) else (none)) else (none))) else (none)) else (none)) else (none)) else (none)) = some r := by first | (rw [hji16] at H; exact H) | (simp only [hji16] at H ⊢; exact H)
                          (try rw [hji16] at c15b0)
                          (try rw [hji16] at c15b1)
                          by_cases c17 : 0 ≤ (ji16)
                          · rw [if_pos c17] at H
                            have c17b0 : decide (0 ≤ (ji16)) = true := decide_eq_true c17
                            clear c17
                            by_cases c18 : (ji16) < (x5_1.length : Int)
                            · rw [if_pos c18] at H
                              have c18b0 : decide ((ji16) < (x5_1.length : Int)) = true := decide_eq_true c18
                              clear c18
                              obtain ⟨ji19, hji19⟩ : ∃ j_ : Int, (Int.tmod (Go.bits .and .i64 (rd (rd_L2 l1 x6_1) 1) 65535) (Int.tmod (Go.bits .and .i64 a0 65535) 10)) = j_ := ⟨_, rfl⟩
                              replace H : (if 0 ≤ (ji19) then (if (ji19) < ((rd_L6 x5_1 (ji16)).length : Int) then ((some (x5_1.set ((ji16) : Int).toNat ((rd_L6 x5_1 (ji16)).set ((ji19) : Int).toNat true) : List (List Bool))).bind fun y281 => (if (ji19) < (x5_1.length : Int) then (if (ji16) < ((rd_L6 y281 (ji19)).length : Int) then (arboristlaw09_made.l0 kj4 (Int.tmod (Go.bits .and .i64 a0 65535) 10) l1 (y281.set ((ji19) : Int).toNat ((rd_L6 y281 (ji19)).set ((ji16) : Int).toNat true)) (wrap64 (x6_1 + 1))) else (none)) else (none))) else (none)) else (none)) = some r := by first | (rw [hji19] at H; exact H) | (simp only [hji19] at H ⊢; exact H)
                              (try rw [hji19] at c15b0)
                              (try rw [hji19] at c15b1)
                              by_cases c20 : 0 ≤ (ji19)
                              · rw [if_pos c20] at H
                                have c20b0 : decide (0 ≤ (ji19)) = true := decide_eq_true c20
                                clear c20
                                by_cases c21 : (ji19) < ((rd_L6 x5_1 (ji16)).length : Int)
                                · rw [if_pos c21] at H
                                  have c21b0 : decide ((ji19) < ((rd_L6 x5_1 (ji16)).length : Int)) = true := decide_eq_true c21
                                  clear c21
                                  obtain ⟨y279, hy279⟩ : ∃ y_ : List Bool, y_ = ((rd_L6 x5_1 (ji16)).set ((ji19) : Int).toNat true) := ⟨_, rfl⟩
                                  replace H : ((some (x5_1.set ((ji16) : Int).toNat y279 : List (List Bool))).bind fun y281 => (if (ji19) < (x5_1.length : Int) then (if (ji16) < ((rd_L6 y281 (ji19)).length : Int) then (arboristlaw09_made.l0 kj4 (Int.tmod (Go.bits .and .i64 a0 65535) 10) l1 (y281.set ((ji19) : Int).toNat ((rd_L6 y281 (ji19)).set ((ji16) : Int).toNat true)) (wrap64 (x6_1 + 1))) else (none)) else (none))) = some r := by first | (rw [hy279]; with_reducible exact H) | (have H2_ := (Option.bind_some _ _).symm.trans H; rw [hy279]; with_reducible exact H2_) | (have H2_ := (Option.bind_some _ _).symm.trans H; with_reducible exact H2_) | with_reducible exact H | (rw [hy279]; exact H) | exact H
                                  have Ny279 := Aside0.mk hy279
                                  clear hy279
                                  obtain ⟨y281, hy281⟩ : ∃ y_ : List (List Bool), y_ = (x5_1.set ((ji16) : Int).toNat y279) := ⟨_, rfl⟩
                                  replace H : (if (ji19) < (x5_1.length : Int) then (if (ji16) < ((rd_L6 y281 (ji19)).length : Int) then (arboristlaw09_made.l0 kj4 (Int.tmod (Go.bits .and .i64 a0 65535) 10) l1 (y281.set ((ji19) : Int).toNat ((rd_L6 y281 (ji19)).set ((ji16) : Int).toNat true)) (wrap64 (x6_1 + 1))) else (none)) else (none)) = some r := by first | (rw [hy281]; with_reducible exact H) | (have H2_ := (Option.bind_some _ _).symm.trans H; rw [hy281]; with_reducible exact H2_) | (have H2_ := (Option.bind_some _ _).symm.trans H; with_reducible exact H2_) | with_reducible exact H | (rw [hy281]; exact H) | exact H
                                  have Ny281 := Aside0.mk hy281
                                  clear hy281
                                  by_cases c23 : (ji19) < (x5_1.length : Int)
                                  · rw [if_pos c23] at H
                                    have c23b0 : decide ((ji19) < (x5_1.length : Int)) = true := decide_eq_true c23
                                    clear c23
                                    by_cases c24 : (ji16) < ((rd_L6 y281 (ji19)).length : Int)
                                    · rw [if_pos c24] at H
                                      have c24b0 : decide ((ji16) < ((rd_L6 y281 (ji19)).length : Int)) = true := decide_eq_true c24
                                      clear c24
                                      obtain ⟨y283, hy283⟩ : ∃ y_ : List Bool, y_ = ((rd_L6 y281 (ji19)).set ((ji16) : Int).toNat true) := ⟨_, rfl⟩
                                      replace H : (arboristlaw09_made.l0 kj4 (Int.tmod (Go.bits .and .i64 a0 65535) 10) l1 (y281.set ((ji19) : Int).toNat y283) (wrap64 (x6_1 + 1))) = some r := by first | (rw [hy283]; with_reducible exact H) | (have H2_ := (Option.bind_some _ _).symm.trans H; rw [hy283]; with_reducible exact H2_) | (have H2_ := (Option.bind_some _ _).symm.trans H; with_reducible exact H2_) | with_reducible exact H | (rw [hy283]; exact H) | exact H
                                      have Ny283 := Aside0.mk hy283
                                      clear hy283
                                      obtain ⟨y285, hy285⟩ : ∃ y_ : List (List Bool), y_ = (y281.set ((ji19) : Int).toNat y283) := ⟨_, rfl⟩
                                      replace H : (arboristlaw09_made.l0 kj4 (Int.tmod (Go.bits .and .i64 a0 65535) 10) l1 y285 (wrap64 (x6_1 + 1))) = some r := by first | (rw [hy285]; with_reducible exact H) | (have H2_ := (Option.bind_some _ _).symm.trans H; rw [hy285]; with_reducible exact H2_) | (have H2_ := (Option.bind_some _ _).symm.trans H; with_reducible exact H2_) | with_reducible exact H | (rw [hy285]; exact H) | exact H
                                      have Ny285 := Aside0.mk hy285
                                      clear hy285
                                      have H' := Aside0.mk H
                                      clear H
                                      have p273 : 0 ≤ (x6_1 : Int) := of_decide_eq_true (by first | (with_reducible assumption) | assumption)
                                      have q273 : x6_1 < (l1.length : Int) := of_decide_eq_true (by first | (with_reducible assumption) | assumption)
                                      obtain ⟨ad273, A273_0, c273_0, e273, hx273_0, hl273_0, hi273_0⟩ := at_L2 HR1.out x6_1 p273 q273
                                      cases e273
                                      replace hx273_0 := (HB.out.cell (World.block_lt_of_cell? w _ hx273_0)).trans hx273_0
                                      have HR273_0 := Aside0.mk hi273_0
                                      have HC273_0 := Aside0.mk hl273_0
                                      clear hi273_0 hl273_0
                                      replace p273 := eq_true p273
                                      replace q273 := eq_true q273
                                      have p274 : 0 ≤ (x6_1 : Int) := of_decide_eq_true (by first | (with_reducible assumption) | assumption)
                                      have q274 : x6_1 < (l1.length : Int) := of_decide_eq_true (by first | (with_reducible assumption) | assumption)
                                      obtain ⟨ad274, A274_0, c274_0, e274, hx274_0, hl274_0, hi274_0⟩ := at_L2 HR1.out x6_1 p274 q274
                                      obtain rfl : ad273 = ad274 := (by injection e274)
                                      replace hx274_0 := (HB.out.cell (World.block_lt_of_cell? w _ hx274_0)).trans hx274_0
                                      have HR274_0 := Aside0.mk hi274_0
                                      have HC274_0 := Aside0.mk hl274_0
                                      clear hi274_0 hl274_0
                                      replace p274 := eq_true p274
                                      replace q274 := eq_true q274
                                      have ea_ := Option.some.inj (hx273_0.symm.trans hx274_0)
                                      injection ea_ with ea_ en_ ec_
                                      subst ea_
                                      subst ec_
                                      clear en_
                                      have p275 : 0 ≤ (0 : Int) := (by omega)
                                      have q275 : 0 < ((rd_L2 l1 x6_1).length : Int) := of_decide_eq_true (by first | (with_reducible assumption) | assumption)
                                      obtain ⟨ad275, e275, hx275_0⟩ := Kd.at_int HR274_0.out 0 p275 q275
                                      cases e275
                                      have qi275 : (0 < (rd_L2 l1 x6_1).length) = True := eq_true (by omega)
                                      (try rw [show ((0 : Int)).toNat = 0 from rfl] at hx275_0)
                                      (try rw [Addr.add_zero'] at hx275_0)
                                      replace hx275_0 := (HB.out.cell (World.block_lt_of_cell? w _ hx275_0)).trans hx275_0
                                      replace p275 := eq_true p275
                                      replace q275 := eq_true q275
                                      have p276 : 0 ≤ (x6_1 : Int) := of_decide_eq_true (by first | (with_reducible assumption) | assumption)
                                      have q276 : x6_1 < (l1.length : Int) := of_decide_eq_true (by first | (with_reducible assumption) | assumption)
                                      obtain ⟨ad276, A276_0, c276_0, e276, hx276_0, hl276_0, hi276_0⟩ := at_L2 HR1.out x6_1 p276 q276
                                      obtain rfl : ad273 = ad276 := (by injection e276)
                                      replace hx276_0 := (HB.out.cell (World.block_lt_of_cell? w _ hx276_0)).trans hx276_0
                                      have HR276_0 := Aside0.mk hi276_0
                                      have HC276_0 := Aside0.mk hl276_0
                                      clear hi276_0 hl276_0
                                      replace p276 := eq_true p276
                                      replace q276 := eq_true q276
                                      have ea_ := Option.some.inj (hx273_0.symm.trans hx276_0)
                                      injection ea_ with ea_ en_ ec_
                                      subst ea_
                                      subst ec_
                                      clear en_
                                      have p277 : 0 ≤ (1 : Int) := (by omega)
                                      have q277 : 1 < ((rd_L2 l1 x6_1).length : Int) := of_decide_eq_true (by first | (with_reducible assumption) | assumption)
                                      obtain ⟨ad277, e277, hx277_0⟩ := Kd.at_int HR276_0.out 1 p277 q277
                                      cases e277
                                      (try simp only [show (1 : Int).toNat = 1 from rfl, Nat.reduceMul, Nat.reduceEqDiff, Go.Addr.add, ↓reduceIte] at hx277_0)
                                      have qi277 : (1 < (rd_L2 l1 x6_1).length) = True := eq_true (by omega)
                                      (try rw [show ((1 : Int)).toNat = 1 from rfl] at hx277_0)
                                      replace hx277_0 := (HB.out.cell (World.block_lt_of_cell? w _ hx277_0)).trans hx277_0
                                      replace p277 := eq_true p277
                                      replace q277 := eq_true q277
                                      obtain ⟨Ao26, co26, eo26⟩ := Kd.S_slice HO_5.out
                                      subst eo26
                                      have p278 : 0 ≤ ((ji16) : Int) := of_decide_eq_true (by first | (with_reducible assumption) | assumption)
                                      have q278 : (ji16) < (x5_1.length : Int) := of_decide_eq_true (by first | (with_reducible assumption) | assumption)
                                      obtain ⟨ad278, A278_0, c278_0, e278, hx278_0, hl278_0, hi278_0⟩ := at_L6 (Kd.S_reads' HO_5.out).2.2 (ji16) p278 q278
                                      cases e278
                                      obtain ⟨ce278, hce278, hMe278, hcc278⟩ := Kd.S_get HO_5.out [] (ji16) p278 (by first | exact q278 | exact of_decide_eq_true (by first | (with_reducible assumption) | assumption) | (have e_ := (Kd.S_reads' HO_5.out).1; omega))
                                      obtain ⟨ve278_0, rfl, ge278_0⟩ := hMe278
                                      have hv278_0 := hcc278 0 _ rfl
                                      rw [Nat.add_zero, show ((Kd.slice 4 Kd.bool)).sz = 1 from rfl, Nat.mul_one] at hv278_0
                                      replace hv278_0 := Option.some.inj (hv278_0.symm.trans hx278_0)
                                      rw [hv278_0] at ge278_0
                                      have HL278_0 := Aside0.mk (show Kd.R Kd.bool 4 _ _ _ _ (rd_L6 x5_1 (ji16)) from ge278_0)
                                      clear hv278_0 ge278_0
                                      have HX278_0 := Aside0.mk hx278_0
                                      clear hcc278 hce278
                                      have HR278_0 := Aside0.mk hi278_0
                                      have HC278_0 := Aside0.mk hl278_0
                                      clear hi278_0 hl278_0
                                      replace p278 := eq_true p278
                                      replace q278 := eq_true q278
                                      have p22 : 0 ≤ ((ji19) : Int) := of_decide_eq_true (by first | (with_reducible assumption) | assumption)
                                      have q22 : ((ji19) : Int) < (((rd_L6 x5_1 (ji16)).length : Int) : Int) := of_decide_eq_true (by first | (with_reducible assumption) | assumption)
                                      obtain ⟨go22, co22, eo22, gb22, gl22, cl22, HG22⟩ := Kd.R_form HL278_0.out (by omega)
                                      (first | cases eo22 | (injection eo22 with ea_ en_ ec_; (first | subst ea_ | (injection ea_ with ea_; subst ea_)); subst ec_; clear en_))
                                      have GB22 := Aside0.mk gb22
                                      have GG22 := Aside0.mk HG22
                                      clear gb22 gl22 HG22
                                      obtain ⟨hx22_0, hf22_0⟩ := Kd.R_celln false HL278_0.out ((ji19) : Int) p22 q22
                                      replace p22 := eq_true p22
                                      replace q22 := eq_true q22
                                      have hq27 : ((ji16) : Int) < (x5_1.length : Int) := (by have h_ : ((ji16) : Int) < ((x5_1.length : Int) : Int) := of_decide_eq_true (by first | (with_reducible assumption) | assumption); first | exact h_ | (have e_ := (Kd.S_reads' HO_5.out).1; omega) | simpa only [List.length_set, List.length_set] using h_)
                                      obtain ⟨oki27, ce27, hcl27, hM27, hcc27, hok27, hbk27⟩ := Kd.S_borrow HO_5.out [] ((ji16) : Int) (of_decide_eq_true (by first | (with_reducible assumption) | assumption)) (by first | exact hq27 | (have e_ := (Kd.S_reads' HO_5.out).1; have h_ := hq27; omega))
                                      obtain ⟨ve27_0, rfl, ge27_0⟩ := hM27
                                      have hv27 := hcc27 0 _ rfl
                                      rw [Nat.add_zero, show ((Kd.slice 4 Kd.bool)).sz = 1 from rfl, Nat.mul_one] at hv27
                                      replace hv27 := Option.some.inj (hv27.symm.trans HX278_0.out)
                                      subst hv27
                                      clear hcc27 hcl27
                                      replace ge27_0 := (show Kd.R Kd.bool 4 _ _ _ _ (rd_L6 x5_1 (ji16)) from ge27_0)
                                      have HP27 := Kd.R_putg ge27_0 ((ji19) : Int) true
                                      go_wp2_with (first | ((with_reducible refine gate_store (t := 4) (p := 60) rfl ?_); refine store_event (t := 4) (p := 60) (v := ?vo_w28) (w1 := (wc.setCell ⟨go22, ((ji19) : Int).toNat, none⟩ (.bool true))) ?hg ?ho ?hn ?hr ?_; (case ho => rfl); (case hg => rfl); (case hn => rfl); (case hr => first | (go_simp; done) | (go_simp; rfl)); intro w28 hw; have hg : wc.grownBy w28 (some go22) := (by rw [hw]; exact HP27.2); have hz_ : Kd.R Kd.bool 4 w28 w.heap.size oki27 (.slice (some ⟨go22, 0, none⟩) (rd_L6 x5_1 (ji16)).length c278_0) y279 := (by rw [hw, Ny279.out]; exact HP27.1); have hp_ : Kd.S (Kd.slice 4 Kd.bool) 42 w28 w.heap.size (fun _ => True) (.slice (some ad278) x5_1.length co26) y281 := (by rw [Ny281.out]; exact hbk27 hg (fun k_ e_ => by injection e_ with e_; subst e_; exact ge27_0.1 _ rfl) (Kd.M_row hz_)); have hm_ := Kd.R_mono hz_ hok27; clear HP27 hbk27; have n0_ := Aside0.mk (hp_); have n1_ := Aside0.mk ((by rw [hw]; exact below_set (HB.out) GB22.out : Below w.heap.size w w28)); have n2_ := Aside0.mk (hm_); have n3_ := Aside0.mk ((Kd.R_reads' hm_).2.1); clear HO_5; clear HB; clear HL278_0; have HO_5 := n0_; have HB := n1_; have HL286 := n2_; have HC280 := n3_; clear n0_ n1_ n2_ n3_; clear hg hw hp_ hz_ hm_ hok27; have p282 : 0 ≤ ((ji19) : Int) := of_decide_eq_true (by first | (with_reducible assumption) | assumption); have q282 : (ji19) < (y281.length : Int) := (by have h_ : ((ji19) : Int) < ((x5_1.length : Int) : Int) := of_decide_eq_true (by first | (with_reducible assumption) | assumption); first | (have e_ := (Kd.S_reads' HO_5.out).1; omega) | simpa only [Ny281.out, List.length_set] using h_); have ql282 : (((ji19) : Int) < ((x5_1.length : Int) : Int)) = True := eq_true (of_decide_eq_true (by first | (with_reducible assumption) | assumption)); obtain ⟨ad282, A282_0, c282_0, e282, hx282_0, hl282_0, hi282_0⟩ := at_L6 (Kd.S_reads' HO_5.out).2.2 (ji19) p282 q282; obtain rfl : ad278 = ad282 := (by injection e282); obtain ⟨ce282, hce282, hMe282, hcc282⟩ := Kd.S_get HO_5.out [] (ji19) p282 (by first | exact q282 | exact of_decide_eq_true (by first | (with_reducible assumption) | assumption) | (have e_ := (Kd.S_reads' HO_5.out).1; omega)); obtain ⟨ve282_0, rfl, ge282_0⟩ := hMe282; have hv282_0 := hcc282 0 _ rfl; rw [Nat.add_zero, show ((Kd.slice 4 Kd.bool)).sz = 1 from rfl, Nat.mul_one] at hv282_0; replace hv282_0 := Option.some.inj (hv282_0.symm.trans hx282_0); rw [hv282_0] at ge282_0; have HL282_0 := Aside0.mk (show Kd.R Kd.bool 4 _ _ _ _ (rd_L6 y281 (ji19)) from ge282_0); clear hv282_0 ge282_0; have HX282_0 := Aside0.mk hx282_0; clear hcc282 hce282; have HR282_0 := Aside0.mk hi282_0; have HC282_0 := Aside0.mk hl282_0; clear hi282_0 hl282_0; replace p282 := eq_true p282; replace q282 := eq_true q282; have p25 : 0 ≤ ((ji16) : Int) := of_decide_eq_true (by first | (with_reducible assumption) | assumption); have q25 : ((ji16) : Int) < (((rd_L6 y281 (ji19)).length : Int) : Int) := of_decide_eq_true (by first | (with_reducible assumption) | assumption); obtain ⟨go25, co25, eo25, gb25, gl25, cl25, HG25⟩ := Kd.R_form HL282_0.out (by omega); (first | cases eo25 | (injection eo25 with ea_ en_ ec_; (first | subst ea_ | (injection ea_ with ea_; subst ea_)); subst ec_; clear en_)); have GB25 := Aside0.mk gb25; have GG25 := Aside0.mk HG25; clear gb25 gl25 HG25; obtain ⟨hx25_0, hf25_0⟩ := Kd.R_celln false HL282_0.out ((ji16) : Int) p25 q25; replace p25 := eq_true p25; replace q25 := eq_true q25; have hq29 : ((ji19) : Int) < (y281.length : Int) := (by have h_ : ((ji19) : Int) < ((x5_1.length : Int) : Int) := of_decide_eq_true (by first | (with_reducible assumption) | assumption); first | exact h_ | (have e_ := (Kd.S_reads' HO_5.out).1; omega) | simpa only [Ny281.out, List.length_set] using h_); obtain ⟨oki29, ce29, hcl29, hM29, hcc29, hok29, hbk29⟩ := Kd.S_borrow HO_5.out [] ((ji19) : Int) (of_decide_eq_true (by first | (with_reducible assumption) | assumption)) (by first | exact hq29 | (have e_ := (Kd.S_reads' HO_5.out).1; have h_ := hq29; omega)); obtain ⟨ve29_0, rfl, ge29_0⟩ := hM29; have hv29 := hcc29 0 _ rfl; rw [Nat.add_zero, show ((Kd.slice 4 Kd.bool)).sz = 1 from rfl, Nat.mul_one] at hv29; replace hv29 := Option.some.inj (hv29.symm.trans HX282_0.out); subst hv29; clear hcc29 hcl29; replace ge29_0 := (show Kd.R Kd.bool 4 _ _ _ _ (rd_L6 y281 (ji19)) from ge29_0); have HP29 := Kd.R_putg ge29_0 ((ji16) : Int) true) | ((with_reducible refine gate_store (t := 4) (p := 66) rfl ?_); refine store_event (t := 4) (p := 66) (v := ?vo_w30) (w1 := (w28.setCell ⟨go25, ((ji16) : Int).toNat, none⟩ (.bool true))) ?hg ?ho ?hn ?hr ?_; (case ho => rfl); (case hg => rfl); (case hn => rfl); (case hr => first | (go_simp; done) | (go_simp; rfl)); intro w30 hw; have hg : w28.grownBy w30 (some go25) := (by rw [hw]; exact HP29.2); have hz_ : Kd.R Kd.bool 4 w30 w.heap.size oki29 (.slice (some ⟨go25, 0, none⟩) (rd_L6 y281 (ji19)).length c282_0) y283 := (by rw [hw, Ny283.out]; exact HP29.1); have hp_ : Kd.S (Kd.slice 4 Kd.bool) 42 w30 w.heap.size (fun _ => True) (.slice (some ad278) x5_1.length co26) y285 := (by rw [Ny285.out]; exact hbk29 hg (fun k_ e_ => by injection e_ with e_; subst e_; exact ge29_0.1 _ rfl) (Kd.M_row hz_)); have hm_ := Kd.R_mono hz_ hok29; clear HP29 hbk29; have n0_ := Aside0.mk (hp_); have n1_ := Aside0.mk ((by rw [hw]; exact below_set (HB.out) GB25.out : Below w.heap.size w w30)); have n2_ := Aside0.mk (hm_); have n3_ := Aside0.mk ((Kd.R_reads' hm_).2.1); clear HO_5; clear HB; clear HL286; clear HL282_0; have HO_5 := n0_; have HB := n1_; have HL287 := n2_; have HC284 := n3_; clear n0_ n1_ n2_ n3_; clear hg hw hp_ hz_ hm_ hok29))
                                      go_roundg kj4
                                      case measure => have := HK1.out; have := HJ4.out; omega
                                      case rel => exact ⟨(y285), (wrap64 (x6_1 + 1)), (by first | rfl | (simp; done) | (simp [*]; done)), H', ⟨by have := HK1.out; have := HJ4.out; omega⟩, ⟨by (with_reducible repeat (first | apply Kd.S_alloc | apply Kd.S_drewN | apply Kd.S_drew)); exact HO_5.out⟩, ⟨by repeat (first | (with_reducible first | exact HB.out | apply below_alloc | apply pw_below_drewN | apply below_drew1) | exact HB.out)⟩⟩
                                    · rw [if_neg c24] at H
                                      exact absurd H (by simp)
                                  · rw [if_neg c23] at H
                                    exact absurd H (by simp)
                                · rw [if_neg c21] at H
                                  exact absurd H (by simp)
                              · rw [if_neg c20] at H
                                exact absurd H (by simp)
                            · rw [if_neg c18] at H
                              exact absurd H (by simp)
                          · rw [if_neg c17] at H
                            exact absurd H (by simp)
                      · rw [if_neg c14] at H
                        exact absurd H (by simp)
                  · rw [if_neg c12] at H
                    exact absurd H (by simp)
              · rw [if_neg c10] at H
                exact absurd H (by simp)
            · rw [if_neg c9] at H
              exact absurd H (by simp)
          · replace c8 := Bool.eq_false_iff.mpr c8
            subst c8
            have H1 : (some x5_1) = some r := by rw [if_neg (show ¬ (false = true) by decide)] at H; exact H
            clear H
            have H := H1
            clear H1
            obtain rfl := Option.some.inj H
            go_wp2
            go_ret
            exact ⟨_, by first | rfl | (simp [errW_none, errW_some] <;> rfl) | (simp [*, errW_none, errW_some] <;> rfl), by (with_reducible repeat (first | apply Kd.S_alloc | apply Kd.S_drewN | apply Kd.S_drew)); exact HO_5.out, by repeat (first | (with_reducible first | exact HB.out | apply below_alloc | apply pw_below_drewN | apply below_drew1) | exact HB.out)⟩

end Go.Proofs.YtefmpehjahfnpaaDoor.Pr
