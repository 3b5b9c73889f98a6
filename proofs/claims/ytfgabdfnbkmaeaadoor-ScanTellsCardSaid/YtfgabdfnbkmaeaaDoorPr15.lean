-- Printed by a program of this session's own (wip/tools/pp.py) over the kit's print.py; Lean checks it.
import Derived.Test.YtfgabdfnbkmaeaaDoorPr0
import Derived.Test.YtfgabdfnbkmaeaaDoorPr12
import Derived.Test.YtfgabdfnbkmaeaaDoorPr13
import Derived.Test.YtfgabdfnbkmaeaaDoorPr14
namespace Go.Proofs.YtfgabdfnbkmaeaaDoor.Pr
open Go.RowKit Go.Proofs.YtfgabdfnbkmaeaaDoorW.PrintWords Go.Proofs.YtfgabdfnbkmaeaaDoorW.PrintLast Go.Proofs.YtfgabdfnbkmaeaaDoorW.PrintMore
attribute [local go_sem] max2_int min2_int max_two min_two max_three min_three max_four min_four   -- for this text's walks alone
set_option linter.unusedVariables false
set_option linter.unusedSimpArgs false

/-! ### arboristref05_All: function 12 -/
mutual
def arboristref05_All.l0 : Nat → ByteArray → List (S31) → Int → Option ((List (S31)) × Int × Int)
  | 0, _, _, _ => none
  | k + 1, x0, x5, x6 => if x6 < (x0.size : Int) then (if 0 ≤ x6 then (arboristref05_All.l1 k x0 x5 x6 (bt x0 x6) x6) else (none)) else (if x5.length < 3518437208883 then (some ((x5 ++ [(⟨4, (⟨#[]⟩ : ByteArray), 0, (x0.size : Int)⟩ : S31)]), 0, 0)) else (none))
def arboristref05_All.l1 : Nat → ByteArray → List (S31) → Int → Int → Int → Option ((List (S31)) × Int × Int)
  | 0, _, _, _, _, _ => none
  | k + 1, x0, x5, x6, x7, x8 => (arboristref05_letter.f x0 x8).bind fun t165 => (if t165 = true then (arboristref05_All.l1 k x0 x5 x6 x7 (wrap64 (x8 + 1))) else ((arboristref05_digit.f x0 x6).bind fun t166 => (if x8 > x6 then (if 0 ≤ x6 then (if x6 ≤ x8 then (if x8 ≤ (x0.size : Int) then (if x5.length < 3518437208883 then ((arboristref05_skip.f k x0 x8).bind fun t170 => (arboristref05_All.l0 k x0 (x5 ++ [(⟨1, x0.extract (x6 : Int).toNat (x8 : Int).toNat, 0, x6⟩ : S31)]) t170)) else (none)) else (none)) else (none)) else (none)) else (if t166 = true then (arboristref05_All.j2 k x0 x5 x6 x7 true) else (arboristref05_All.j2 k x0 x5 x6 x7 (x7 == 45))))))
def arboristref05_All.j2 : Nat → ByteArray → List (S31) → Int → Int → Bool → Option ((List (S31)) × Int × Int)
  | 0, _, _, _, _, _ => none
  | k + 1, x0, x5, x6, x7, x52 => if x52 = true then ((arboristref05_number.f k x0 x6).bind fun bt171 => (if bt171.2.2 = 0 then (if x5.length < 3518437208883 then ((arboristref05_skip.f k x0 bt171.2.1).bind fun t177 => (arboristref05_All.l0 k x0 (x5 ++ [(⟨2, (⟨#[]⟩ : ByteArray), bt171.1, x6⟩ : S31)]) t177)) else (none)) else (some (([] : List (S31)), x6, bt171.2.2)))) else (if x7 = 58 then (if 0 ≤ x6 then (if x6 ≤ (wrap64 (x6 + 1)) then (if (wrap64 (x6 + 1)) ≤ (x0.size : Int) then (if x5.length < 3518437208883 then ((arboristref05_skip.f k x0 (wrap64 (x6 + 1))).bind fun t181 => (arboristref05_All.l0 k x0 (x5 ++ [(⟨3, x0.extract (x6 : Int).toNat ((wrap64 (x6 + 1)) : Int).toNat, 0, x6⟩ : S31)]) t181)) else (none)) else (none)) else (none)) else (none)) else (if x7 = 44 then (if 0 ≤ x6 then (if x6 ≤ (wrap64 (x6 + 1)) then (if (wrap64 (x6 + 1)) ≤ (x0.size : Int) then (if x5.length < 3518437208883 then ((arboristref05_skip.f k x0 (wrap64 (x6 + 1))).bind fun t185 => (arboristref05_All.l0 k x0 (x5 ++ [(⟨3, x0.extract (x6 : Int).toNat ((wrap64 (x6 + 1)) : Int).toNat, 0, x6⟩ : S31)]) t185)) else (none)) else (none)) else (none)) else (none)) else (if x7 = 59 then (if 0 ≤ x6 then (if x6 ≤ (wrap64 (x6 + 1)) then (if (wrap64 (x6 + 1)) ≤ (x0.size : Int) then (if x5.length < 3518437208883 then ((arboristref05_skip.f k x0 (wrap64 (x6 + 1))).bind fun t189 => (arboristref05_All.l0 k x0 (x5 ++ [(⟨3, x0.extract (x6 : Int).toNat ((wrap64 (x6 + 1)) : Int).toNat, 0, x6⟩ : S31)]) t189)) else (none)) else (none)) else (none)) else (none)) else (some (([] : List (S31)), x6, 2)))))
end
def arboristref05_All.f (k : Nat) (a0 : ByteArray) : Option ((List (S31)) × Int × Int) := if (a0.size : Int) > 100000 then (some (([] : List (S31)), 0, 7)) else ((arboristref05_skip.f k a0 0).bind fun t161 => (arboristref05_All.l0 k a0 (([] : List (S31))) t161))
theorem arboristref05_All.mono_l : ∀ k, (∀ y0 y1 y2, LeO (arboristref05_All.l0 k y0 y1 y2) (arboristref05_All.l0 (k + 1) y0 y1 y2)) ∧ (∀ y0 y1 y2 y3 y4, LeO (arboristref05_All.l1 k y0 y1 y2 y3 y4) (arboristref05_All.l1 (k + 1) y0 y1 y2 y3 y4)) ∧ (∀ y0 y1 y2 y3 y4, LeO (arboristref05_All.j2 k y0 y1 y2 y3 y4) (arboristref05_All.j2 (k + 1) y0 y1 y2 y3 y4))
  | 0 => ⟨fun _ _ _ r h => by simp [arboristref05_All.l0] at h, fun _ _ _ _ _ r h => by simp [arboristref05_All.l1] at h, fun _ _ _ _ _ r h => by simp [arboristref05_All.j2] at h⟩
  | k + 1 => by
    obtain ⟨ih0, ih1, ih2⟩ := arboristref05_All.mono_l k
    refine ⟨?_, ?_, ?_⟩
    all_goals intros
    all_goals (first | unfold arboristref05_All.l0 | unfold arboristref05_All.l1 | unfold arboristref05_All.j2)
    all_goals repeat' first
    | (with_reducible exact ih0 _ _ _)
    | (with_reducible exact ih1 _ _ _ _ _)
    | (with_reducible exact ih2 _ _ _ _ _)
    | (with_reducible exact arboristref05_number.mono _ _ _)
    | (with_reducible exact arboristref05_skip.mono _ _ _)
    | (with_reducible exact LeO.refl _)
    | (with_reducible exact LeO.none _)
    | (with_reducible refine LeO.ite ?_ ?_)
    | (with_reducible refine LeO.bind ?_ (fun _ => ?_))
    | exact ih0 _ _ _
    | exact ih1 _ _ _ _ _
    | exact ih2 _ _ _ _ _
    | exact arboristref05_number.mono _ _ _
    | exact arboristref05_skip.mono _ _ _
    | exact LeO.none _
    | refine LeO.ite ?_ ?_
    | refine LeO.bind ?_ (fun _ => ?_)
theorem arboristref05_All.mono : ∀ a0 k, LeO (arboristref05_All.f k a0) (arboristref05_All.f (k + 1) a0) := by
  intro a0 k
  obtain ⟨ih0, ih1, ih2⟩ := arboristref05_All.mono_l k
  unfold arboristref05_All.f
  repeat' first
      | (with_reducible exact ih0 _ _ _)
      | (with_reducible exact ih1 _ _ _ _ _)
      | (with_reducible exact ih2 _ _ _ _ _)
      | (with_reducible exact arboristref05_number.mono _ _ _)
      | (with_reducible exact arboristref05_skip.mono _ _ _)
      | (with_reducible exact LeO.refl _)
      | (with_reducible exact LeO.none _)
      | (with_reducible refine LeO.ite ?_ ?_)
      | (with_reducible refine LeO.bind ?_ (fun _ => ?_))
      | exact ih0 _ _ _
      | exact ih1 _ _ _ _ _
      | exact ih2 _ _ _ _ _
      | exact arboristref05_number.mono _ _ _
      | exact arboristref05_skip.mono _ _ _
      | exact LeO.none _
      | refine LeO.ite ?_ ?_
      | refine LeO.bind ?_ (fun _ => ?_)
set_option maxHeartbeats 8000000 in
set_option maxRecDepth 100000 in
theorem arboristref05_All.calls (k : Nat) (a0 : ByteArray) (r1 : List (S31)) (r2 : Int) (r3 : Int) (w : World) (h : arboristref05_All.f k a0 = some (r1, r2, r3)) :
    Calls Tryd.prog 12 #[.string a0] w fun e w' => ∃ v0_ : Value, e = .returned (.tuple #[v0_, .int .i64 r2, .int .i64 r3]) ∧ Kd.R k31 31 w' w.heap.size (fun _ => True) v0_ r1 ∧ Below w.heap.size w w' := by
  have hu31 := Tryd.underlying31
  have HB := Aside0.mk (Below.refl w.heap.size w)
  have H : (if (a0.size : Int) > 100000 then (some (([] : List (S31)), 0, 7)) else ((arboristref05_skip.f k a0 0).bind fun t161 => (arboristref05_All.l0 k a0 (([] : List (S31))) t161))) = some (r1, r2, r3) := h
  clear h
  by_cases c2 : (a0.size : Int) > 100000
  · rw [if_pos c2] at H
    have c2b0 : decide (100000 < (a0.size : Int)) = true := decide_eq_true c2
    have c2b1 : decide (100000 < a0.size) = true := decide_eq_true (by omega)
    clear c2
    simp only [Option.some.injEq, Prod.mk.injEq] at H
    obtain ⟨rfl, rfl, rfl⟩ := H
    go_enter Tryd.func12, Tryd.ntmps12
    go_wp2
    go_ret3
    exact ⟨_, by first | rfl | (simp [errW_none, errW_some] <;> rfl) | (simp [*, errW_none, errW_some] <;> rfl), by first | exact Kd.R_nil _ _ _ _ _ | exact Kd.N_nil _ _ _ _ _ | exact Kd.V_nil _ _ _ _ _ | exact Kd.Q_nil _ _ _ _ _ | exact Kd.S_nil _ _ _ _ _, by repeat (first | (with_reducible first | exact HB.out | apply below_alloc | apply pw_below_drewN | apply below_drew1) | exact HB.out)⟩
  · rw [if_neg c2] at H
    have c2b0 : decide (100000 < (a0.size : Int)) = false := decide_eq_false c2
    have c2b1 : decide (100000 < a0.size) = false := decide_eq_false (by omega)
    clear c2
    obtain ⟨y158, hy158⟩ : ∃ y_ : List (S31), y_ = (([] : List (S31))) := ⟨_, rfl⟩
    replace H : ((arboristref05_skip.f k a0 0).bind fun t161 => (arboristref05_All.l0 k a0 y158 t161)) = some (r1, r2, r3) := by first | (rw [hy158]; with_reducible exact H) | (have H2_ := (Option.bind_some _ _).symm.trans H; rw [hy158]; with_reducible exact H2_) | (have H2_ := (Option.bind_some _ _).symm.trans H; with_reducible exact H2_) | with_reducible exact H | (rw [hy158]; exact H) | exact H
    have Ny158 := Aside0.mk hy158
    clear hy158
    replace H := Option.bind_eq_some_iff.mp H
    obtain ⟨t161, A30, H⟩ := H
    replace H : (arboristref05_All.l0 k a0 y158 t161) = some (r1, r2, r3) := H
    have A3 := Aside0.mk A30
    clear A30
    have H' := Aside0.mk H
    clear H
    go_enter Tryd.func12, Tryd.ntmps12
    go_wp2_with (first | ((with_reducible refine gate_dst (N := 17) rfl ?_); refine Kd.R_lit k31 _ 31 ?hg (N := 17) ?hd (xs := ([] : List (S31))) (inner := []) (ok := fun _ => True) (okp := fun _ => True) ?hr ?hp (fun _ hk => hk) trivial (Below.refl _ _) (Nat.le_refl _) (by simp) ?_; (case hd => rfl); (case hg => rfl); (case hr => first | (go_simp; done) | (go_simp; rfl)); (case hp => exact (Reps.none _ _)); intro v159 w4 ho5 hb hg_ hnew_; clear hg_ hnew_; (first | rw [← Ny158.out] at ho5 | (simp only [Int.reduceToNat] at ho5; rw [← Ny158.out] at ho5)); have n0_ := Aside0.mk (Kd.R_lower ho5 (below_size (by repeat (first | (with_reducible first | exact HB.out | apply below_alloc | apply pw_below_drewN | apply below_drew1) | exact HB.out)))); have n1_ := Aside0.mk (below_step (by repeat (first | (with_reducible first | exact HB.out | apply below_alloc | apply pw_below_drewN | apply below_drew1) | exact HB.out)) hb); clear HB; have HO160 := n0_; have HB := n1_; clear n0_ n1_; clear hb ho5) | ((with_reducible refine gate_callee (f := 15) rfl ?_); refine goesL_ (some 19) rfl rfl Tryd.func15 (by kernel_rfl) rfl #[.string a0, .int .i64 0] rfl (by (try simp only [List.map_toArray, List.map_cons, List.map_nil]); first | done | rfl | (simp only [List.length_drop, List.length_take]; rfl)) ?_; (with_reducible refine (arboristref05_skip.calls k a0 0 t161 _ A3.out).mono ?_); rintro e w' ⟨rfl, ⟨nd, rfl⟩⟩; refine ⟨_, rfl, ?_⟩))
    go_loopg [5, 6] k (fun kq v5 v6 w' => ∃ (x5_1 : List (S31)) (x6_1 : Int), v6 = .int .i64 x6_1 ∧ Aside0 (arboristref05_All.l0 kq a0 x5_1 x6_1 = some (r1, r2, r3)) ∧ Aside0 (kq ≤ k) ∧ Aside0 (Kd.R k31 31 w' w.heap.size (fun _ => True) v5 x5_1) ∧ Aside0 (Below w.heap.size w w'))
    case atStart => exact ⟨(y158), (t161), (by first | rfl | (simp; done) | (simp [*]; done)), H', ⟨Nat.le_refl _⟩, ⟨by (with_reducible repeat (first | apply Kd.R_alloc | apply Kd.R_drewN | apply Kd.R_drew)); exact HO160.out⟩, ⟨by repeat (first | (with_reducible first | exact HB.out | apply below_alloc | apply pw_below_drewN | apply below_drew1) | exact HB.out)⟩⟩
    case round =>
      clear H'
      try clear c1
      try clear c2
      try clear c2b0
      try clear c2b1
      try clear p2
      obtain ⟨x5_1, x6_1, rfl, HA, HK1, HO_5, HB⟩ := hrel
      cases gk with
      | zero => exact absurd HA.out (by simp [arboristref05_All.l0])
      | succ k1 =>
        have H := HA.out
        clear HA
        simp only [arboristref05_All.l0] at H
        by_cases c6 : x6_1 < (a0.size : Int)
        · rw [if_pos c6] at H
          have c6b0 : decide (x6_1 < (a0.size : Int)) = true := decide_eq_true c6
          clear c6
          by_cases c7 : 0 ≤ x6_1
          · rw [if_pos c7] at H
            have c7b0 : decide (0 ≤ x6_1) = true := decide_eq_true c7
            clear c7
            have H' := Aside0.mk H
            clear H
            have p8 : 0 ≤ (x6_1 : Int) := of_decide_eq_true (by first | (with_reducible assumption) | assumption)
            have q8 : x6_1 < (a0.size : Int) := of_decide_eq_true (by first | (with_reducible assumption) | assumption)
            have hx8 := bt_at a0 x6_1
            replace p8 := eq_true p8
            replace q8 := eq_true q8
            go_wp2
            go_loopg [8] k1 (fun kq v8 w' => ∃ (x8_2 : Int), v8 = .int .i64 x8_2 ∧ Aside0 (arboristref05_All.l1 kq a0 x5_1 x6_1 (bt a0 x6_1) x8_2 = some (r1, r2, r3)) ∧ Aside0 (kq ≤ k1) ∧ Aside0 (Kd.R k31 31 w' w.heap.size (fun _ => True) u5 x5_1) ∧ Aside0 (Below w.heap.size w w'))
            case atStart => exact ⟨(x6_1), (by first | rfl | (simp; done) | (simp [*]; done)), H', ⟨Nat.le_refl _⟩, ⟨by (with_reducible repeat (first | apply Kd.R_alloc | apply Kd.R_drewN | apply Kd.R_drew)); exact HO_5.out⟩, ⟨by repeat (first | (with_reducible first | exact HB.out | apply below_alloc | apply pw_below_drewN | apply below_drew1) | exact HB.out)⟩⟩
            case round =>
              clear H'
              try clear c1
              try clear c2
              try clear c2b0
              try clear c2b1
              try clear p2
              try clear c6
              try clear c6b0
              try clear c7
              try clear c7b0
              try clear p8
              try clear q8
              try clear hx8
              try clear p2
              try clear p8
              try clear q8
              obtain ⟨x8_2, rfl, HA, HK2, HO_5, HB⟩ := hrel
              cases gk with
              | zero => exact absurd HA.out (by simp [arboristref05_All.l1])
              | succ k2 =>
                have H := HA.out
                clear HA
                simp only [arboristref05_All.l1] at H
                replace H := Option.bind_eq_some_iff.mp H
                obtain ⟨t165, A90, H⟩ := H
                replace H : (if t165 = true then (arboristref05_All.l1 k2 a0 x5_1 x6_1 (bt a0 x6_1) (wrap64 (x8_2 + 1))) else ((arboristref05_digit.f a0 x6_1).bind fun t166 => (if x8_2 > x6_1 then (if 0 ≤ x6_1 then (if x6_1 ≤ x8_2 then (if x8_2 ≤ (a0.size : Int) then (if x5_1.length < 3518437208883 then ((arboristref05_skip.f k2 a0 x8_2).bind fun t170 => (arboristref05_All.l0 k2 a0 (x5_1 ++ [(⟨1, a0.extract (x6_1 : Int).toNat (x8_2 : Int).toNat, 0, x6_1⟩ : S31)]) t170)) else (none)) else (none)) else (none)) else (none)) else (if t166 = true then (arboristref05_All.j2 k2 a0 x5_1 x6_1 (bt a0 x6_1) true) else (arboristref05_All.j2 k2 a0 x5_1 x6_1 (bt a0 x6_1) ((bt a0 x6_1) == 45)))))) = some (r1, r2, r3) := H
                have A9 := Aside0.mk A90
                clear A90
                by_cases c10 : t165 = true
                · subst c10
                  have H1 : (arboristref05_All.l1 k2 a0 x5_1 x6_1 (bt a0 x6_1) (wrap64 (x8_2 + 1))) = some (r1, r2, r3) := by rw [if_pos rfl] at H; exact H
                  clear H
                  have H := H1
                  clear H1
                  have H' := Aside0.mk H
                  clear H
                  go_wp2_with (first | ((with_reducible refine gate_callee (f := 16) rfl ?_); refine goesL_ (some 30) rfl rfl Tryd.func16 (by kernel_rfl) rfl #[.string a0, .int .i64 x8_2] rfl (by (try simp only [List.map_toArray, List.map_cons, List.map_nil]); first | done | rfl | (simp only [List.length_drop, List.length_take]; rfl)) ?_; (with_reducible refine (arboristref05_letter.calls a0 x8_2 true _ A9.out).mono ?_); rintro e w' ⟨rfl, ⟨nd, rfl⟩⟩; refine ⟨_, rfl, ?_⟩))
                  go_roundg k2
                  case measure => have := HK1.out; have := HK2.out; omega
                  case rel => exact ⟨(wrap64 (x8_2 + 1)), (by first | rfl | (simp; done) | (simp [*]; done)), H', ⟨by have := HK1.out; have := HK2.out; omega⟩, ⟨by (with_reducible repeat (first | apply Kd.R_alloc | apply Kd.R_drewN | apply Kd.R_drew)); exact HO_5.out⟩, ⟨by repeat (first | (with_reducible first | exact HB.out | apply below_alloc | apply pw_below_drewN | apply below_drew1) | exact HB.out)⟩⟩
                · replace c10 := Bool.eq_false_iff.mpr c10
                  subst c10
                  have H1 : ((arboristref05_digit.f a0 x6_1).bind fun t166 => (if x8_2 > x6_1 then (if 0 ≤ x6_1 then (if x6_1 ≤ x8_2 then (if x8_2 ≤ (a0.size : Int) then (if x5_1.length < 3518437208883 then ((arboristref05_skip.f k2 a0 x8_2).bind fun t170 => (arboristref05_All.l0 k2 a0 (x5_1 ++ [(⟨1, a0.extract (x6_1 : Int).toNat (x8_2 : Int).toNat, 0, x6_1⟩ : S31)]) t170)) else (none)) else (none)) else (none)) else (none)) else (if t166 = true then (arboristref05_All.j2 k2 a0 x5_1 x6_1 (bt a0 x6_1) true) else (arboristref05_All.j2 k2 a0 x5_1 x6_1 (bt a0 x6_1) ((bt a0 x6_1) == 45))))) = some (r1, r2, r3) := by rw [if_neg (show ¬ (false = true) by decide)] at H; exact H
                  clear H
                  have H := H1
                  clear H1
                  replace H := Option.bind_eq_some_iff.mp H
                  obtain ⟨t166, A110, H⟩ := H
                  replace H : (if x8_2 > x6_1 then (if 0 ≤ x6_1 then (if x6_1 ≤ x8_2 then (if x8_2 ≤ (a0.size : Int) then (if x5_1.length < 3518437208883 then ((arboristref05_skip.f k2 a0 x8_2).bind fun t170 => (arboristref05_All.l0 k2 a0 (x5_1 ++ [(⟨1, a0.extract (x6_1 : Int).toNat (x8_2 : Int).toNat, 0, x6_1⟩ : S31)]) t170)) else (none)) else (none)) else (none)) else (none)) else (if t166 = true then (arboristref05_All.j2 k2 a0 x5_1 x6_1 (bt a0 x6_1) true) else (arboristref05_All.j2 k2 a0 x5_1 x6_1 (bt a0 x6_1) ((bt a0 x6_1) == 45)))) = some (r1, r2, r3) := H
                  have A11 := Aside0.mk A110
                  clear A110
                  by_cases c12 : x8_2 > x6_1
                  · rw [if_pos c12] at H
                    have c12b0 : decide (x6_1 < x8_2) = true := decide_eq_true c12
                    clear c12
                    by_cases c13 : 0 ≤ x6_1
                    · rw [if_pos c13] at H
                      have c13b0 := eq_true c13
                      have c13b1 : decide (0 ≤ x6_1) = true := decide_eq_true c13
                      clear c13
                      by_cases c14 : x6_1 ≤ x8_2
                      · rw [if_pos c14] at H
                        have c14b0 := eq_true c14
                        have c14b1 : decide (x6_1 ≤ x8_2) = true := decide_eq_true c14
                        clear c14
                        by_cases c15 : x8_2 ≤ (a0.size : Int)
                        · rw [if_pos c15] at H
                          have c15b0 := eq_true c15
                          have c15b1 : decide (x8_2 ≤ (a0.size : Int)) = true := decide_eq_true c15
                          clear c15
                          by_cases c16 : x5_1.length < 3518437208883
                          · rw [if_pos c16] at H
                            have LMc16 := Aside0.mk c16
                            clear c16
                            obtain ⟨y167, hy167⟩ : ∃ y_ : List (S31), y_ = (x5_1 ++ [(⟨1, a0.extract (x6_1 : Int).toNat (x8_2 : Int).toNat, 0, x6_1⟩ : S31)]) := ⟨_, rfl⟩
                            replace H : ((arboristref05_skip.f k2 a0 x8_2).bind fun t170 => (arboristref05_All.l0 k2 a0 y167 t170)) = some (r1, r2, r3) := by first | (rw [hy167]; with_reducible exact H) | (have H2_ := (Option.bind_some _ _).symm.trans H; rw [hy167]; with_reducible exact H2_) | (have H2_ := (Option.bind_some _ _).symm.trans H; with_reducible exact H2_) | with_reducible exact H | (rw [hy167]; exact H) | exact H
                            have Ny167 := Aside0.mk hy167
                            clear hy167
                            replace H := Option.bind_eq_some_iff.mp H
                            obtain ⟨t170, A170, H⟩ := H
                            replace H : (arboristref05_All.l0 k2 a0 y167 t170) = some (r1, r2, r3) := H
                            have A17 := Aside0.mk A170
                            clear A170
                            have H' := Aside0.mk H
                            clear H
                            go_wp2_with (first | ((with_reducible refine gate_callee (f := 16) rfl ?_); refine goesL_ (some 30) rfl rfl Tryd.func16 (by kernel_rfl) rfl #[.string a0, .int .i64 x8_2] rfl (by (try simp only [List.map_toArray, List.map_cons, List.map_nil]); first | done | rfl | (simp only [List.length_drop, List.length_take]; rfl)) ?_; (with_reducible refine (arboristref05_letter.calls a0 x8_2 false _ A9.out).mono ?_); rintro e w' ⟨rfl, ⟨nd, rfl⟩⟩; refine ⟨_, rfl, ?_⟩) | ((with_reducible refine gate_callee (f := 17) rfl ?_); refine goesL_ (some 37) rfl rfl Tryd.func17 (by kernel_rfl) rfl #[.string a0, .int .i64 x6_1] rfl (by (try simp only [List.map_toArray, List.map_cons, List.map_nil]); first | done | rfl | (simp only [List.length_drop, List.length_take]; rfl)) ?_; (with_reducible refine (arboristref05_digit.calls a0 x6_1 t166 _ A11.out).mono ?_); rintro e w' ⟨rfl, ⟨nd, rfl⟩⟩; refine ⟨_, rfl, ?_⟩) | ((with_reducible refine gate_builtin (b := .append) (xs := #[.tmp 43, .tmp 50]) rfl ?_); at_builtin; refine Kd.R_append k31 (w0 := w) w.heap.size rfl (.tmp 43) (.tmp 50) 27 31 (.agg #[(.int .i64 0), (.string ⟨#[]⟩), (.int .i64 0), (.int .i64 0)]) 40 rfl Tryd.underlying27 info31 rfl (by decide) (by omega) u5 x5_1 (⟨1, a0.extract (x6_1 : Int).toNat (x8_2 : Int).toNat, 0, x6_1⟩ : S31) [.int .i64 1, .string (a0.extract (x6_1 : Int).toNat (x8_2 : Int).toNat), .int .i64 0, .int .i64 x6_1] (fun _ => True) (fun _ => False) rfl rfl ?aP (fun _ hk => hk.elim) ?aF ?aO ?aB ?aS ?aL ?_; (case aP => exact k31_mkM _ _ _ (⟨1, a0.extract (x6_1 : Int).toNat (x8_2 : Int).toNat, 0, x6_1⟩ : S31)); (case aB => exact (by repeat (first | (with_reducible first | exact HB.out | apply below_alloc | apply pw_below_drewN | apply below_drew1) | exact HB.out))); (case aF => exact (fun _ _ => trivial)); (case aO => exact (by (with_reducible repeat (first | apply Kd.R_alloc | apply Kd.R_drewN | apply Kd.R_drew)); exact HO_5.out)); (case aS => exact (below_size (by repeat (first | (with_reducible first | exact HB.out | apply below_alloc | apply pw_below_drewN | apply below_drew1) | exact HB.out)))); (case aL => have := LMc16.out; omega); intro v168 w18 ho hb hg hat; rw [← Ny167.out] at ho; have n0_ := Aside0.mk (hb); have n1_ := Aside0.mk (ho); clear HB; clear HO_5; have HB := n0_; have HO169 := n1_; clear n0_ n1_; clear ho hb hg hat) | ((with_reducible refine gate_callee (f := 15) rfl ?_); refine goesL_ (some 100) rfl rfl Tryd.func15 (by kernel_rfl) rfl #[.string a0, .int .i64 x8_2] rfl (by (try simp only [List.map_toArray, List.map_cons, List.map_nil]); first | done | rfl | (simp only [List.length_drop, List.length_take]; rfl)) ?_; (with_reducible refine (arboristref05_skip.calls k2 a0 x8_2 t170 _ A17.out).mono ?_); rintro e w' ⟨rfl, ⟨nd, rfl⟩⟩; refine ⟨_, rfl, ?_⟩))
                            go_roundg k2
                            case measure => have := HK1.out; have := HK2.out; omega
                            case rel => exact ⟨(y167), (t170), (by first | rfl | (simp; done) | (simp [*]; done)), H', ⟨by have := HK1.out; have := HK2.out; omega⟩, ⟨by (with_reducible repeat (first | apply Kd.R_alloc | apply Kd.R_drewN | apply Kd.R_drew)); exact HO169.out⟩, ⟨by repeat (first | (with_reducible first | exact HB.out | apply below_alloc | apply pw_below_drewN | apply below_drew1) | exact HB.out)⟩⟩
                          · rw [if_neg c16] at H
                            exact absurd H (by simp)
                        · rw [if_neg c15] at H
                          exact absurd H (by simp)
                      · rw [if_neg c14] at H
                        exact absurd H (by simp)
                    · rw [if_neg c13] at H
                      exact absurd H (by simp)
                  · rw [if_neg c12] at H
                    have c12b0 : decide (x6_1 < x8_2) = false := decide_eq_false c12
                    clear c12
                    have HC19 := Aside0.mk H
                    clear H
                    go_upto_region 15 with (first | ((with_reducible refine gate_callee (f := 16) rfl ?_); refine goesL_ (some 30) rfl rfl Tryd.func16 (by kernel_rfl) rfl #[.string a0, .int .i64 x8_2] rfl (by (try simp only [List.map_toArray, List.map_cons, List.map_nil]); first | done | rfl | (simp only [List.length_drop, List.length_take]; rfl)) ?_; (with_reducible refine (arboristref05_letter.calls a0 x8_2 false _ A9.out).mono ?_); rintro e w' ⟨rfl, ⟨nd, rfl⟩⟩; refine ⟨_, rfl, ?_⟩) | ((with_reducible refine gate_callee (f := 17) rfl ?_); refine goesL_ (some 37) rfl rfl Tryd.func17 (by kernel_rfl) rfl #[.string a0, .int .i64 x6_1] rfl (by (try simp only [List.map_toArray, List.map_cons, List.map_nil]); first | done | rfl | (simp only [List.length_drop, List.length_take]; rfl)) ?_; (with_reducible refine (arboristref05_digit.calls a0 x6_1 t166 _ A11.out).mono ?_); rintro e w' ⟨rfl, ⟨nd, rfl⟩⟩; refine ⟨_, rfl, ?_⟩))
                    (try simp only [Act.put, List.setIfInBounds_toArray, List.set_cons_zero, List.set_cons_succ])
                    go_cut [52] (fun v52 wc => ∃ (kq : Nat) (x52_18 : Bool), v52 = .bool x52_18 ∧ Aside0 (arboristref05_All.j2 kq a0 x5_1 x6_1 (bt a0 x6_1) x52_18 = some (r1, r2, r3)) ∧ Aside0 (kq ≤ k2) ∧ Aside0 (Kd.R k31 31 wc w.heap.size (fun _ => True) u5 x5_1) ∧ Aside0 (Below w.heap.size w wc))
                    case first =>
                      have H := HC19.out
                      clear HC19
                      by_cases c20 : t166 = true
                      · subst c20
                        have H1 : (arboristref05_All.j2 k2 a0 x5_1 x6_1 (bt a0 x6_1) true) = some (r1, r2, r3) := by rw [if_pos rfl] at H; exact H
                        clear H
                        have H := H1
                        clear H1
                        have H' := Aside0.mk H
                        clear H
                        go_wp2
                        go_meet
                        case rel => exact ⟨_, (true), (by first | rfl | (simp; done) | (simp [*]; done)), H', ⟨by have := HK1.out; have := HK2.out; first | omega | exact Nat.le_refl _⟩, ⟨by (with_reducible repeat (first | apply Kd.R_alloc | apply Kd.R_drewN | apply Kd.R_drew)); exact HO_5.out⟩, ⟨by repeat (first | (with_reducible first | exact HB.out | apply below_alloc | apply pw_below_drewN | apply below_drew1) | exact HB.out)⟩⟩
                      · replace c20 := Bool.eq_false_iff.mpr c20
                        subst c20
                        have H1 : (arboristref05_All.j2 k2 a0 x5_1 x6_1 (bt a0 x6_1) ((bt a0 x6_1) == 45)) = some (r1, r2, r3) := by rw [if_neg (show ¬ (false = true) by decide)] at H; exact H
                        clear H
                        have H := H1
                        clear H1
                        have H' := Aside0.mk H
                        clear H
                        go_wp2
                        go_meet
                        case rel => exact ⟨_, (((bt a0 x6_1) == 45)), (by first | rfl | (simp; done) | (simp [*]; done)), H', ⟨by have := HK1.out; have := HK2.out; first | omega | exact Nat.le_refl _⟩, ⟨by (with_reducible repeat (first | apply Kd.R_alloc | apply Kd.R_drewN | apply Kd.R_drew)); exact HO_5.out⟩, ⟨by repeat (first | (with_reducible first | exact HB.out | apply below_alloc | apply pw_below_drewN | apply below_drew1) | exact HB.out)⟩⟩
                    case rest =>
                      clear HC19
                      try clear c1
                      try clear c2
                      try clear c2b0
                      try clear c2b1
                      try clear p2
                      try clear c6
                      try clear c6b0
                      try clear p6
                      try clear c7
                      try clear c7b0
                      try clear p8
                      try clear q8
                      try clear hx8
                      try clear c10
                      try clear c12
                      try clear c12b0
                      try clear c13
                      try clear c13b0
                      try clear c13b1
                      try clear c14
                      try clear c14b0
                      try clear c14b1
                      try clear c15
                      try clear c15b0
                      try clear c15b1
                      try clear c16
                      try clear c17
                      try clear c20
                      try clear p2
                      try clear p8
                      try clear q8
                      obtain ⟨kq, x52_18, rfl, HA, HJ18, HO_5, HB⟩ := hcut
                      cases kq with
                      | zero => exact absurd HA.out (by simp [arboristref05_All.j2])
                      | succ kj18 =>
                        have H := HA.out
                        clear HA
                        simp only [arboristref05_All.j2] at H
                        by_cases c21 : x52_18 = true
                        · subst c21
                          have H1 : ((arboristref05_number.f kj18 a0 x6_1).bind fun bt171 => (if bt171.2.2 = 0 then (if x5_1.length < 3518437208883 then ((arboristref05_skip.f kj18 a0 bt171.2.1).bind fun t177 => (arboristref05_All.l0 kj18 a0 (x5_1 ++ [(⟨2, (⟨#[]⟩ : ByteArray), bt171.1, x6_1⟩ : S31)]) t177)) else (none)) else (some (([] : List (S31)), x6_1, bt171.2.2)))) = some (r1, r2, r3) := by rw [if_pos rfl] at H; exact H
                          clear H
                          have H := H1
                          clear H1
                          replace H := Option.bind_eq_some_iff.mp H
                          obtain ⟨⟨t171, t172, t173⟩, A220, H⟩ := H
                          replace H : (if t173 = 0 then (if x5_1.length < 3518437208883 then ((arboristref05_skip.f kj18 a0 t172).bind fun t177 => (arboristref05_All.l0 kj18 a0 (x5_1 ++ [(⟨2, (⟨#[]⟩ : ByteArray), t171, x6_1⟩ : S31)]) t177)) else (none)) else (some (([] : List (S31)), x6_1, t173))) = some (r1, r2, r3) := H
                          have A22 := Aside0.mk A220
                          clear A220
                          by_cases c23 : t173 = 0
                          · rw [if_pos c23] at H
                            have c23b0 : (t173 == 0) = true := beq_iff_eq.mpr c23
                            have c23b1 : (t173 != 0) = false := bne_eq_false_iff_eq.mpr c23
                            clear c23
                            by_cases c24 : x5_1.length < 3518437208883
                            · rw [if_pos c24] at H
                              have LMc24 := Aside0.mk c24
                              clear c24
                              obtain ⟨y174, hy174⟩ : ∃ y_ : List (S31), y_ = (x5_1 ++ [(⟨2, (⟨#[]⟩ : ByteArray), t171, x6_1⟩ : S31)]) := ⟨_, rfl⟩
                              replace H : ((arboristref05_skip.f kj18 a0 t172).bind fun t177 => (arboristref05_All.l0 kj18 a0 y174 t177)) = some (r1, r2, r3) := by first | (rw [hy174]; with_reducible exact H) | (have H2_ := (Option.bind_some _ _).symm.trans H; rw [hy174]; with_reducible exact H2_) | (have H2_ := (Option.bind_some _ _).symm.trans H; with_reducible exact H2_) | with_reducible exact H | (rw [hy174]; exact H) | exact H
                              have Ny174 := Aside0.mk hy174
                              clear hy174
                              replace H := Option.bind_eq_some_iff.mp H
                              obtain ⟨t177, A250, H⟩ := H
                              replace H : (arboristref05_All.l0 kj18 a0 y174 t177) = some (r1, r2, r3) := H
                              have A25 := Aside0.mk A250
                              clear A250
                              have H' := Aside0.mk H
                              clear H
                              go_wp2_with (first | ((with_reducible refine gate_callee (f := 18) rfl ?_); refine goesL_ (some 61) rfl rfl Tryd.func18 (by kernel_rfl) rfl #[.string a0, .int .i64 x6_1] rfl (by (try simp only [List.map_toArray, List.map_cons, List.map_nil]); first | done | rfl | (simp only [List.length_drop, List.length_take]; rfl)) ?_; (with_reducible refine (arboristref05_number.calls kj18 a0 x6_1 t171 t172 t173 _ A22.out).mono ?_); rintro e w' ⟨rfl, ⟨nd, rfl⟩⟩; refine ⟨_, rfl, ?_⟩) | ((with_reducible refine gate_builtin (b := .append) (xs := #[.tmp 69, .tmp 73]) rfl ?_); at_builtin; refine Kd.R_append k31 (w0 := w) w.heap.size rfl (.tmp 69) (.tmp 73) 27 31 (.agg #[(.int .i64 0), (.string ⟨#[]⟩), (.int .i64 0), (.int .i64 0)]) 40 rfl Tryd.underlying27 info31 rfl (by decide) (by omega) u5 x5_1 (⟨2, (⟨#[]⟩ : ByteArray), t171, x6_1⟩ : S31) [.int .i64 2, .string (⟨#[]⟩ : ByteArray), .int .i64 t171, .int .i64 x6_1] (fun _ => True) (fun _ => False) rfl rfl ?aP (fun _ hk => hk.elim) ?aF ?aO ?aB ?aS ?aL ?_; (case aP => exact k31_mkM _ _ _ (⟨2, (⟨#[]⟩ : ByteArray), t171, x6_1⟩ : S31)); (case aB => exact (by repeat (first | (with_reducible first | exact HB.out | apply below_alloc | apply pw_below_drewN | apply below_drew1) | exact HB.out))); (case aF => exact (fun _ _ => trivial)); (case aO => exact (by (with_reducible repeat (first | apply Kd.R_alloc | apply Kd.R_drewN | apply Kd.R_drew)); exact HO_5.out)); (case aS => exact (below_size (by repeat (first | (with_reducible first | exact HB.out | apply below_alloc | apply pw_below_drewN | apply below_drew1) | exact HB.out)))); (case aL => have := LMc24.out; omega); intro v175 w26 ho hb hg hat; rw [← Ny174.out] at ho; have n0_ := Aside0.mk (hb); have n1_ := Aside0.mk (ho); clear HB; clear HO_5; have HB := n0_; have HO176 := n1_; clear n0_ n1_; clear ho hb hg hat) | ((with_reducible refine gate_callee (f := 15) rfl ?_); refine goesL_ (some 100) rfl rfl Tryd.func15 (by kernel_rfl) rfl #[.string a0, .int .i64 t172] rfl (by (try simp only [List.map_toArray, List.map_cons, List.map_nil]); first | done | rfl | (simp only [List.length_drop, List.length_take]; rfl)) ?_; (with_reducible refine (arboristref05_skip.calls kj18 a0 t172 t177 _ A25.out).mono ?_); rintro e w' ⟨rfl, ⟨nd, rfl⟩⟩; refine ⟨_, rfl, ?_⟩))
                              go_roundg kj18
                              case measure => have := HK1.out; have := HK2.out; have := HJ18.out; omega
                              case rel => exact ⟨(y174), (t177), (by first | rfl | (simp; done) | (simp [*]; done)), H', ⟨by have := HK1.out; have := HK2.out; have := HJ18.out; omega⟩, ⟨by (with_reducible repeat (first | apply Kd.R_alloc | apply Kd.R_drewN | apply Kd.R_drew)); exact HO176.out⟩, ⟨by repeat (first | (with_reducible first | exact HB.out | apply below_alloc | apply pw_below_drewN | apply below_drew1) | exact HB.out)⟩⟩
                            · rw [if_neg c24] at H
                              exact absurd H (by simp)
                          · rw [if_neg c23] at H
                            have c23b0 : (t173 == 0) = false := beq_eq_false_iff_ne.mpr c23
                            have c23b1 : (t173 != 0) = true := bne_iff_ne.mpr c23
                            simp only [Option.some.injEq, Prod.mk.injEq] at H
                            obtain ⟨rfl, rfl, rfl⟩ := H
                            go_wp2_with (first | ((with_reducible refine gate_callee (f := 18) rfl ?_); refine goesL_ (some 61) rfl rfl Tryd.func18 (by kernel_rfl) rfl #[.string a0, .int .i64 x6_1] rfl (by (try simp only [List.map_toArray, List.map_cons, List.map_nil]); first | done | rfl | (simp only [List.length_drop, List.length_take]; rfl)) ?_; (with_reducible refine (arboristref05_number.calls kj18 a0 x6_1 t171 t172 t173 _ A22.out).mono ?_); rintro e w' ⟨rfl, ⟨nd, rfl⟩⟩; refine ⟨_, rfl, ?_⟩))
                            go_ret3
                            exact ⟨_, by first | rfl | (simp [errW_none, errW_some] <;> rfl) | (simp [*, errW_none, errW_some] <;> rfl), by first | exact Kd.R_nil _ _ _ _ _ | exact Kd.N_nil _ _ _ _ _ | exact Kd.V_nil _ _ _ _ _ | exact Kd.Q_nil _ _ _ _ _ | exact Kd.S_nil _ _ _ _ _, by repeat (first | (with_reducible first | exact HB.out | apply below_alloc | apply pw_below_drewN | apply below_drew1) | exact HB.out)⟩
                        · replace c21 := Bool.eq_false_iff.mpr c21
                          subst c21
                          have H1 : (if (bt a0 x6_1) = 58 then (if 0 ≤ x6_1 then (if x6_1 ≤ (wrap64 (x6_1 + 1)) then (if (wrap64 (x6_1 + 1)) ≤ (a0.size : Int) then (if x5_1.length < 3518437208883 then ((arboristref05_skip.f kj18 a0 (wrap64 (x6_1 + 1))).bind fun t181 => (arboristref05_All.l0 kj18 a0 (x5_1 ++ [(⟨3, a0.extract (x6_1 : Int).toNat ((wrap64 (x6_1 + 1)) : Int).toNat, 0, x6_1⟩ : S31)]) t181)) else (none)) else (none)) else (none)) else (none)) else (if (bt a0 x6_1) = 44 then (if 0 ≤ x6_1 then (if x6_1 ≤ (wrap64 (x6_1 + 1)) then (if (wrap64 (x6_1 + 1)) ≤ (a0.size : Int) then (if x5_1.length < 3518437208883 then ((arboristref05_skip.f kj18 a0 (wrap64 (x6_1 + 1))).bind fun t185 => (arboristref05_All.l0 kj18 a0 (x5_1 ++ [(⟨3, a0.extract (x6_1 : Int).toNat ((wrap64 (x6_1 + 1)) : Int).toNat, 0, x6_1⟩ : S31)]) t185)) else (none)) else (none)) else (none)) else (none)) else (if (bt a0 x6_1) = 59 then (if 0 ≤ x6_1 then (if x6_1 ≤ (wrap64 (x6_1 + 1)) then (if (wrap64 (x6_1 + 1)) ≤ (a0.size : Int) then (if x5_1.length < 3518437208883 then ((arboristref05_skip.f kj18 a0 (wrap64 (x6_1 + 1))).bind fun t189 => (arboristref05_All.l0 kj18 a0 (x5_1 ++ [(⟨3, a0.extract (x6_1 : Int).toNat ((wrap64 (x6_1 + 1)) : Int).toNat, 0, x6_1⟩ : S31)]) t189)) else (none)) else (none)) else (none)) else (none)) else (some (([] : List (S31)), x6_1, 2))))) = some (r1, r2, r3) := by rw [if_neg (show ¬ (false = true) by decide)] at H; exact H
                          clear H
                          have H := H1
                          clear H1
                          by_cases c27 : (bt a0 x6_1) = 58
                          · rw [if_pos c27] at H
                            have c27b0 : ((bt a0 x6_1) == 58) = true := beq_iff_eq.mpr c27
                            have c27b1 : ((bt a0 x6_1) != 58) = false := bne_eq_false_iff_eq.mpr c27
                            clear c27
                            by_cases c28 : 0 ≤ x6_1
                            · rw [if_pos c28] at H
                              have c28b0 := eq_true c28
                              have c28b1 : decide (0 ≤ x6_1) = true := decide_eq_true c28
                              clear c28
                              by_cases c29 : x6_1 ≤ (wrap64 (x6_1 + 1))
                              · rw [if_pos c29] at H
                                have c29b0 := eq_true c29
                                have c29b1 : decide (x6_1 ≤ (wrap64 (x6_1 + 1))) = true := decide_eq_true c29
                                by_cases c30 : (wrap64 (x6_1 + 1)) ≤ (a0.size : Int)
                                · rw [if_pos c30] at H
                                  have c30b0 := eq_true c30
                                  have c30b1 : decide ((wrap64 (x6_1 + 1)) ≤ (a0.size : Int)) = true := decide_eq_true c30
                                  by_cases c31 : x5_1.length < 3518437208883
                                  · rw [if_pos c31] at H
                                    have LMc31 := Aside0.mk c31
                                    clear c31
                                    obtain ⟨y178, hy178⟩ : ∃ y_ : List (S31), y_ = (x5_1 ++ [(⟨3, a0.extract (x6_1 : Int).toNat ((wrap64 (x6_1 + 1)) : Int).toNat, 0, x6_1⟩ : S31)]) := ⟨_, rfl⟩
                                    replace H : ((arboristref05_skip.f kj18 a0 (wrap64 (x6_1 + 1))).bind fun t181 => (arboristref05_All.l0 kj18 a0 y178 t181)) = some (r1, r2, r3) := by first | (rw [hy178]; with_reducible exact H) | (have H2_ := (Option.bind_some _ _).symm.trans H; rw [hy178]; with_reducible exact H2_) | (have H2_ := (Option.bind_some _ _).symm.trans H; with_reducible exact H2_) | with_reducible exact H | (rw [hy178]; exact H) | exact H
                                    have Ny178 := Aside0.mk hy178
                                    clear hy178
                                    replace H := Option.bind_eq_some_iff.mp H
                                    obtain ⟨t181, A320, H⟩ := H
                                    replace H : (arboristref05_All.l0 kj18 a0 y178 t181) = some (r1, r2, r3) := H
                                    have A32 := Aside0.mk A320
                                    clear A320
                                    have H' := Aside0.mk H
                                    clear H
                                    go_wp2_with (first | ((with_reducible refine gate_builtin (b := .append) (xs := #[.tmp 89, .tmp 96]) rfl ?_); at_builtin; refine Kd.R_append k31 (w0 := w) w.heap.size rfl (.tmp 89) (.tmp 96) 27 31 (.agg #[(.int .i64 0), (.string ⟨#[]⟩), (.int .i64 0), (.int .i64 0)]) 40 rfl Tryd.underlying27 info31 rfl (by decide) (by omega) u5 x5_1 (⟨3, a0.extract (x6_1 : Int).toNat ((wrap64 (x6_1 + 1)) : Int).toNat, 0, x6_1⟩ : S31) [.int .i64 3, .string (a0.extract (x6_1 : Int).toNat ((wrap64 (x6_1 + 1)) : Int).toNat), .int .i64 0, .int .i64 x6_1] (fun _ => True) (fun _ => False) rfl rfl ?aP (fun _ hk => hk.elim) ?aF ?aO ?aB ?aS ?aL ?_; (case aP => exact k31_mkM _ _ _ (⟨3, a0.extract (x6_1 : Int).toNat ((wrap64 (x6_1 + 1)) : Int).toNat, 0, x6_1⟩ : S31)); (case aB => exact (by repeat (first | (with_reducible first | exact HB.out | apply below_alloc | apply pw_below_drewN | apply below_drew1) | exact HB.out))); (case aF => exact (fun _ _ => trivial)); (case aO => exact (by (with_reducible repeat (first | apply Kd.R_alloc | apply Kd.R_drewN | apply Kd.R_drew)); exact HO_5.out)); (case aS => exact (below_size (by repeat (first | (with_reducible first | exact HB.out | apply below_alloc | apply pw_below_drewN | apply below_drew1) | exact HB.out)))); (case aL => have := LMc31.out; omega); intro v179 w33 ho hb hg hat; rw [← Ny178.out] at ho; have n0_ := Aside0.mk (hb); have n1_ := Aside0.mk (ho); clear HB; clear HO_5; have HB := n0_; have HO180 := n1_; clear n0_ n1_; clear ho hb hg hat) | ((with_reducible refine gate_callee (f := 15) rfl ?_); refine goesL_ (some 100) rfl rfl Tryd.func15 (by kernel_rfl) rfl #[.string a0, .int .i64 (wrap64 (x6_1 + 1))] rfl (by (try simp only [List.map_toArray, List.map_cons, List.map_nil]); first | done | rfl | (simp only [List.length_drop, List.length_take]; rfl)) ?_; (with_reducible refine (arboristref05_skip.calls kj18 a0 (wrap64 (x6_1 + 1)) t181 _ A32.out).mono ?_); rintro e w' ⟨rfl, ⟨nd, rfl⟩⟩; refine ⟨_, rfl, ?_⟩))
                                    go_roundg kj18
                                    case measure => have := HK1.out; have := HK2.out; have := HJ18.out; omega
                                    case rel => exact ⟨(y178), (t181), (by first | rfl | (simp; done) | (simp [*]; done)), H', ⟨by have := HK1.out; have := HK2.out; have := HJ18.out; omega⟩, ⟨by (with_reducible repeat (first | apply Kd.R_alloc | apply Kd.R_drewN | apply Kd.R_drew)); exact HO180.out⟩, ⟨by repeat (first | (with_reducible first | exact HB.out | apply below_alloc | apply pw_below_drewN | apply below_drew1) | exact HB.out)⟩⟩
                                  · rw [if_neg c31] at H
                                    exact absurd H (by simp)
                                · rw [if_neg c30] at H
                                  exact absurd H (by simp)
                              · rw [if_neg c29] at H
                                exact absurd H (by simp)
                            · rw [if_neg c28] at H
                              exact absurd H (by simp)
                          · rw [if_neg c27] at H
                            have c27b0 : ((bt a0 x6_1) == 58) = false := beq_eq_false_iff_ne.mpr c27
                            have c27b1 : ((bt a0 x6_1) != 58) = true := bne_iff_ne.mpr c27
                            by_cases c34 : (bt a0 x6_1) = 44
                            · rw [if_pos c34] at H
                              have c34b0 : ((bt a0 x6_1) == 44) = true := beq_iff_eq.mpr c34
                              have c34b1 : ((bt a0 x6_1) != 44) = false := bne_eq_false_iff_eq.mpr c34
                              clear c34
                              by_cases c35 : 0 ≤ x6_1
                              · rw [if_pos c35] at H
                                have c35b0 := eq_true c35
                                have c35b1 : decide (0 ≤ x6_1) = true := decide_eq_true c35
                                clear c35
                                by_cases c36 : x6_1 ≤ (wrap64 (x6_1 + 1))
                                · rw [if_pos c36] at H
                                  have c36b0 := eq_true c36
                                  have c36b1 : decide (x6_1 ≤ (wrap64 (x6_1 + 1))) = true := decide_eq_true c36
                                  by_cases c37 : (wrap64 (x6_1 + 1)) ≤ (a0.size : Int)
                                  · rw [if_pos c37] at H
                                    have c37b0 := eq_true c37
                                    have c37b1 : decide ((wrap64 (x6_1 + 1)) ≤ (a0.size : Int)) = true := decide_eq_true c37
                                    by_cases c38 : x5_1.length < 3518437208883
                                    · rw [if_pos c38] at H
                                      have LMc38 := Aside0.mk c38
                                      clear c38
                                      obtain ⟨y182, hy182⟩ : ∃ y_ : List (S31), y_ = (x5_1 ++ [(⟨3, a0.extract (x6_1 : Int).toNat ((wrap64 (x6_1 + 1)) : Int).toNat, 0, x6_1⟩ : S31)]) := ⟨_, rfl⟩
                                      replace H : ((arboristref05_skip.f kj18 a0 (wrap64 (x6_1 + 1))).bind fun t185 => (arboristref05_All.l0 kj18 a0 y182 t185)) = some (r1, r2, r3) := by first | (rw [hy182]; with_reducible exact H) | (have H2_ := (Option.bind_some _ _).symm.trans H; rw [hy182]; with_reducible exact H2_) | (have H2_ := (Option.bind_some _ _).symm.trans H; with_reducible exact H2_) | with_reducible exact H | (rw [hy182]; exact H) | exact H
                                      have Ny182 := Aside0.mk hy182
                                      clear hy182
                                      replace H := Option.bind_eq_some_iff.mp H
                                      obtain ⟨t185, A390, H⟩ := H
                                      replace H : (arboristref05_All.l0 kj18 a0 y182 t185) = some (r1, r2, r3) := H
                                      have A39 := Aside0.mk A390
                                      clear A390
                                      have H' := Aside0.mk H
                                      clear H
                                      go_wp2_with (first | ((with_reducible refine gate_builtin (b := .append) (xs := #[.tmp 89, .tmp 96]) rfl ?_); at_builtin; refine Kd.R_append k31 (w0 := w) w.heap.size rfl (.tmp 89) (.tmp 96) 27 31 (.agg #[(.int .i64 0), (.string ⟨#[]⟩), (.int .i64 0), (.int .i64 0)]) 40 rfl Tryd.underlying27 info31 rfl (by decide) (by omega) u5 x5_1 (⟨3, a0.extract (x6_1 : Int).toNat ((wrap64 (x6_1 + 1)) : Int).toNat, 0, x6_1⟩ : S31) [.int .i64 3, .string (a0.extract (x6_1 : Int).toNat ((wrap64 (x6_1 + 1)) : Int).toNat), .int .i64 0, .int .i64 x6_1] (fun _ => True) (fun _ => False) rfl rfl ?aP (fun _ hk => hk.elim) ?aF ?aO ?aB ?aS ?aL ?_; (case aP => exact k31_mkM _ _ _ (⟨3, a0.extract (x6_1 : Int).toNat ((wrap64 (x6_1 + 1)) : Int).toNat, 0, x6_1⟩ : S31)); (case aB => exact (by repeat (first | (with_reducible first | exact HB.out | apply below_alloc | apply pw_below_drewN | apply below_drew1) | exact HB.out))); (case aF => exact (fun _ _ => trivial)); (case aO => exact (by (with_reducible repeat (first | apply Kd.R_alloc | apply Kd.R_drewN | apply Kd.R_drew)); exact HO_5.out)); (case aS => exact (below_size (by repeat (first | (with_reducible first | exact HB.out | apply below_alloc | apply pw_below_drewN | apply below_drew1) | exact HB.out)))); (case aL => have := LMc38.out; omega); intro v183 w40 ho hb hg hat; rw [← Ny182.out] at ho; have n0_ := Aside0.mk (hb); have n1_ := Aside0.mk (ho); clear HB; clear HO_5; have HB := n0_; have HO184 := n1_; clear n0_ n1_; clear ho hb hg hat) | ((with_reducible refine gate_callee (f := 15) rfl ?_); refine goesL_ (some 100) rfl rfl Tryd.func15 (by kernel_rfl) rfl #[.string a0, .int .i64 (wrap64 (x6_1 + 1))] rfl (by (try simp only [List.map_toArray, List.map_cons, List.map_nil]); first | done | rfl | (simp only [List.length_drop, List.length_take]; rfl)) ?_; (with_reducible refine (arboristref05_skip.calls kj18 a0 (wrap64 (x6_1 + 1)) t185 _ A39.out).mono ?_); rintro e w' ⟨rfl, ⟨nd, rfl⟩⟩; refine ⟨_, rfl, ?_⟩))
                                      go_roundg kj18
                                      case measure => have := HK1.out; have := HK2.out; have := HJ18.out; omega
                                      case rel => exact ⟨(y182), (t185), (by first | rfl | (simp; done) | (simp [*]; done)), H', ⟨by have := HK1.out; have := HK2.out; have := HJ18.out; omega⟩, ⟨by (with_reducible repeat (first | apply Kd.R_alloc | apply Kd.R_drewN | apply Kd.R_drew)); exact HO184.out⟩, ⟨by repeat (first | (with_reducible first | exact HB.out | apply below_alloc | apply pw_below_drewN | apply below_drew1) | exact HB.out)⟩⟩
                                    · rw [if_neg c38] at H
                                      exact absurd H (by simp)
                                  · rw [if_neg c37] at H
                                    exact absurd H (by simp)
                                · rw [if_neg c36] at H
                                  exact absurd H (by simp)
                              · rw [if_neg c35] at H
                                exact absurd H (by simp)
                            · rw [if_neg c34] at H
                              have c34b0 : ((bt a0 x6_1) == 44) = false := beq_eq_false_iff_ne.mpr c34
                              have c34b1 : ((bt a0 x6_1) != 44) = true := bne_iff_ne.mpr c34
                              by_cases c41 : (bt a0 x6_1) = 59
                              · rw [if_pos c41] at H
                                have c41b0 : ((bt a0 x6_1) == 59) = true := beq_iff_eq.mpr c41
                                have c41b1 : ((bt a0 x6_1) != 59) = false := bne_eq_false_iff_eq.mpr c41
                                clear c41
                                by_cases c42 : 0 ≤ x6_1
                                · rw [if_pos c42] at H
                                  have c42b0 := eq_true c42
                                  have c42b1 : decide (0 ≤ x6_1) = true := decide_eq_true c42
                                  clear c42
                                  by_cases c43 : x6_1 ≤ (wrap64 (x6_1 + 1))
                                  · rw [if_pos c43] at H
                                    have c43b0 := eq_true c43
                                    have c43b1 : decide (x6_1 ≤ (wrap64 (x6_1 + 1))) = true := decide_eq_true c43
                                    by_cases c44 : (wrap64 (x6_1 + 1)) ≤ (a0.size : Int)
                                    · rw [if_pos c44] at H
                                      have c44b0 := eq_true c44
                                      have c44b1 : decide ((wrap64 (x6_1 + 1)) ≤ (a0.size : Int)) = true := decide_eq_true c44
                                      by_cases c45 : x5_1.length < 3518437208883
                                      · rw [if_pos c45] at H
                                        have LMc45 := Aside0.mk c45
                                        clear c45
                                        obtain ⟨y186, hy186⟩ : ∃ y_ : List (S31), y_ = (x5_1 ++ [(⟨3, a0.extract (x6_1 : Int).toNat ((wrap64 (x6_1 + 1)) : Int).toNat, 0, x6_1⟩ : S31)]) := ⟨_, rfl⟩
                                        replace H : ((arboristref05_skip.f kj18 a0 (wrap64 (x6_1 + 1))).bind fun t189 => (arboristref05_All.l0 kj18 a0 y186 t189)) = some (r1, r2, r3) := by first | (rw [hy186]; with_reducible exact H) | (have H2_ := (Option.bind_some _ _).symm.trans H; rw [hy186]; with_reducible exact H2_) | (have H2_ := (Option.bind_some _ _).symm.trans H; with_reducible exact H2_) | with_reducible exact H | (rw [hy186]; exact H) | exact H
                                        have Ny186 := Aside0.mk hy186
                                        clear hy186
                                        replace H := Option.bind_eq_some_iff.mp H
                                        obtain ⟨t189, A460, H⟩ := H
                                        replace H : (arboristref05_All.l0 kj18 a0 y186 t189) = some (r1, r2, r3) := H
                                        have A46 := Aside0.mk A460
                                        clear A460
                                        have H' := Aside0.mk H
                                        clear H
                                        go_wp2_with (first | ((with_reducible refine gate_builtin (b := .append) (xs := #[.tmp 89, .tmp 96]) rfl ?_); at_builtin; refine Kd.R_append k31 (w0 := w) w.heap.size rfl (.tmp 89) (.tmp 96) 27 31 (.agg #[(.int .i64 0), (.string ⟨#[]⟩), (.int .i64 0), (.int .i64 0)]) 40 rfl Tryd.underlying27 info31 rfl (by decide) (by omega) u5 x5_1 (⟨3, a0.extract (x6_1 : Int).toNat ((wrap64 (x6_1 + 1)) : Int).toNat, 0, x6_1⟩ : S31) [.int .i64 3, .string (a0.extract (x6_1 : Int).toNat ((wrap64 (x6_1 + 1)) : Int).toNat), .int .i64 0, .int .i64 x6_1] (fun _ => True) (fun _ => False) rfl rfl ?aP (fun _ hk => hk.elim) ?aF ?aO ?aB ?aS ?aL ?_; (case aP => exact k31_mkM _ _ _ (⟨3, a0.extract (x6_1 : Int).toNat ((wrap64 (x6_1 + 1)) : Int).toNat, 0, x6_1⟩ : S31)); (case aB => exact (by repeat (first | (with_reducible first | exact HB.out | apply below_alloc | apply pw_below_drewN | apply below_drew1) | exact HB.out))); (case aF => exact (fun _ _ => trivial)); (case aO => exact (by (with_reducible repeat (first | apply Kd.R_alloc | apply Kd.R_drewN | apply Kd.R_drew)); exact HO_5.out)); (case aS => exact (below_size (by repeat (first | (with_reducible first | exact HB.out | apply below_alloc | apply pw_below_drewN | apply below_drew1) | exact HB.out)))); (case aL => have := LMc45.out; omega); intro v187 w47 ho hb hg hat; rw [← Ny186.out] at ho; have n0_ := Aside0.mk (hb); have n1_ := Aside0.mk (ho); clear HB; clear HO_5; have HB := n0_; have HO188 := n1_; clear n0_ n1_; clear ho hb hg hat) | ((with_reducible refine gate_callee (f := 15) rfl ?_); refine goesL_ (some 100) rfl rfl Tryd.func15 (by kernel_rfl) rfl #[.string a0, .int .i64 (wrap64 (x6_1 + 1))] rfl (by (try simp only [List.map_toArray, List.map_cons, List.map_nil]); first | done | rfl | (simp only [List.length_drop, List.length_take]; rfl)) ?_; (with_reducible refine (arboristref05_skip.calls kj18 a0 (wrap64 (x6_1 + 1)) t189 _ A46.out).mono ?_); rintro e w' ⟨rfl, ⟨nd, rfl⟩⟩; refine ⟨_, rfl, ?_⟩))
                                        go_roundg kj18
                                        case measure => have := HK1.out; have := HK2.out; have := HJ18.out; omega
                                        case rel => exact ⟨(y186), (t189), (by first | rfl | (simp; done) | (simp [*]; done)), H', ⟨by have := HK1.out; have := HK2.out; have := HJ18.out; omega⟩, ⟨by (with_reducible repeat (first | apply Kd.R_alloc | apply Kd.R_drewN | apply Kd.R_drew)); exact HO188.out⟩, ⟨by repeat (first | (with_reducible first | exact HB.out | apply below_alloc | apply pw_below_drewN | apply below_drew1) | exact HB.out)⟩⟩
                                      · rw [if_neg c45] at H
                                        exact absurd H (by simp)
                                    · rw [if_neg c44] at H
                                      exact absurd H (by simp)
                                  · rw [if_neg c43] at H
                                    exact absurd H (by simp)
                                · rw [if_neg c42] at H
                                  exact absurd H (by simp)
                              · rw [if_neg c41] at H
                                have c41b0 : ((bt a0 x6_1) == 59) = false := beq_eq_false_iff_ne.mpr c41
                                have c41b1 : ((bt a0 x6_1) != 59) = true := bne_iff_ne.mpr c41
                                simp only [Option.some.injEq, Prod.mk.injEq] at H
                                obtain ⟨rfl, rfl, rfl⟩ := H
                                go_wp2
                                go_ret3
                                exact ⟨_, by first | rfl | (simp [errW_none, errW_some] <;> rfl) | (simp [*, errW_none, errW_some] <;> rfl), by first | exact Kd.R_nil _ _ _ _ _ | exact Kd.N_nil _ _ _ _ _ | exact Kd.V_nil _ _ _ _ _ | exact Kd.Q_nil _ _ _ _ _ | exact Kd.S_nil _ _ _ _ _, by repeat (first | (with_reducible first | exact HB.out | apply below_alloc | apply pw_below_drewN | apply below_drew1) | exact HB.out)⟩
          · rw [if_neg c7] at H
            exact absurd H (by simp)
        · rw [if_neg c6] at H
          have c6b0 : decide (x6_1 < (a0.size : Int)) = false := decide_eq_false c6
          clear c6
          by_cases c48 : x5_1.length < 3518437208883
          · rw [if_pos c48] at H
            have LMc48 := Aside0.mk c48
            clear c48
            obtain ⟨y162, hy162⟩ : ∃ y_ : List (S31), y_ = (x5_1 ++ [(⟨4, (⟨#[]⟩ : ByteArray), 0, (a0.size : Int)⟩ : S31)]) := ⟨_, rfl⟩
            replace H : (some (y162, 0, 0)) = some (r1, r2, r3) := by first | (rw [hy162]; with_reducible exact H) | (have H2_ := (Option.bind_some _ _).symm.trans H; rw [hy162]; with_reducible exact H2_) | (have H2_ := (Option.bind_some _ _).symm.trans H; with_reducible exact H2_) | with_reducible exact H | (rw [hy162]; exact H) | exact H
            have Ny162 := Aside0.mk hy162
            clear hy162
            simp only [Option.some.injEq, Prod.mk.injEq] at H
            obtain ⟨rfl, rfl, rfl⟩ := H
            go_wp2_with (first | ((with_reducible refine gate_builtin (b := .append) (xs := #[.tmp 101, .tmp 105]) rfl ?_); at_builtin; refine Kd.R_append k31 (w0 := w) w.heap.size rfl (.tmp 101) (.tmp 105) 27 31 (.agg #[(.int .i64 0), (.string ⟨#[]⟩), (.int .i64 0), (.int .i64 0)]) 40 rfl Tryd.underlying27 info31 rfl (by decide) (by omega) u5 x5_1 (⟨4, (⟨#[]⟩ : ByteArray), 0, (a0.size : Int)⟩ : S31) [.int .i64 4, .string (⟨#[]⟩ : ByteArray), .int .i64 0, .int .i64 (a0.size : Int)] (fun _ => True) (fun _ => False) rfl rfl ?aP (fun _ hk => hk.elim) ?aF ?aO ?aB ?aS ?aL ?_; (case aP => exact k31_mkM _ _ _ (⟨4, (⟨#[]⟩ : ByteArray), 0, (a0.size : Int)⟩ : S31)); (case aB => exact (by repeat (first | (with_reducible first | exact HB.out | apply below_alloc | apply pw_below_drewN | apply below_drew1) | exact HB.out))); (case aF => exact (fun _ _ => trivial)); (case aO => exact (by (with_reducible repeat (first | apply Kd.R_alloc | apply Kd.R_drewN | apply Kd.R_drew)); exact HO_5.out)); (case aS => exact (below_size (by repeat (first | (with_reducible first | exact HB.out | apply below_alloc | apply pw_below_drewN | apply below_drew1) | exact HB.out)))); (case aL => have := LMc48.out; omega); intro v163 w49 ho hb hg hat; rw [← Ny162.out] at ho; have n0_ := Aside0.mk (hb); have n1_ := Aside0.mk (ho); clear HB; clear HO_5; have HB := n0_; have HO164 := n1_; clear n0_ n1_; clear ho hb hg hat))
            go_ret3
            exact ⟨_, by first | rfl | (simp [errW_none, errW_some] <;> rfl) | (simp [*, errW_none, errW_some] <;> rfl), by (with_reducible repeat (first | apply Kd.R_alloc | apply Kd.R_drewN | apply Kd.R_drew)); exact HO164.out, by repeat (first | (with_reducible first | exact HB.out | apply below_alloc | apply pw_below_drewN | apply below_drew1) | exact HB.out)⟩
          · rw [if_neg c48] at H
            exact absurd H (by simp)

end Go.Proofs.YtfgabdfnbkmaeaaDoor.Pr
