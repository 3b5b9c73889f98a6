-- Printed by a program of this session's own (wip/tools/pp.py) over the kit's print.py; Lean checks it.
import Derived.Test.YtfgabdfnbkmaeaaDoorPr0
import Derived.Test.YtfgabdfnbkmaeaaDoorPr11
import Derived.Test.YtfgabdfnbkmaeaaDoorPr12
namespace Go.Proofs.YtfgabdfnbkmaeaaDoor.Pr
open Go.RowKit Go.Proofs.YtfgabdfnbkmaeaaDoorW.PrintWords Go.Proofs.YtfgabdfnbkmaeaaDoorW.PrintLast Go.Proofs.YtfgabdfnbkmaeaaDoorW.PrintMore
attribute [local go_sem] max2_int min2_int max_two min_two max_three min_three max_four min_four   -- for this text's walks alone
set_option linter.unusedVariables false
set_option linter.unusedSimpArgs false

/-! ### arboristlaw05_ScanNumbers: function 6 -/
mutual
def arboristlaw05_ScanNumbers.j0 : Nat → Int → Bool → ByteArray → Int → Option (Bool)
  | 0, _, _, _, _ => none
  | k + 1, x0, x3, x4, x5 => arboristlaw05_ScanNumbers.l0 k x0 x3 x4 x5 (⟨#[]⟩ : ByteArray)
def arboristlaw05_ScanNumbers.l0 : Nat → Int → Bool → ByteArray → Int → ByteArray → Option (Bool)
  | 0, _, _, _, _, _ => none
  | k + 1, x0, x3, x4, x5, x6 => if x5 > 0 then ((some (([(wrap64 (48 + (Int.tmod x5 10))) % 256] : List Int) : List Int)).bind fun y232 => (if (strOfNums y232).size + x6.size ≤ 9223372036854775807 then (arboristlaw05_ScanNumbers.l0 k x0 x3 x4 (wrap64 (Int.tdiv x5 10)) ((strOfNums y232) ++ x6)) else (none))) else (if x6.toList = ([] : List UInt8) then ((some (([(wrap64 (48 + (Int.tmod x5 10))) % 256] : List Int) : List Int)).bind fun y235 => (if (strOfNums y235).size + x6.size ≤ 9223372036854775807 then (arboristlaw05_ScanNumbers.l0 k x0 x3 x4 (wrap64 (Int.tdiv x5 10)) ((strOfNums y235) ++ x6)) else (none))) else (if x4.size + x6.size ≤ 9223372036854775807 then ((scan_All.f (x4 ++ x6)).bind fun bt238 => (if x0 > 1000000000000 then (if x3 = true then (if bt238.2.2 = 4 then (if bt238.2.1 = 3 then (some ((bt238.1.length : Int) == 0)) else (some false)) else (some false)) else (some false)) else (if x0 < (-1000000000000) then (if x3 = true then (if bt238.2.2 = 4 then (if bt238.2.1 = 3 then (some ((bt238.1.length : Int) == 0)) else (some false)) else (some false)) else (some false)) else (if x3 = true then (if bt238.2.2 = 0 then (if (bt238.1.length : Int) = 3 then (if 1 < (bt238.1.length : Int) then (if ((rd_T32 bt238.1 1).f2) = x0 then (if ((rd_T32 bt238.1 1).f3) = 3 then (if 2 < (bt238.1.length : Int) then (some (((rd_T32 bt238.1 2).f3) == ((x4 ++ x6).size : Int))) else (none)) else (some false)) else (some false)) else (none)) else (some false)) else (some false)) else (some false))))) else (none)))
end
def arboristlaw05_ScanNumbers.f (k : Nat) (a0 : Int) : Option (Bool) := (arboristlaw05_shown.f).bind fun t231 => (if (a0 / 2) < 0 then (arboristlaw05_ScanNumbers.j0 k (a0 / 2) t231 (⟨#[97, 98, 32, 45]⟩ : ByteArray) (wrap64 (-(a0 / 2)))) else (arboristlaw05_ScanNumbers.j0 k (a0 / 2) t231 (⟨#[97, 98, 32]⟩ : ByteArray) (a0 / 2)))
theorem arboristlaw05_ScanNumbers.mono_l : ∀ k, (∀ y0 y1 y2 y3, LeO (arboristlaw05_ScanNumbers.j0 k y0 y1 y2 y3) (arboristlaw05_ScanNumbers.j0 (k + 1) y0 y1 y2 y3)) ∧ (∀ y0 y1 y2 y3 y4, LeO (arboristlaw05_ScanNumbers.l0 k y0 y1 y2 y3 y4) (arboristlaw05_ScanNumbers.l0 (k + 1) y0 y1 y2 y3 y4))
  | 0 => ⟨fun _ _ _ _ r h => by simp [arboristlaw05_ScanNumbers.j0] at h, fun _ _ _ _ _ r h => by simp [arboristlaw05_ScanNumbers.l0] at h⟩
  | k + 1 => by
    obtain ⟨ih0, ih1⟩ := arboristlaw05_ScanNumbers.mono_l k
    refine ⟨?_, ?_⟩
    all_goals intros
    all_goals (first | unfold arboristlaw05_ScanNumbers.j0 | unfold arboristlaw05_ScanNumbers.l0)
    all_goals repeat' first
    | (with_reducible exact ih0 _ _ _ _)
    | (with_reducible exact ih1 _ _ _ _ _)
    | (with_reducible exact LeO.refl _)
    | (with_reducible exact LeO.none _)
    | (with_reducible refine LeO.ite ?_ ?_)
    | (with_reducible refine LeO.bind ?_ (fun _ => ?_))
    | exact ih0 _ _ _ _
    | exact ih1 _ _ _ _ _
    | exact LeO.none _
    | refine LeO.ite ?_ ?_
    | refine LeO.bind ?_ (fun _ => ?_)
theorem arboristlaw05_ScanNumbers.mono : ∀ a0 k, LeO (arboristlaw05_ScanNumbers.f k a0) (arboristlaw05_ScanNumbers.f (k + 1) a0) := by
  intro a0 k
  obtain ⟨ih0, ih1⟩ := arboristlaw05_ScanNumbers.mono_l k
  unfold arboristlaw05_ScanNumbers.f
  repeat' first
      | (with_reducible exact ih0 _ _ _ _)
      | (with_reducible exact ih1 _ _ _ _ _)
      | (with_reducible exact LeO.refl _)
      | (with_reducible exact LeO.none _)
      | (with_reducible refine LeO.ite ?_ ?_)
      | (with_reducible refine LeO.bind ?_ (fun _ => ?_))
      | exact ih0 _ _ _ _
      | exact ih1 _ _ _ _ _
      | exact LeO.none _
      | refine LeO.ite ?_ ?_
      | refine LeO.bind ?_ (fun _ => ?_)
set_option maxHeartbeats 8000000 in
set_option maxRecDepth 100000 in
theorem arboristlaw05_ScanNumbers.calls (k : Nat) (a0 : Int) (r : Bool) (w : World) (hTb : Tab64 w) (hT : r = true) (h : arboristlaw05_ScanNumbers.f k a0 = some r) :
    Calls Tryd.prog 6 #[.int .i64 a0] w fun e w' => e = .returned (.bool r) ∧ Below w.heap.size w w' := by
  have HTAB := Aside0.mk hTb
  clear hTb
  have HT_ := Aside0.mk (show r = true from hT)
  clear hT
  have HB := Aside0.mk (Below.refl w.heap.size w)
  have H : ((arboristlaw05_shown.f).bind fun t231 => (if (a0 / 2) < 0 then (arboristlaw05_ScanNumbers.j0 k (a0 / 2) t231 (⟨#[97, 98, 32, 45]⟩ : ByteArray) (wrap64 (-(a0 / 2)))) else (arboristlaw05_ScanNumbers.j0 k (a0 / 2) t231 (⟨#[97, 98, 32]⟩ : ByteArray) (a0 / 2)))) = some r := h
  clear h
  replace H := Option.bind_eq_some_iff.mp H
  obtain ⟨t231, A20, H⟩ := H
  replace H : (if (a0 / 2) < 0 then (arboristlaw05_ScanNumbers.j0 k (a0 / 2) t231 (⟨#[97, 98, 32, 45]⟩ : ByteArray) (wrap64 (-(a0 / 2)))) else (arboristlaw05_ScanNumbers.j0 k (a0 / 2) t231 (⟨#[97, 98, 32]⟩ : ByteArray) (a0 / 2))) = some r := H
  have A2 := Aside0.mk A20
  clear A20
  have HC3 := Aside0.mk H
  clear H
  go_enter Tryd.func6, Tryd.ntmps6
  go_upto_if 15 with (first | ((with_reducible refine gate_callee (f := 10) rfl ?_); refine goesL_ (some 10) rfl rfl Tryd.func10 (by kernel_rfl) rfl #[] rfl (by (try simp only [List.map_toArray, List.map_cons, List.map_nil]); first | done | rfl | (simp only [List.length_drop, List.length_take]; rfl)) ?_; (with_reducible refine (arboristlaw05_shown.calls (hTb := (by first | exact HTAB.out | exact tab_drewN HTAB.out _ | exact tab_below HTAB.out (by repeat (first | (with_reducible first | exact HB.out | apply below_alloc | apply pw_below_drewN | apply below_drew1) | exact HB.out))))  t231 _ A2.out).mono ?_); rintro e w4 ⟨rfl, hb⟩; refine ⟨_, rfl, ?_⟩; have n0_ := Aside0.mk (below_step (by repeat (first | (with_reducible first | exact HB.out | apply below_alloc | apply pw_below_drewN | apply below_drew1) | exact HB.out)) hb); clear HB; have HB := n0_; clear n0_; (try clear hb); (try clear hb2); (try clear hk); (try clear hi)))
  (try simp only [Act.put, List.setIfInBounds_toArray, List.set_cons_zero, List.set_cons_succ])
  go_cut [4, 5] (fun v4 v5 wc => ∃ (kq : Nat) (x4_2 : ByteArray) (x5_2 : Int), v4 = .string x4_2 ∧ v5 = .int .i64 x5_2 ∧ Aside0 (arboristlaw05_ScanNumbers.j0 kq (a0 / 2) t231 x4_2 x5_2 = some r) ∧ Aside0 (kq ≤ k) ∧ Aside0 (Below w.heap.size w wc))
  case first =>
    have H := HC3.out
    clear HC3
    by_cases c5 : (a0 / 2) < 0
    · rw [if_pos c5] at H
      have c5b0 : decide ((a0 / 2) < 0) = true := decide_eq_true c5
      clear c5
      (first | rw [c5b0] | (simp only [i64_w, i32_w]; rw [c5b0]) | skip)
      have H' := Aside0.mk H
      clear H
      go_wp2
      go_meet
      case rel => exact ⟨_, ((⟨#[97, 98, 32, 45]⟩ : ByteArray)), (wrap64 (-(a0 / 2))), (by first | rfl | (simp; done) | (simp [*]; done)), (by first | rfl | (simp; done) | (simp [*]; done)), H', ⟨by first | omega | exact Nat.le_refl _⟩, ⟨by repeat (first | (with_reducible first | exact HB.out | apply below_alloc | apply pw_below_drewN | apply below_drew1) | exact HB.out)⟩⟩
    · rw [if_neg c5] at H
      have c5b0 : decide ((a0 / 2) < 0) = false := decide_eq_false c5
      clear c5
      (first | rw [c5b0] | (simp only [i64_w, i32_w]; rw [c5b0]) | skip)
      have H' := Aside0.mk H
      clear H
      go_wp2
      go_meet
      case rel => exact ⟨_, ((⟨#[97, 98, 32]⟩ : ByteArray)), (a0 / 2), (by first | rfl | (simp; done) | (simp [*]; done)), (by first | rfl | (simp; done) | (simp [*]; done)), H', ⟨by first | omega | exact Nat.le_refl _⟩, ⟨by repeat (first | (with_reducible first | exact HB.out | apply below_alloc | apply pw_below_drewN | apply below_drew1) | exact HB.out)⟩⟩
  case rest =>
    clear HC3
    try clear c1
    try clear p2
    try clear c5
    try clear c5b0
    obtain ⟨kq, x4_2, x5_2, rfl, rfl, HA, HJ2, HB⟩ := hcut
    cases kq with
    | zero => exact absurd HA.out (by simp [arboristlaw05_ScanNumbers.j0])
    | succ kj2 =>
      have H := HA.out
      clear HA
      simp only [arboristlaw05_ScanNumbers.j0] at H
      have H' := Aside0.mk H
      clear H
      go_wp2
      go_loopg [5, 6] kj2 (fun kq v5 v6 w' => ∃ (x5_2 : Int) (x6_2 : ByteArray), v5 = .int .i64 x5_2 ∧ v6 = .string x6_2 ∧ Aside0 (arboristlaw05_ScanNumbers.l0 kq (a0 / 2) t231 x4_2 x5_2 x6_2 = some r) ∧ Aside0 (kq ≤ kj2) ∧ Aside0 (Below w.heap.size w w'))
      case atStart => exact ⟨(x5_2), ((⟨#[]⟩ : ByteArray)), (by first | rfl | (simp; done) | (simp [*]; done)), (by first | rfl | (simp; done) | (simp [*]; done)), H', ⟨Nat.le_refl _⟩, ⟨by repeat (first | (with_reducible first | exact HB.out | apply below_alloc | apply pw_below_drewN | apply below_drew1) | exact HB.out)⟩⟩
      case round =>
        clear H'
        try clear c1
        try clear p2
        try clear c5
        try clear c5b0
        try clear p2
        obtain ⟨x5_2, x6_2, rfl, rfl, HA, HK2, HB⟩ := hrel
        cases gk with
        | zero => exact absurd HA.out (by simp [arboristlaw05_ScanNumbers.l0])
        | succ k2 =>
          have H := HA.out
          clear HA
          simp only [arboristlaw05_ScanNumbers.l0] at H
          by_cases c6 : x5_2 > 0
          · rw [if_pos c6] at H
            have c6b0 : decide (0 < x5_2) = true := decide_eq_true c6
            clear c6
            obtain ⟨y232, hy232⟩ : ∃ y_ : List Int, y_ = (([(wrap64 (48 + (Int.tmod x5_2 10))) % 256] : List Int)) := ⟨_, rfl⟩
            replace H : (if (strOfNums y232).size + x6_2.size ≤ 9223372036854775807 then (arboristlaw05_ScanNumbers.l0 k2 (a0 / 2) t231 x4_2 (wrap64 (Int.tdiv x5_2 10)) ((strOfNums y232) ++ x6_2)) else (none)) = some r := by first | (rw [hy232]; with_reducible exact H) | (have H2_ := (Option.bind_some _ _).symm.trans H; rw [hy232]; with_reducible exact H2_) | (have H2_ := (Option.bind_some _ _).symm.trans H; with_reducible exact H2_) | with_reducible exact H | (rw [hy232]; exact H) | exact H
            have Ny232 := Aside0.mk hy232
            clear hy232
            by_cases c7 : (strOfNums y232).size + x6_2.size ≤ 9223372036854775807
            · rw [if_pos c7] at H
              have c7b0 := eq_true c7
              have c7b1 : decide ((strOfNums y232).size + x6_2.size ≤ 9223372036854775807) = true := decide_eq_true c7
              try have c7b2 : (9223372036854775807 < (strOfNums y232).size + x6_2.size) = False := eq_false (Nat.not_lt.2 c7)
              have H' := Aside0.mk H
              clear H
              go_wp2_with (first | ((with_reducible refine gate_dst (N := 28) rfl ?_); (try (refine gate_guard (by rfl) ?_; dsimp only)); refine Kd.R_lit (Kd.int .u8) _ 5 ?hg (N := 28) ?hd (xs := ([(wrap64 (48 + (Int.tmod x5_2 10))) % 256] : List Int)) (inner := [.int .u8 ((wrap64 (48 + (Int.tmod x5_2 10))) % 256)]) (ok := fun _ => True) (okp := fun _ => True) ?hr ?hp (fun _ hk => hk) trivial (Below.refl _ _) (Nat.le_refl _) (by simp) ?_; (case hd => rfl); (case hg => rfl); (case hr => first | (go_simp; done) | (go_simp; rfl)); (case hp => exact (Reps.one (show Kd.M (Kd.int .u8) _ _ _ ((wrap64 (48 + (Int.tmod x5_2 10))) % 256) [.int .u8 ((wrap64 (48 + (Int.tmod x5_2 10))) % 256)] from rfl) (Reps.none _ _))); intro v233 w8 ho9 hb hg_ hnew_; clear hg_ hnew_; (first | rw [← Ny232.out] at ho9 | (simp only [Int.reduceToNat] at ho9; rw [← Ny232.out] at ho9)); have n0_ := Aside0.mk (Kd.R_lower ho9 (below_size (by repeat (first | (with_reducible first | exact HB.out | apply below_alloc | apply pw_below_drewN | apply below_drew1) | exact HB.out)))); have n1_ := Aside0.mk (below_step (by repeat (first | (with_reducible first | exact HB.out | apply below_alloc | apply pw_below_drewN | apply below_drew1) | exact HB.out)) hb); clear HB; have HO234 := n0_; have HB := n1_; clear n0_ n1_; clear hb ho9; have hcv10 := own_string (P := Tryd.prog) Tryd.underlying35 Tryd.underlying5 Tryd.underlying9 (Kd.own_of_R HO234.out)))
              go_roundg k2
              case measure => have := HJ2.out; have := HK2.out; omega
              case rel => exact ⟨(wrap64 (Int.tdiv x5_2 10)), ((strOfNums y232) ++ x6_2), (by first | rfl | (simp; done) | (simp [*]; done)), (by first | rfl | (simp; done) | (simp [*]; done)), H', ⟨by have := HJ2.out; have := HK2.out; omega⟩, ⟨by repeat (first | (with_reducible first | exact HB.out | apply below_alloc | apply pw_below_drewN | apply below_drew1) | exact HB.out)⟩⟩
            · rw [if_neg c7] at H
              exact absurd H (by simp)
          · rw [if_neg c6] at H
            have c6b0 : decide (0 < x5_2) = false := decide_eq_false c6
            clear c6
            by_cases c11 : x6_2.toList = ([] : List UInt8)
            · rw [if_pos c11] at H
              have c11b0 : (x6_2.toList == ([] : List UInt8)) = true := beq_iff_eq.mpr c11
              have c11b1 : (x6_2.toList != ([] : List UInt8)) = false := bne_eq_false_iff_eq.mpr c11
              clear c11
              obtain ⟨y235, hy235⟩ : ∃ y_ : List Int, y_ = (([(wrap64 (48 + (Int.tmod x5_2 10))) % 256] : List Int)) := ⟨_, rfl⟩
              replace H : (if (strOfNums y235).size + x6_2.size ≤ 9223372036854775807 then (arboristlaw05_ScanNumbers.l0 k2 (a0 / 2) t231 x4_2 (wrap64 (Int.tdiv x5_2 10)) ((strOfNums y235) ++ x6_2)) else (none)) = some r := by first | (rw [hy235]; with_reducible exact H) | (have H2_ := (Option.bind_some _ _).symm.trans H; rw [hy235]; with_reducible exact H2_) | (have H2_ := (Option.bind_some _ _).symm.trans H; with_reducible exact H2_) | with_reducible exact H | (rw [hy235]; exact H) | exact H
              have Ny235 := Aside0.mk hy235
              clear hy235
              by_cases c12 : (strOfNums y235).size + x6_2.size ≤ 9223372036854775807
              · rw [if_pos c12] at H
                have c12b0 := eq_true c12
                have c12b1 : decide ((strOfNums y235).size + x6_2.size ≤ 9223372036854775807) = true := decide_eq_true c12
                try have c12b2 : (9223372036854775807 < (strOfNums y235).size + x6_2.size) = False := eq_false (Nat.not_lt.2 c12)
                have H' := Aside0.mk H
                clear H
                go_wp2_with (first | ((with_reducible refine gate_dst (N := 28) rfl ?_); (try (refine gate_guard (by rfl) ?_; dsimp only)); refine Kd.R_lit (Kd.int .u8) _ 5 ?hg (N := 28) ?hd (xs := ([(wrap64 (48 + (Int.tmod x5_2 10))) % 256] : List Int)) (inner := [.int .u8 ((wrap64 (48 + (Int.tmod x5_2 10))) % 256)]) (ok := fun _ => True) (okp := fun _ => True) ?hr ?hp (fun _ hk => hk) trivial (Below.refl _ _) (Nat.le_refl _) (by simp) ?_; (case hd => rfl); (case hg => rfl); (case hr => first | (go_simp; done) | (go_simp; rfl)); (case hp => exact (Reps.one (show Kd.M (Kd.int .u8) _ _ _ ((wrap64 (48 + (Int.tmod x5_2 10))) % 256) [.int .u8 ((wrap64 (48 + (Int.tmod x5_2 10))) % 256)] from rfl) (Reps.none _ _))); intro v236 w13 ho14 hb hg_ hnew_; clear hg_ hnew_; (first | rw [← Ny235.out] at ho14 | (simp only [Int.reduceToNat] at ho14; rw [← Ny235.out] at ho14)); have n0_ := Aside0.mk (Kd.R_lower ho14 (below_size (by repeat (first | (with_reducible first | exact HB.out | apply below_alloc | apply pw_below_drewN | apply below_drew1) | exact HB.out)))); have n1_ := Aside0.mk (below_step (by repeat (first | (with_reducible first | exact HB.out | apply below_alloc | apply pw_below_drewN | apply below_drew1) | exact HB.out)) hb); clear HB; have HO237 := n0_; have HB := n1_; clear n0_ n1_; clear hb ho14; have hcv15 := own_string (P := Tryd.prog) Tryd.underlying35 Tryd.underlying5 Tryd.underlying9 (Kd.own_of_R HO237.out)))
                go_roundg k2
                case measure => have := HJ2.out; have := HK2.out; omega
                case rel => exact ⟨(wrap64 (Int.tdiv x5_2 10)), ((strOfNums y235) ++ x6_2), (by first | rfl | (simp; done) | (simp [*]; done)), (by first | rfl | (simp; done) | (simp [*]; done)), H', ⟨by have := HJ2.out; have := HK2.out; omega⟩, ⟨by repeat (first | (with_reducible first | exact HB.out | apply below_alloc | apply pw_below_drewN | apply below_drew1) | exact HB.out)⟩⟩
              · rw [if_neg c12] at H
                exact absurd H (by simp)
            · rw [if_neg c11] at H
              have c11b0 : (x6_2.toList == ([] : List UInt8)) = false := beq_eq_false_iff_ne.mpr c11
              have c11b1 : (x6_2.toList != ([] : List UInt8)) = true := bne_iff_ne.mpr c11
              by_cases c16 : x4_2.size + x6_2.size ≤ 9223372036854775807
              · rw [if_pos c16] at H
                have c16b0 := eq_true c16
                have c16b1 : decide (x4_2.size + x6_2.size ≤ 9223372036854775807) = true := decide_eq_true c16
                try have c16b2 : (9223372036854775807 < x4_2.size + x6_2.size) = False := eq_false (Nat.not_lt.2 c16)
                replace H := Option.bind_eq_some_iff.mp H
                obtain ⟨⟨t238, t239, t240⟩, A170, H⟩ := H
                replace H : (if (a0 / 2) > 1000000000000 then (if t231 = true then (if t240 = 4 then (if t239 = 3 then (some ((t238.length : Int) == 0)) else (some false)) else (some false)) else (some false)) else (if (a0 / 2) < (-1000000000000) then (if t231 = true then (if t240 = 4 then (if t239 = 3 then (some ((t238.length : Int) == 0)) else (some false)) else (some false)) else (some false)) else (if t231 = true then (if t240 = 0 then (if (t238.length : Int) = 3 then (if 1 < (t238.length : Int) then (if ((rd_T32 t238 1).f2) = (a0 / 2) then (if ((rd_T32 t238 1).f3) = 3 then (if 2 < (t238.length : Int) then (some (((rd_T32 t238 2).f3) == ((x4_2 ++ x6_2).size : Int))) else (none)) else (some false)) else (some false)) else (none)) else (some false)) else (some false)) else (some false)))) = some r := H
                have A17 := Aside0.mk A170
                clear A170
                by_cases c18 : (a0 / 2) > 1000000000000
                · rw [if_pos c18] at H
                  have c18b0 : decide (1000000000000 < (a0 / 2)) = true := decide_eq_true c18
                  clear c18
                  by_cases c19 : t231 = true
                  · subst c19
                    have H1 : (if t240 = 4 then (if t239 = 3 then (some ((t238.length : Int) == 0)) else (some false)) else (some false)) = some r := by rw [if_pos rfl] at H; exact H
                    clear H
                    have H := H1
                    clear H1
                    by_cases c20 : t240 = 4
                    · rw [if_pos c20] at H
                      have c20b0 : (t240 == 4) = true := beq_iff_eq.mpr c20
                      have c20b1 : (t240 != 4) = false := bne_eq_false_iff_eq.mpr c20
                      clear c20
                      by_cases c21 : t239 = 3
                      · rw [if_pos c21] at H
                        have c21b0 : (t239 == 3) = true := beq_iff_eq.mpr c21
                        have c21b1 : (t239 != 3) = false := bne_eq_false_iff_eq.mpr c21
                        clear c21
                        obtain rfl := Option.some.inj H
                        go_wp2_with (first | ((with_reducible refine gate_callee (f := 11) rfl ?_); refine goesL_ (some 38) rfl rfl Tryd.func11 (by kernel_rfl) rfl #[.string (x4_2 ++ x6_2)] rfl (by (try simp only [List.map_toArray, List.map_cons, List.map_nil]); first | done | rfl | (simp only [List.length_drop, List.length_take]; rfl)) ?_; (with_reducible refine (scan_All.calls (hTb := (by first | exact HTAB.out | exact tab_drewN HTAB.out _ | exact tab_below HTAB.out (by repeat (first | (with_reducible first | exact HB.out | apply below_alloc | apply pw_below_drewN | apply below_drew1) | exact HB.out)))) (x4_2 ++ x6_2) t238 t239 t240 _ A17.out).mono ?_); rintro e w22 ⟨v241, rfl, ho0, hb⟩; refine ⟨_, rfl, ?_⟩; have n0_ := Aside0.mk (Kd.R_lower ho0 (below_size (by repeat (first | (with_reducible first | exact HB.out | apply below_alloc | apply pw_below_drewN | apply below_drew1) | exact HB.out)))); have n1_ := Aside0.mk (below_step (by repeat (first | (with_reducible first | exact HB.out | apply below_alloc | apply pw_below_drewN | apply below_drew1) | exact HB.out)) hb); clear HB; have HO242 := n0_; have HB := n1_; clear n0_ n1_; (try clear hb); (try clear hb2); (try clear hk); (try clear hi); (try clear ho0); obtain ⟨Ao23, co23, eo23⟩ := Kd.R_slice HO242.out; subst eo23))
                        go_ret
                        exact ⟨by first | rfl | (simp [errW_none, errW_some] <;> rfl) | (simp [*, errW_none, errW_some] <;> rfl), by repeat (first | (with_reducible first | exact HB.out | apply below_alloc | apply pw_below_drewN | apply below_drew1) | exact HB.out)⟩
                      · rw [if_neg c21] at H
                        have c21b0 : (t239 == 3) = false := beq_eq_false_iff_ne.mpr c21
                        have c21b1 : (t239 != 3) = true := bne_iff_ne.mpr c21
                        exact absurd ((Option.some.inj H).trans HT_.out) (by decide)
                    · rw [if_neg c20] at H
                      have c20b0 : (t240 == 4) = false := beq_eq_false_iff_ne.mpr c20
                      have c20b1 : (t240 != 4) = true := bne_iff_ne.mpr c20
                      exact absurd ((Option.some.inj H).trans HT_.out) (by decide)
                  · replace c19 := Bool.eq_false_iff.mpr c19
                    subst c19
                    have H1 : (some false) = some r := by rw [if_neg (show ¬ (false = true) by decide)] at H; exact H
                    clear H
                    have H := H1
                    clear H1
                    exact absurd ((Option.some.inj H).trans HT_.out) (by decide)
                · rw [if_neg c18] at H
                  have c18b0 : decide (1000000000000 < (a0 / 2)) = false := decide_eq_false c18
                  clear c18
                  by_cases c24 : (a0 / 2) < (-1000000000000)
                  · rw [if_pos c24] at H
                    have c24b0 : decide ((a0 / 2) < (-1000000000000)) = true := decide_eq_true c24
                    clear c24
                    by_cases c25 : t231 = true
                    · subst c25
                      have H1 : (if t240 = 4 then (if t239 = 3 then (some ((t238.length : Int) == 0)) else (some false)) else (some false)) = some r := by rw [if_pos rfl] at H; exact H
                      clear H
                      have H := H1
                      clear H1
                      by_cases c26 : t240 = 4
                      · rw [if_pos c26] at H
                        have c26b0 : (t240 == 4) = true := beq_iff_eq.mpr c26
                        have c26b1 : (t240 != 4) = false := bne_eq_false_iff_eq.mpr c26
                        clear c26
                        by_cases c27 : t239 = 3
                        · rw [if_pos c27] at H
                          have c27b0 : (t239 == 3) = true := beq_iff_eq.mpr c27
                          have c27b1 : (t239 != 3) = false := bne_eq_false_iff_eq.mpr c27
                          clear c27
                          obtain rfl := Option.some.inj H
                          go_wp2_with (first | ((with_reducible refine gate_callee (f := 11) rfl ?_); refine goesL_ (some 38) rfl rfl Tryd.func11 (by kernel_rfl) rfl #[.string (x4_2 ++ x6_2)] rfl (by (try simp only [List.map_toArray, List.map_cons, List.map_nil]); first | done | rfl | (simp only [List.length_drop, List.length_take]; rfl)) ?_; (with_reducible refine (scan_All.calls (hTb := (by first | exact HTAB.out | exact tab_drewN HTAB.out _ | exact tab_below HTAB.out (by repeat (first | (with_reducible first | exact HB.out | apply below_alloc | apply pw_below_drewN | apply below_drew1) | exact HB.out)))) (x4_2 ++ x6_2) t238 t239 t240 _ A17.out).mono ?_); rintro e w28 ⟨v241, rfl, ho0, hb⟩; refine ⟨_, rfl, ?_⟩; have n0_ := Aside0.mk (Kd.R_lower ho0 (below_size (by repeat (first | (with_reducible first | exact HB.out | apply below_alloc | apply pw_below_drewN | apply below_drew1) | exact HB.out)))); have n1_ := Aside0.mk (below_step (by repeat (first | (with_reducible first | exact HB.out | apply below_alloc | apply pw_below_drewN | apply below_drew1) | exact HB.out)) hb); clear HB; have HO242 := n0_; have HB := n1_; clear n0_ n1_; (try clear hb); (try clear hb2); (try clear hk); (try clear hi); (try clear ho0); obtain ⟨Ao29, co29, eo29⟩ := Kd.R_slice HO242.out; subst eo29))
                          go_ret
                          exact ⟨by first | rfl | (simp [errW_none, errW_some] <;> rfl) | (simp [*, errW_none, errW_some] <;> rfl), by repeat (first | (with_reducible first | exact HB.out | apply below_alloc | apply pw_below_drewN | apply below_drew1) | exact HB.out)⟩
                        · rw [if_neg c27] at H
                          have c27b0 : (t239 == 3) = false := beq_eq_false_iff_ne.mpr c27
                          have c27b1 : (t239 != 3) = true := bne_iff_ne.mpr c27
                          exact absurd ((Option.some.inj H).trans HT_.out) (by decide)
                      · rw [if_neg c26] at H
                        have c26b0 : (t240 == 4) = false := beq_eq_false_iff_ne.mpr c26
                        have c26b1 : (t240 != 4) = true := bne_iff_ne.mpr c26
                        exact absurd ((Option.some.inj H).trans HT_.out) (by decide)
                    · replace c25 := Bool.eq_false_iff.mpr c25
                      subst c25
                      have H1 : (some false) = some r := by rw [if_neg (show ¬ (false = true) by decide)] at H; exact H
                      clear H
                      have H := H1
                      clear H1
                      exact absurd ((Option.some.inj H).trans HT_.out) (by decide)
                  · rw [if_neg c24] at H
                    have c24b0 : decide ((a0 / 2) < (-1000000000000)) = false := decide_eq_false c24
                    clear c24
                    by_cases c30 : t231 = true
                    · subst c30
                      have H1 : (if t240 = 0 then (if (t238.length : Int) = 3 then (if 1 < (t238.length : Int) then (if ((rd_T32 t238 1).f2) = (a0 / 2) then (if ((rd_T32 t238 1).f3) = 3 then (if 2 < (t238.length : Int) then (some (((rd_T32 t238 2).f3) == ((x4_2 ++ x6_2).size : Int))) else (none)) else (some false)) else (some false)) else (none)) else (some false)) else (some false)) = some r := by rw [if_pos rfl] at H; exact H
                      clear H
                      have H := H1
                      clear H1
                      by_cases c31 : t240 = 0
                      · rw [if_pos c31] at H
                        have c31b0 : (t240 == 0) = true := beq_iff_eq.mpr c31
                        have c31b1 : (t240 != 0) = false := bne_eq_false_iff_eq.mpr c31
                        clear c31
                        by_cases c32 : (t238.length : Int) = 3
                        · rw [if_pos c32] at H
                          have c32b0 : ((t238.length : Int) == 3) = true := beq_iff_eq.mpr c32
                          have c32b1 : ((t238.length : Int) != 3) = false := bne_eq_false_iff_eq.mpr c32
                          clear c32
                          by_cases c33 : 1 < (t238.length : Int)
                          · rw [if_pos c33] at H
                            have c33b0 : decide (1 < (t238.length : Int)) = true := decide_eq_true c33
                            have c33b1 : decide (1 < t238.length) = true := decide_eq_true (by omega)
                            clear c33
                            by_cases c34 : ((rd_T32 t238 1).f2) = (a0 / 2)
                            · rw [if_pos c34] at H
                              have c34b0 : (((rd_T32 t238 1).f2) == (a0 / 2)) = true := beq_iff_eq.mpr c34
                              have c34b1 : (((rd_T32 t238 1).f2) != (a0 / 2)) = false := bne_eq_false_iff_eq.mpr c34
                              clear c34
                              by_cases c35 : ((rd_T32 t238 1).f3) = 3
                              · rw [if_pos c35] at H
                                have c35b0 : (((rd_T32 t238 1).f3) == 3) = true := beq_iff_eq.mpr c35
                                have c35b1 : (((rd_T32 t238 1).f3) != 3) = false := bne_eq_false_iff_eq.mpr c35
                                clear c35
                                by_cases c36 : 2 < (t238.length : Int)
                                · rw [if_pos c36] at H
                                  have c36b0 : decide (2 < (t238.length : Int)) = true := decide_eq_true c36
                                  have c36b1 : decide (2 < t238.length) = true := decide_eq_true (by omega)
                                  clear c36
                                  obtain rfl := Option.some.inj H
                                  go_wp2_with (first | ((with_reducible refine gate_callee (f := 11) rfl ?_); refine goesL_ (some 38) rfl rfl Tryd.func11 (by kernel_rfl) rfl #[.string (x4_2 ++ x6_2)] rfl (by (try simp only [List.map_toArray, List.map_cons, List.map_nil]); first | done | rfl | (simp only [List.length_drop, List.length_take]; rfl)) ?_; (with_reducible refine (scan_All.calls (hTb := (by first | exact HTAB.out | exact tab_drewN HTAB.out _ | exact tab_below HTAB.out (by repeat (first | (with_reducible first | exact HB.out | apply below_alloc | apply pw_below_drewN | apply below_drew1) | exact HB.out)))) (x4_2 ++ x6_2) t238 t239 t240 _ A17.out).mono ?_); rintro e w37 ⟨v241, rfl, ho0, hb⟩; refine ⟨_, rfl, ?_⟩; have n0_ := Aside0.mk (Kd.R_lower ho0 (below_size (by repeat (first | (with_reducible first | exact HB.out | apply below_alloc | apply pw_below_drewN | apply below_drew1) | exact HB.out)))); have n1_ := Aside0.mk (below_step (by repeat (first | (with_reducible first | exact HB.out | apply below_alloc | apply pw_below_drewN | apply below_drew1) | exact HB.out)) hb); clear HB; have HO242 := n0_; have HB := n1_; clear n0_ n1_; (try clear hb); (try clear hb2); (try clear hk); (try clear hi); (try clear ho0); obtain ⟨Ao38, co38, eo38⟩ := Kd.R_slice HO242.out; subst eo38; have p243 : 0 ≤ (1 : Int) := (by omega); have q243 : 1 < (t238.length : Int) := of_decide_eq_true (by first | (with_reducible assumption) | assumption); obtain ⟨ad243, e243, hx243_0, hx243_1, hx243_2, hx243_3⟩ := at_T32 (Kd.R_reads' HO242.out).2.2 1 p243 q243; cases e243; (try simp only [show (1 : Int).toNat = 1 from rfl, Nat.reduceMul, Nat.reduceEqDiff, Go.Addr.add, ↓reduceIte] at hx243_0); (try simp only [show (1 : Int).toNat = 1 from rfl, Nat.reduceMul, Nat.reduceEqDiff, Go.Addr.add, ↓reduceIte] at hx243_1); (try simp only [show (1 : Int).toNat = 1 from rfl, Nat.reduceMul, Nat.reduceEqDiff, Go.Addr.add, ↓reduceIte] at hx243_2); (try simp only [show (1 : Int).toNat = 1 from rfl, Nat.reduceMul, Nat.reduceEqDiff, Go.Addr.add, ↓reduceIte] at hx243_3); have qi243 : (1 < t238.length) = True := eq_true (by omega); (try rw [show ((1 : Int)).toNat = 1 from rfl] at hx243_0); (try rw [show 1 * 4 = 4 from rfl] at hx243_0); (try rw [show ((1 : Int)).toNat = 1 from rfl] at hx243_1); (try rw [show 1 * 4 = 4 from rfl] at hx243_1); (try rw [show ((1 : Int)).toNat = 1 from rfl] at hx243_2); (try rw [show 1 * 4 = 4 from rfl] at hx243_2); (try rw [show ((1 : Int)).toNat = 1 from rfl] at hx243_3); (try rw [show 1 * 4 = 4 from rfl] at hx243_3); replace p243 := eq_true p243; replace q243 := eq_true q243; have p244 : 0 ≤ (1 : Int) := (by omega); have q244 : 1 < (t238.length : Int) := of_decide_eq_true (by first | (with_reducible assumption) | assumption); obtain ⟨ad244, e244, hx244_0, hx244_1, hx244_2, hx244_3⟩ := at_T32 (Kd.R_reads' HO242.out).2.2 1 p244 q244; obtain rfl : ad243 = ad244 := (by injection e244); (try simp only [show (1 : Int).toNat = 1 from rfl, Nat.reduceMul, Nat.reduceEqDiff, Go.Addr.add, ↓reduceIte] at hx244_0); (try simp only [show (1 : Int).toNat = 1 from rfl, Nat.reduceMul, Nat.reduceEqDiff, Go.Addr.add, ↓reduceIte] at hx244_1); (try simp only [show (1 : Int).toNat = 1 from rfl, Nat.reduceMul, Nat.reduceEqDiff, Go.Addr.add, ↓reduceIte] at hx244_2); (try simp only [show (1 : Int).toNat = 1 from rfl, Nat.reduceMul, Nat.reduceEqDiff, Go.Addr.add, ↓reduceIte] at hx244_3); have qi244 : (1 < t238.length) = True := eq_true (by omega); (try rw [show ((1 : Int)).toNat = 1 from rfl] at hx244_0); (try rw [show 1 * 4 = 4 from rfl] at hx244_0); (try rw [show ((1 : Int)).toNat = 1 from rfl] at hx244_1); (try rw [show 1 * 4 = 4 from rfl] at hx244_1); (try rw [show ((1 : Int)).toNat = 1 from rfl] at hx244_2); (try rw [show 1 * 4 = 4 from rfl] at hx244_2); (try rw [show ((1 : Int)).toNat = 1 from rfl] at hx244_3); (try rw [show 1 * 4 = 4 from rfl] at hx244_3); replace p244 := eq_true p244; replace q244 := eq_true q244; have p245 : 0 ≤ (2 : Int) := (by omega); have q245 : 2 < (t238.length : Int) := of_decide_eq_true (by first | (with_reducible assumption) | assumption); obtain ⟨ad245, e245, hx245_0, hx245_1, hx245_2, hx245_3⟩ := at_T32 (Kd.R_reads' HO242.out).2.2 2 p245 q245; obtain rfl : ad243 = ad245 := (by injection e245); (try simp only [show (2 : Int).toNat = 2 from rfl, Nat.reduceMul, Nat.reduceEqDiff, Go.Addr.add, ↓reduceIte] at hx245_0); (try simp only [show (2 : Int).toNat = 2 from rfl, Nat.reduceMul, Nat.reduceEqDiff, Go.Addr.add, ↓reduceIte] at hx245_1); (try simp only [show (2 : Int).toNat = 2 from rfl, Nat.reduceMul, Nat.reduceEqDiff, Go.Addr.add, ↓reduceIte] at hx245_2); (try simp only [show (2 : Int).toNat = 2 from rfl, Nat.reduceMul, Nat.reduceEqDiff, Go.Addr.add, ↓reduceIte] at hx245_3); have qi245 : (2 < t238.length) = True := eq_true (by omega); (try rw [show ((2 : Int)).toNat = 2 from rfl] at hx245_0); (try rw [show 2 * 4 = 8 from rfl] at hx245_0); (try rw [show ((2 : Int)).toNat = 2 from rfl] at hx245_1); (try rw [show 2 * 4 = 8 from rfl] at hx245_1); (try rw [show ((2 : Int)).toNat = 2 from rfl] at hx245_2); (try rw [show 2 * 4 = 8 from rfl] at hx245_2); (try rw [show ((2 : Int)).toNat = 2 from rfl] at hx245_3); (try rw [show 2 * 4 = 8 from rfl] at hx245_3); replace p245 := eq_true p245; replace q245 := eq_true q245))
                                  go_ret
                                  exact ⟨by first | rfl | (simp [errW_none, errW_some] <;> rfl) | (simp [*, errW_none, errW_some] <;> rfl), by repeat (first | (with_reducible first | exact HB.out | apply below_alloc | apply pw_below_drewN | apply below_drew1) | exact HB.out)⟩
                                · rw [if_neg c36] at H
                                  exact absurd H (by simp)
                              · rw [if_neg c35] at H
                                have c35b0 : (((rd_T32 t238 1).f3) == 3) = false := beq_eq_false_iff_ne.mpr c35
                                have c35b1 : (((rd_T32 t238 1).f3) != 3) = true := bne_iff_ne.mpr c35
                                exact absurd ((Option.some.inj H).trans HT_.out) (by decide)
                            · rw [if_neg c34] at H
                              have c34b0 : (((rd_T32 t238 1).f2) == (a0 / 2)) = false := beq_eq_false_iff_ne.mpr c34
                              have c34b1 : (((rd_T32 t238 1).f2) != (a0 / 2)) = true := bne_iff_ne.mpr c34
                              exact absurd ((Option.some.inj H).trans HT_.out) (by decide)
                          · rw [if_neg c33] at H
                            exact absurd H (by simp)
                        · rw [if_neg c32] at H
                          have c32b0 : ((t238.length : Int) == 3) = false := beq_eq_false_iff_ne.mpr c32
                          have c32b1 : ((t238.length : Int) != 3) = true := bne_iff_ne.mpr c32
                          exact absurd ((Option.some.inj H).trans HT_.out) (by decide)
                      · rw [if_neg c31] at H
                        have c31b0 : (t240 == 0) = false := beq_eq_false_iff_ne.mpr c31
                        have c31b1 : (t240 != 0) = true := bne_iff_ne.mpr c31
                        exact absurd ((Option.some.inj H).trans HT_.out) (by decide)
                    · replace c30 := Bool.eq_false_iff.mpr c30
                      subst c30
                      have H1 : (some false) = some r := by rw [if_neg (show ¬ (false = true) by decide)] at H; exact H
                      clear H
                      have H := H1
                      clear H1
                      exact absurd ((Option.some.inj H).trans HT_.out) (by decide)
              · rw [if_neg c16] at H
                exact absurd H (by simp)

/-- THE ONE PURE STATEMENT of arboristlaw05_ScanNumbers. -/
def arboristlaw05_ScanNumbers.Pure : Prop := ∀ (a0 : Int), (Lit.int .i64 a0).wf = true → ∃ k, arboristlaw05_ScanNumbers.f k a0 = some true

end Go.Proofs.YtfgabdfnbkmaeaaDoor.Pr
