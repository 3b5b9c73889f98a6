-- Printed by a program of this session's own (wip/tools/pp.py) over the kit's print.py; Lean checks it.
import Derived.Test.YtfgabdfnbkmaeaaDoorPr0
import Derived.Test.YtfgabdfnbkmaeaaDoorPr11
import Derived.Test.YtfgabdfnbkmaeaaDoorPr12
namespace Go.Proofs.YtfgabdfnbkmaeaaDoor.Pr
open Go.RowKit Go.Proofs.YtfgabdfnbkmaeaaDoorW.PrintWords Go.Proofs.YtfgabdfnbkmaeaaDoorW.PrintLast Go.Proofs.YtfgabdfnbkmaeaaDoorW.PrintMore
attribute [local go_sem] max2_int min2_int max_two min_two max_three min_three max_four min_four   -- for this text's walks alone
set_option linter.unusedVariables false
set_option linter.unusedSimpArgs false

/-! ### arboristlaw05_ScanLong: function 7 -/
def arboristlaw05_ScanLong.l0 : Nat → Int → Bool → List Int → Int → Option (Bool)
  | 0, _, _, _, _ => none
  | k + 1, x0, x3, x4, x5 => if x5 < x0 then (if 0 ≤ x5 then (if x5 < (x4.length : Int) then (arboristlaw05_ScanLong.l0 k x0 x3 (x4.set (x5 : Int).toNat 32) (wrap64 (x5 + 1))) else (none)) else (none)) else ((scan_All.f (strOfNums x4)).bind fun bt251 => (if x0 > 100000 then (if x3 = true then (if bt251.2.2 = 7 then (if bt251.2.1 = 0 then (some ((bt251.1.length : Int) == 0)) else (some false)) else (some false)) else (some false)) else (if x3 = true then (if bt251.2.2 = 0 then (if (bt251.1.length : Int) = 1 then (if 0 < (bt251.1.length : Int) then (some (((rd_T32 bt251.1 0).f3) == x0)) else (none)) else (some false)) else (some false)) else (some false))))
def arboristlaw05_ScanLong.f (k : Nat) (a0 : Int) : Option (Bool) := (arboristlaw05_shown.f).bind fun t246 => (if 0 ≤ (wrap64 (99990 + (Int.tmod (Go.bits .and .i64 a0 65535) 21))) then (if (wrap64 (99990 + (Int.tmod (Go.bits .and .i64 a0 65535) 21)) : Int).toNat ≤ 281474976710656 then (arboristlaw05_ScanLong.l0 k (wrap64 (99990 + (Int.tmod (Go.bits .and .i64 a0 65535) 21))) t246 (List.replicate (wrap64 (99990 + (Int.tmod (Go.bits .and .i64 a0 65535) 21)) : Int).toNat 0) 0) else (none)) else (none))
theorem arboristlaw05_ScanLong.mono_l : ∀ k, (∀ y0 y1 y2 y3, LeO (arboristlaw05_ScanLong.l0 k y0 y1 y2 y3) (arboristlaw05_ScanLong.l0 (k + 1) y0 y1 y2 y3))
  | 0 => fun _ _ _ _ r h => by simp [arboristlaw05_ScanLong.l0] at h
  | k + 1 => by
    have ih0 := arboristlaw05_ScanLong.mono_l k
    all_goals intros
    all_goals (first | unfold arboristlaw05_ScanLong.l0)
    all_goals repeat' first
    | (with_reducible exact ih0 _ _ _ _)
    | (with_reducible exact LeO.refl _)
    | (with_reducible exact LeO.none _)
    | (with_reducible refine LeO.ite ?_ ?_)
    | (with_reducible refine LeO.bind ?_ (fun _ => ?_))
    | exact ih0 _ _ _ _
    | exact LeO.none _
    | refine LeO.ite ?_ ?_
    | refine LeO.bind ?_ (fun _ => ?_)
theorem arboristlaw05_ScanLong.mono : ∀ a0 k, LeO (arboristlaw05_ScanLong.f k a0) (arboristlaw05_ScanLong.f (k + 1) a0) := by
  intro a0 k
  have ih0 := arboristlaw05_ScanLong.mono_l k
  unfold arboristlaw05_ScanLong.f
  repeat' first
      | (with_reducible exact ih0 _ _ _ _)
      | (with_reducible exact LeO.refl _)
      | (with_reducible exact LeO.none _)
      | (with_reducible refine LeO.ite ?_ ?_)
      | (with_reducible refine LeO.bind ?_ (fun _ => ?_))
      | exact ih0 _ _ _ _
      | exact LeO.none _
      | refine LeO.ite ?_ ?_
      | refine LeO.bind ?_ (fun _ => ?_)
set_option maxHeartbeats 8000000 in
set_option maxRecDepth 100000 in
theorem arboristlaw05_ScanLong.calls (k : Nat) (a0 : Int) (r : Bool) (w : World) (hTb : Tab64 w) (hT : r = true) (h : arboristlaw05_ScanLong.f k a0 = some r) :
    Calls Tryd.prog 7 #[.int .i64 a0] w fun e w' => e = .returned (.bool r) ∧ Below w.heap.size w w' := by
  have HTAB := Aside0.mk hTb
  clear hTb
  have HT_ := Aside0.mk (show r = true from hT)
  clear hT
  have HB := Aside0.mk (Below.refl w.heap.size w)
  have H : ((arboristlaw05_shown.f).bind fun t246 => (if 0 ≤ (wrap64 (99990 + (Int.tmod (Go.bits .and .i64 a0 65535) 21))) then (if (wrap64 (99990 + (Int.tmod (Go.bits .and .i64 a0 65535) 21)) : Int).toNat ≤ 281474976710656 then (arboristlaw05_ScanLong.l0 k (wrap64 (99990 + (Int.tmod (Go.bits .and .i64 a0 65535) 21))) t246 (List.replicate (wrap64 (99990 + (Int.tmod (Go.bits .and .i64 a0 65535) 21)) : Int).toNat 0) 0) else (none)) else (none))) = some r := h
  clear h
  replace H := Option.bind_eq_some_iff.mp H
  obtain ⟨t246, A20, H⟩ := H
  replace H : (if 0 ≤ (wrap64 (99990 + (Int.tmod (Go.bits .and .i64 a0 65535) 21))) then (if (wrap64 (99990 + (Int.tmod (Go.bits .and .i64 a0 65535) 21)) : Int).toNat ≤ 281474976710656 then (arboristlaw05_ScanLong.l0 k (wrap64 (99990 + (Int.tmod (Go.bits .and .i64 a0 65535) 21))) t246 (List.replicate (wrap64 (99990 + (Int.tmod (Go.bits .and .i64 a0 65535) 21)) : Int).toNat 0) 0) else (none)) else (none)) = some r := H
  have A2 := Aside0.mk A20
  clear A20
  obtain ⟨ji3, hji3⟩ : ∃ j_ : Int, (wrap64 (99990 + (Int.tmod (Go.bits .and .i64 a0 65535) 21))) = j_ := ⟨_, rfl⟩
  replace H : (if 0 ≤ (ji3) then (if (ji3 : Int).toNat ≤ 281474976710656 then (arboristlaw05_ScanLong.l0 k ji3 t246 (List.replicate (ji3 : Int).toNat 0) 0) else (none)) else (none)) = some r := by first | (rw [hji3] at H; exact H) | (simp only [hji3] at H ⊢; exact H)
  (try rw [hji3] at A2)
  have hji3w : (IntKind.i64.wrap (99990 + (Int.tmod (Go.bits .and .i64 a0 65535) 21))) = ji3 := (i64_w _).trans hji3
  by_cases c4 : 0 ≤ (ji3)
  · rw [if_pos c4] at H
    have c4b0 := eq_true c4
    have c4b1 : decide (0 ≤ (ji3)) = true := decide_eq_true c4
    clear c4
    by_cases c5 : (ji3 : Int).toNat ≤ 281474976710656
    · rw [if_pos c5] at H
      have c5b0 := eq_true c5
      have c5b1 : decide ((ji3 : Int).toNat ≤ 281474976710656) = true := decide_eq_true c5
      clear c5
      obtain ⟨y247, hy247⟩ : ∃ y_ : List Int, y_ = (List.replicate (ji3 : Int).toNat 0) := ⟨_, rfl⟩
      replace H : (arboristlaw05_ScanLong.l0 k ji3 t246 y247 0) = some r := by first | (rw [hy247]; with_reducible exact H) | (have H2_ := (Option.bind_some _ _).symm.trans H; rw [hy247]; with_reducible exact H2_) | (have H2_ := (Option.bind_some _ _).symm.trans H; with_reducible exact H2_) | with_reducible exact H | (rw [hy247]; exact H) | exact H
      have Ny247 := Aside0.mk hy247
      clear hy247
      have H' := Aside0.mk H
      clear H
      go_enter Tryd.func7, Tryd.ntmps7
      go_wp2_with (first | ((with_reducible refine gate_callee (f := 10) rfl ?_); refine goesL_ (some 9) rfl rfl Tryd.func10 (by kernel_rfl) rfl #[] rfl (by (try simp only [List.map_toArray, List.map_cons, List.map_nil]); first | done | rfl | (simp only [List.length_drop, List.length_take]; rfl)) ?_; (with_reducible refine (arboristlaw05_shown.calls (hTb := (by first | exact HTAB.out | exact tab_drewN HTAB.out _ | exact tab_below HTAB.out (by repeat (first | (with_reducible first | exact HB.out | apply below_alloc | apply pw_below_drewN | apply below_drew1) | exact HB.out))))  t246 _ A2.out).mono ?_); rintro e w6 ⟨rfl, hb⟩; refine ⟨_, rfl, ?_⟩; have n0_ := Aside0.mk (below_step (by repeat (first | (with_reducible first | exact HB.out | apply below_alloc | apply pw_below_drewN | apply below_drew1) | exact HB.out)) hb); clear HB; have HB := n0_; clear n0_; (try clear hb); (try clear hb2); (try clear hk); (try clear hi)) | ((with_reducible refine gate_dst (N := 15) rfl ?_); (try (refine gate_guard (by rfl) ?_; dsimp only)); refine Kd.R_make (Kd.int .u8) _ 5 rfl (N := 15) rfl 35 _ _ rfl ji3 rfl rfl Tryd.underlying35 (.int .u8 0) 1 info5 rfl (by decide) (by omega) 0 (ok := fun _ => True) (okp := fun _ => True) rfl (fun _ hk => hk) trivial (of_decide_eq_true (by first | (with_reducible assumption) | assumption)) (Nat.le_trans (Nat.mul_le_mul_right _ (of_decide_eq_true (by first | (with_reducible assumption) | assumption) : ji3.toNat ≤ 281474976710656)) (by omega)) (Below.refl _ _) (Nat.le_refl _) ?_; intro v248 w7 ho8 hb hg_ hnew_; clear hg_ hnew_; (first | rw [← Ny247.out] at ho8 | (simp only [Int.reduceToNat] at ho8; rw [← Ny247.out] at ho8)); have n0_ := Aside0.mk (Kd.R_lower ho8 (below_size (by repeat (first | (with_reducible first | exact HB.out | apply below_alloc | apply pw_below_drewN | apply below_drew1) | exact HB.out)))); have n1_ := Aside0.mk (below_step (by repeat (first | (with_reducible first | exact HB.out | apply below_alloc | apply pw_below_drewN | apply below_drew1) | exact HB.out)) hb); clear HB; have HO249 := n0_; have HB := n1_; clear n0_ n1_; clear hb ho8))
      go_loopg [5] k (fun kq v5 w' => ∃ (x4_1 : List Int) (x5_1 : Int), v5 = .int .i64 x5_1 ∧ Aside0 (arboristlaw05_ScanLong.l0 kq ji3 t246 x4_1 x5_1 = some r) ∧ Aside0 (kq ≤ k) ∧ Aside0 (Kd.R (Kd.int .u8) 5 w' w.heap.size (fun _ => True) v248 x4_1) ∧ Aside0 (Below w.heap.size w w'))
      case atStart => exact ⟨(y247), (0), (by first | rfl | (simp; done) | (simp [*]; done)), H', ⟨Nat.le_refl _⟩, ⟨by (with_reducible repeat (first | apply Kd.R_alloc | apply Kd.R_drewN | apply Kd.R_drew)); exact HO249.out⟩, ⟨by repeat (first | (with_reducible first | exact HB.out | apply below_alloc | apply pw_below_drewN | apply below_drew1) | exact HB.out)⟩⟩
      case round =>
        clear H'
        try clear c1
        try clear p2
        try clear c4
        try clear c4b0
        try clear c4b1
        try clear c5
        try clear c5b0
        try clear c5b1
        try clear p6
        try clear c7
        obtain ⟨x4_1, x5_1, rfl, HA, HK1, HO_4, HB⟩ := hrel
        cases gk with
        | zero => exact absurd HA.out (by simp [arboristlaw05_ScanLong.l0])
        | succ k1 =>
          have H := HA.out
          clear HA
          simp only [arboristlaw05_ScanLong.l0] at H
          by_cases c9 : x5_1 < ji3
          · rw [if_pos c9] at H
            have c9b0 : decide (x5_1 < ji3) = true := decide_eq_true c9
            clear c9
            by_cases c10 : 0 ≤ x5_1
            · rw [if_pos c10] at H
              have c10b0 : decide (0 ≤ x5_1) = true := decide_eq_true c10
              clear c10
              by_cases c11 : x5_1 < (x4_1.length : Int)
              · rw [if_pos c11] at H
                have c11b0 : decide (x5_1 < (x4_1.length : Int)) = true := decide_eq_true c11
                clear c11
                obtain ⟨y250, hy250⟩ : ∃ y_ : List Int, y_ = (x4_1.set (x5_1 : Int).toNat 32) := ⟨_, rfl⟩
                replace H : (arboristlaw05_ScanLong.l0 k1 ji3 t246 y250 (wrap64 (x5_1 + 1))) = some r := by first | (rw [hy250]; with_reducible exact H) | (have H2_ := (Option.bind_some _ _).symm.trans H; rw [hy250]; with_reducible exact H2_) | (have H2_ := (Option.bind_some _ _).symm.trans H; with_reducible exact H2_) | with_reducible exact H | (rw [hy250]; exact H) | exact H
                have Ny250 := Aside0.mk hy250
                clear hy250
                have H' := Aside0.mk H
                clear H
                have p12 : 0 ≤ (x5_1 : Int) := of_decide_eq_true (by first | (with_reducible assumption) | assumption)
                have q12 : (x5_1 : Int) < ((x4_1.length : Int) : Int) := of_decide_eq_true (by first | (with_reducible assumption) | assumption)
                obtain ⟨go12, co12, eo12, gb12, gl12, cl12, HG12⟩ := Kd.R_form HO_4.out (by omega)
                (first | cases eo12 | (injection eo12 with ea_ en_ ec_; (first | subst ea_ | (injection ea_ with ea_; subst ea_)); subst ec_; clear en_))
                have GB12 := Aside0.mk gb12
                have GG12 := Aside0.mk HG12
                clear gb12 gl12 HG12
                obtain ⟨hx12_0, hf12_0⟩ := Kd.R_celln 0 HO_4.out (x5_1 : Int) p12 q12
                replace p12 := eq_true p12
                replace q12 := eq_true q12
                have HP13 := Kd.R_putg HO_4.out (x5_1 : Int) 32
                go_wp2_with (first | ((with_reducible refine gate_store (t := 5) (p := 23) rfl ?_); refine store_event (t := 5) (p := 23) (v := ?vo_w14) (w1 := (wr.setCell ⟨go12, (x5_1 : Int).toNat, none⟩ (.int .u8 32))) ?hg ?ho ?hn ?hr ?_; (case ho => rfl); (case hg => rfl); (case hn => rfl); (case hr => first | (go_simp; done) | (go_simp; rfl)); intro w14 hw; have hg : wr.grownBy w14 (some go12) := (by rw [hw]; exact HP13.2); have hp_ : Kd.R (Kd.int .u8) 5 w14 w.heap.size (fun _ => True) (.slice (some ⟨go12, 0, none⟩) x4_1.length co12) y250 := (by rw [hw, Ny250.out]; exact HP13.1); clear HP13; have n0_ := Aside0.mk (hp_); have n1_ := Aside0.mk ((by rw [hw]; exact below_set (HB.out) GB12.out : Below w.heap.size w w14)); clear HO_4; clear HB; have HO_4 := n0_; have HB := n1_; clear n0_ n1_; clear hg hw hp_))
                go_roundg k1
                case measure => have := HK1.out; omega
                case rel => exact ⟨(y250), (wrap64 (x5_1 + 1)), (by first | rfl | (simp; done) | (simp [*]; done)), H', ⟨by have := HK1.out; omega⟩, ⟨by (with_reducible repeat (first | apply Kd.R_alloc | apply Kd.R_drewN | apply Kd.R_drew)); exact HO_4.out⟩, ⟨by repeat (first | (with_reducible first | exact HB.out | apply below_alloc | apply pw_below_drewN | apply below_drew1) | exact HB.out)⟩⟩
              · rw [if_neg c11] at H
                exact absurd H (by simp)
            · rw [if_neg c10] at H
              exact absurd H (by simp)
          · rw [if_neg c9] at H
            have c9b0 : decide (x5_1 < ji3) = false := decide_eq_false c9
            clear c9
            replace H := Option.bind_eq_some_iff.mp H
            obtain ⟨⟨t251, t252, t253⟩, A150, H⟩ := H
            replace H : (if ji3 > 100000 then (if t246 = true then (if t253 = 7 then (if t252 = 0 then (some ((t251.length : Int) == 0)) else (some false)) else (some false)) else (some false)) else (if t246 = true then (if t253 = 0 then (if (t251.length : Int) = 1 then (if 0 < (t251.length : Int) then (some (((rd_T32 t251 0).f3) == ji3)) else (none)) else (some false)) else (some false)) else (some false))) = some r := H
            have A15 := Aside0.mk A150
            clear A150
            by_cases c16 : ji3 > 100000
            · rw [if_pos c16] at H
              have c16b0 : decide (100000 < ji3) = true := decide_eq_true c16
              clear c16
              by_cases c17 : t246 = true
              · subst c17
                have H1 : (if t253 = 7 then (if t252 = 0 then (some ((t251.length : Int) == 0)) else (some false)) else (some false)) = some r := by rw [if_pos rfl] at H; exact H
                clear H
                have H := H1
                clear H1
                by_cases c18 : t253 = 7
                · rw [if_pos c18] at H
                  have c18b0 : (t253 == 7) = true := beq_iff_eq.mpr c18
                  have c18b1 : (t253 != 7) = false := bne_eq_false_iff_eq.mpr c18
                  clear c18
                  by_cases c19 : t252 = 0
                  · rw [if_pos c19] at H
                    have c19b0 : (t252 == 0) = true := beq_iff_eq.mpr c19
                    have c19b1 : (t252 != 0) = false := bne_eq_false_iff_eq.mpr c19
                    clear c19
                    obtain rfl := Option.some.inj H
                    have hcv20 := own_string (P := Tryd.prog) Tryd.underlying35 Tryd.underlying5 Tryd.underlying9 (Kd.own_of_R HO_4.out)
                    go_wp2_with (first | ((with_reducible refine gate_callee (f := 11) rfl ?_); refine goesL_ (some 27) rfl rfl Tryd.func11 (by kernel_rfl) rfl #[.string (strOfNums x4_1)] rfl (by (try simp only [List.map_toArray, List.map_cons, List.map_nil]); first | done | rfl | (simp only [List.length_drop, List.length_take]; rfl)) ?_; (with_reducible refine (scan_All.calls (hTb := (by first | exact HTAB.out | exact tab_drewN HTAB.out _ | exact tab_below HTAB.out (by repeat (first | (with_reducible first | exact HB.out | apply below_alloc | apply pw_below_drewN | apply below_drew1) | exact HB.out)))) (strOfNums x4_1) t251 t252 t253 _ A15.out).mono ?_); rintro e w21 ⟨v254, rfl, ho0, hb⟩; refine ⟨_, rfl, ?_⟩; have n0_ := Aside0.mk (Kd.R_below (by (with_reducible repeat (first | apply Kd.R_alloc | apply Kd.R_drewN | apply Kd.R_drew)); exact HO_4.out) hb); have n1_ := Aside0.mk (Kd.R_lower ho0 (below_size (by repeat (first | (with_reducible first | exact HB.out | apply below_alloc | apply pw_below_drewN | apply below_drew1) | exact HB.out)))); have n2_ := Aside0.mk (below_step (by repeat (first | (with_reducible first | exact HB.out | apply below_alloc | apply pw_below_drewN | apply below_drew1) | exact HB.out)) hb); clear HO_4; clear HB; have HO_4 := n0_; have HO255 := n1_; have HB := n2_; clear n0_ n1_ n2_; (try clear hb); (try clear hb2); (try clear hk); (try clear hi); (try clear ho0); obtain ⟨Ao22, co22, eo22⟩ := Kd.R_slice HO255.out; subst eo22))
                    go_ret
                    exact ⟨by first | rfl | (simp [errW_none, errW_some] <;> rfl) | (simp only [← hji3]; first | rfl | (simp [errW_none, errW_some] <;> rfl)) | (simp [*, errW_none, errW_some] <;> rfl), by repeat (first | (with_reducible first | exact HB.out | apply below_alloc | apply pw_below_drewN | apply below_drew1) | exact HB.out)⟩
                  · rw [if_neg c19] at H
                    have c19b0 : (t252 == 0) = false := beq_eq_false_iff_ne.mpr c19
                    have c19b1 : (t252 != 0) = true := bne_iff_ne.mpr c19
                    exact absurd ((Option.some.inj H).trans HT_.out) (by decide)
                · rw [if_neg c18] at H
                  have c18b0 : (t253 == 7) = false := beq_eq_false_iff_ne.mpr c18
                  have c18b1 : (t253 != 7) = true := bne_iff_ne.mpr c18
                  exact absurd ((Option.some.inj H).trans HT_.out) (by decide)
              · replace c17 := Bool.eq_false_iff.mpr c17
                subst c17
                have H1 : (some false) = some r := by rw [if_neg (show ¬ (false = true) by decide)] at H; exact H
                clear H
                have H := H1
                clear H1
                exact absurd ((Option.some.inj H).trans HT_.out) (by decide)
            · rw [if_neg c16] at H
              have c16b0 : decide (100000 < ji3) = false := decide_eq_false c16
              clear c16
              by_cases c23 : t246 = true
              · subst c23
                have H1 : (if t253 = 0 then (if (t251.length : Int) = 1 then (if 0 < (t251.length : Int) then (some (((rd_T32 t251 0).f3) == ji3)) else (none)) else (some false)) else (some false)) = some r := by rw [if_pos rfl] at H; exact H
                clear H
                have H := H1
                clear H1
                by_cases c24 : t253 = 0
                · rw [if_pos c24] at H
                  have c24b0 : (t253 == 0) = true := beq_iff_eq.mpr c24
                  have c24b1 : (t253 != 0) = false := bne_eq_false_iff_eq.mpr c24
                  clear c24
                  by_cases c25 : (t251.length : Int) = 1
                  · rw [if_pos c25] at H
                    have c25b0 : ((t251.length : Int) == 1) = true := beq_iff_eq.mpr c25
                    have c25b1 : ((t251.length : Int) != 1) = false := bne_eq_false_iff_eq.mpr c25
                    clear c25
                    by_cases c26 : 0 < (t251.length : Int)
                    · rw [if_pos c26] at H
                      have c26b0 : decide (0 < (t251.length : Int)) = true := decide_eq_true c26
                      have c26b1 : decide (0 < t251.length) = true := decide_eq_true (by omega)
                      clear c26
                      obtain rfl := Option.some.inj H
                      have hcv27 := own_string (P := Tryd.prog) Tryd.underlying35 Tryd.underlying5 Tryd.underlying9 (Kd.own_of_R HO_4.out)
                      go_wp2_with (first | ((with_reducible refine gate_callee (f := 11) rfl ?_); refine goesL_ (some 27) rfl rfl Tryd.func11 (by kernel_rfl) rfl #[.string (strOfNums x4_1)] rfl (by (try simp only [List.map_toArray, List.map_cons, List.map_nil]); first | done | rfl | (simp only [List.length_drop, List.length_take]; rfl)) ?_; (with_reducible refine (scan_All.calls (hTb := (by first | exact HTAB.out | exact tab_drewN HTAB.out _ | exact tab_below HTAB.out (by repeat (first | (with_reducible first | exact HB.out | apply below_alloc | apply pw_below_drewN | apply below_drew1) | exact HB.out)))) (strOfNums x4_1) t251 t252 t253 _ A15.out).mono ?_); rintro e w28 ⟨v254, rfl, ho0, hb⟩; refine ⟨_, rfl, ?_⟩; have n0_ := Aside0.mk (Kd.R_below (by (with_reducible repeat (first | apply Kd.R_alloc | apply Kd.R_drewN | apply Kd.R_drew)); exact HO_4.out) hb); have n1_ := Aside0.mk (Kd.R_lower ho0 (below_size (by repeat (first | (with_reducible first | exact HB.out | apply below_alloc | apply pw_below_drewN | apply below_drew1) | exact HB.out)))); have n2_ := Aside0.mk (below_step (by repeat (first | (with_reducible first | exact HB.out | apply below_alloc | apply pw_below_drewN | apply below_drew1) | exact HB.out)) hb); clear HO_4; clear HB; have HO_4 := n0_; have HO255 := n1_; have HB := n2_; clear n0_ n1_ n2_; (try clear hb); (try clear hb2); (try clear hk); (try clear hi); (try clear ho0); obtain ⟨Ao29, co29, eo29⟩ := Kd.R_slice HO255.out; subst eo29; have p256 : 0 ≤ (0 : Int) := (by omega); have q256 : 0 < (t251.length : Int) := of_decide_eq_true (by first | (with_reducible assumption) | assumption); obtain ⟨ad256, e256, hx256_0, hx256_1, hx256_2, hx256_3⟩ := at_T32 (Kd.R_reads' HO255.out).2.2 0 p256 q256; cases e256; have qi256 : (0 < t251.length) = True := eq_true (by omega); (try rw [show ((0 : Int)).toNat = 0 from rfl] at hx256_0); (try rw [show 0 * 4 = 0 from rfl] at hx256_0); (try rw [Addr.add_zero'] at hx256_0); (try rw [show ((0 : Int)).toNat = 0 from rfl] at hx256_1); (try rw [show 0 * 4 = 0 from rfl] at hx256_1); (try rw [Addr.add_zero'] at hx256_1); (try rw [show ((0 : Int)).toNat = 0 from rfl] at hx256_2); (try rw [show 0 * 4 = 0 from rfl] at hx256_2); (try rw [Addr.add_zero'] at hx256_2); (try rw [show ((0 : Int)).toNat = 0 from rfl] at hx256_3); (try rw [show 0 * 4 = 0 from rfl] at hx256_3); (try rw [Addr.add_zero'] at hx256_3); replace p256 := eq_true p256; replace q256 := eq_true q256))
                      go_ret
                      exact ⟨by first | rfl | (simp [errW_none, errW_some] <;> rfl) | (simp only [← hji3]; first | rfl | (simp [errW_none, errW_some] <;> rfl)) | (simp [*, errW_none, errW_some] <;> rfl), by repeat (first | (with_reducible first | exact HB.out | apply below_alloc | apply pw_below_drewN | apply below_drew1) | exact HB.out)⟩
                    · rw [if_neg c26] at H
                      exact absurd H (by simp)
                  · rw [if_neg c25] at H
                    have c25b0 : ((t251.length : Int) == 1) = false := beq_eq_false_iff_ne.mpr c25
                    have c25b1 : ((t251.length : Int) != 1) = true := bne_iff_ne.mpr c25
                    exact absurd ((Option.some.inj H).trans HT_.out) (by decide)
                · rw [if_neg c24] at H
                  have c24b0 : (t253 == 0) = false := beq_eq_false_iff_ne.mpr c24
                  have c24b1 : (t253 != 0) = true := bne_iff_ne.mpr c24
                  exact absurd ((Option.some.inj H).trans HT_.out) (by decide)
              · replace c23 := Bool.eq_false_iff.mpr c23
                subst c23
                have H1 : (some false) = some r := by rw [if_neg (show ¬ (false = true) by decide)] at H; exact H
                clear H
                have H := H1
                clear H1
                exact absurd ((Option.some.inj H).trans HT_.out) (by decide)
    · rw [if_neg c5] at H
      exact absurd H (by simp)
  · rw [if_neg c4] at H
    exact absurd H (by simp)

/-- THE ONE PURE STATEMENT of arboristlaw05_ScanLong. -/
def arboristlaw05_ScanLong.Pure : Prop := ∀ (a0 : Int), (Lit.int .i64 a0).wf = true → ∃ k, arboristlaw05_ScanLong.f k a0 = some true

end Go.Proofs.YtfgabdfnbkmaeaaDoor.Pr
