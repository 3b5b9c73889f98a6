-- Printed by a program of this session's own (wip/tools/pp.py) over the kit's print.py; Lean checks it.
import Derived.Test.YtfgabdfnbkmaeaaDoorPr0
import Derived.Test.YtfgabdfnbkmaeaaDoorPr11
namespace Go.Proofs.YtfgabdfnbkmaeaaDoor.Pr
open Go.RowKit Go.Proofs.YtfgabdfnbkmaeaaDoorW.PrintWords Go.Proofs.YtfgabdfnbkmaeaaDoorW.PrintLast Go.Proofs.YtfgabdfnbkmaeaaDoorW.PrintMore
attribute [local go_sem] max2_int min2_int max_two min_two max_three min_three max_four min_four   -- for this text's walks alone
set_option linter.unusedVariables false
set_option linter.unusedSimpArgs false

/-! ### arboristlaw05_shown: function 10 -/
def arboristlaw05_shown.f  : Option (Bool) := (scan_All.f (⟨#[118, 97, 114, 32, 48, 59, 32, 35, 32, 110, 111, 116, 101, 10, 45, 53]⟩ : ByteArray)).bind fun bt137 => ((scan_All.f (⟨#[97, 98, 32, 36]⟩ : ByteArray)).bind fun bt142 => ((scan_All.f (⟨#[120, 32, 48, 48, 55]⟩ : ByteArray)).bind fun bt147 => (if bt137.2.2 = 0 then (if bt137.2.1 = 0 then (if (bt137.1.length : Int) = 5 then (if 0 < (bt137.1.length : Int) then (if ((rd_T32 bt137.1 0).f1).toList = ([118, 97, 114] : List UInt8) then (if 1 < (bt137.1.length : Int) then (if ((rd_T32 bt137.1 1).f0) = 2 then (if 2 < (bt137.1.length : Int) then (if ((rd_T32 bt137.1 2).f1).toList = ([59] : List UInt8) then (if 3 < (bt137.1.length : Int) then (if ((rd_T32 bt137.1 3).f2) = (-5) then (if 4 < (bt137.1.length : Int) then (if ((rd_T32 bt137.1 4).f0) = 4 then (if bt142.2.1 = 3 then (if bt142.2.2 = 2 then (if bt147.2.1 = 2 then (if bt147.2.2 = 2 then (some true) else (some false)) else (some false)) else (some false)) else (some false)) else (some false)) else (none)) else (some false)) else (none)) else (some false)) else (none)) else (some false)) else (none)) else (some false)) else (none)) else (some false)) else (some false)) else (some false))))
theorem arboristlaw05_shown.true_ (r : Bool) (h : arboristlaw05_shown.f = some r) : r = true := by
  have h0 : arboristlaw05_shown.f = some true := by decide +kernel
  exact Option.some.inj (h.symm.trans h0)
set_option maxHeartbeats 8000000 in
set_option maxRecDepth 100000 in
theorem arboristlaw05_shown.calls  (r : Bool) (w : World) (hTb : Tab64 w) (h : arboristlaw05_shown.f  = some r) :
    Calls Tryd.prog 10 #[] w fun e w' => e = .returned (.bool r) ∧ Below w.heap.size w w' := by
  have HTAB := Aside0.mk hTb
  clear hTb
  have HT_ := Aside0.mk (show r = true from arboristlaw05_shown.true_ r h)
  have HB := Aside0.mk (Below.refl w.heap.size w)
  have H : ((scan_All.f (⟨#[118, 97, 114, 32, 48, 59, 32, 35, 32, 110, 111, 116, 101, 10, 45, 53]⟩ : ByteArray)).bind fun bt137 => ((scan_All.f (⟨#[97, 98, 32, 36]⟩ : ByteArray)).bind fun bt142 => ((scan_All.f (⟨#[120, 32, 48, 48, 55]⟩ : ByteArray)).bind fun bt147 => (if bt137.2.2 = 0 then (if bt137.2.1 = 0 then (if (bt137.1.length : Int) = 5 then (if 0 < (bt137.1.length : Int) then (if ((rd_T32 bt137.1 0).f1).toList = ([118, 97, 114] : List UInt8) then (if 1 < (bt137.1.length : Int) then (if ((rd_T32 bt137.1 1).f0) = 2 then (if 2 < (bt137.1.length : Int) then (if ((rd_T32 bt137.1 2).f1).toList = ([59] : List UInt8) then (if 3 < (bt137.1.length : Int) then (if ((rd_T32 bt137.1 3).f2) = (-5) then (if 4 < (bt137.1.length : Int) then (if ((rd_T32 bt137.1 4).f0) = 4 then (if bt142.2.1 = 3 then (if bt142.2.2 = 2 then (if bt147.2.1 = 2 then (if bt147.2.2 = 2 then (some true) else (some false)) else (some false)) else (some false)) else (some false)) else (some false)) else (none)) else (some false)) else (none)) else (some false)) else (none)) else (some false)) else (none)) else (some false)) else (none)) else (some false)) else (some false)) else (some false))))) = some r := h
  clear h
  replace H := Option.bind_eq_some_iff.mp H
  obtain ⟨⟨t137, t138, t139⟩, A10, H⟩ := H
  replace H : ((scan_All.f (⟨#[97, 98, 32, 36]⟩ : ByteArray)).bind fun bt142 => ((scan_All.f (⟨#[120, 32, 48, 48, 55]⟩ : ByteArray)).bind fun bt147 => (if t139 = 0 then (if t138 = 0 then (if (t137.length : Int) = 5 then (if 0 < (t137.length : Int) then (if ((rd_T32 t137 0).f1).toList = ([118, 97, 114] : List UInt8) then (if 1 < (t137.length : Int) then (if ((rd_T32 t137 1).f0) = 2 then (if 2 < (t137.length : Int) then (if ((rd_T32 t137 2).f1).toList = ([59] : List UInt8) then (if 3 < (t137.length : Int) then (if ((rd_T32 t137 3).f2) = (-5) then (if 4 < (t137.length : Int) then (if ((rd_T32 t137 4).f0) = 4 then (if bt142.2.1 = 3 then (if bt142.2.2 = 2 then (if bt147.2.1 = 2 then (if bt147.2.2 = 2 then (some true) else (some false)) else (some false)) else (some false)) else (some false)) else (some false)) else (none)) else (some false)) else (none)) else (some false)) else (none)) else (some false)) else (none)) else (some false)) else (none)) else (some false)) else (some false)) else (some false)))) = some r := H
  have A1 := Aside0.mk A10
  clear A10
  replace H := Option.bind_eq_some_iff.mp H
  obtain ⟨⟨t142, t143, t144⟩, A20, H⟩ := H
  replace H : ((scan_All.f (⟨#[120, 32, 48, 48, 55]⟩ : ByteArray)).bind fun bt147 => (if t139 = 0 then (if t138 = 0 then (if (t137.length : Int) = 5 then (if 0 < (t137.length : Int) then (if ((rd_T32 t137 0).f1).toList = ([118, 97, 114] : List UInt8) then (if 1 < (t137.length : Int) then (if ((rd_T32 t137 1).f0) = 2 then (if 2 < (t137.length : Int) then (if ((rd_T32 t137 2).f1).toList = ([59] : List UInt8) then (if 3 < (t137.length : Int) then (if ((rd_T32 t137 3).f2) = (-5) then (if 4 < (t137.length : Int) then (if ((rd_T32 t137 4).f0) = 4 then (if t143 = 3 then (if t144 = 2 then (if bt147.2.1 = 2 then (if bt147.2.2 = 2 then (some true) else (some false)) else (some false)) else (some false)) else (some false)) else (some false)) else (none)) else (some false)) else (none)) else (some false)) else (none)) else (some false)) else (none)) else (some false)) else (none)) else (some false)) else (some false)) else (some false))) = some r := H
  have A2 := Aside0.mk A20
  clear A20
  replace H := Option.bind_eq_some_iff.mp H
  obtain ⟨⟨t147, t148, t149⟩, A30, H⟩ := H
  replace H : (if t139 = 0 then (if t138 = 0 then (if (t137.length : Int) = 5 then (if 0 < (t137.length : Int) then (if ((rd_T32 t137 0).f1).toList = ([118, 97, 114] : List UInt8) then (if 1 < (t137.length : Int) then (if ((rd_T32 t137 1).f0) = 2 then (if 2 < (t137.length : Int) then (if ((rd_T32 t137 2).f1).toList = ([59] : List UInt8) then (if 3 < (t137.length : Int) then (if ((rd_T32 t137 3).f2) = (-5) then (if 4 < (t137.length : Int) then (if ((rd_T32 t137 4).f0) = 4 then (if t143 = 3 then (if t144 = 2 then (if t148 = 2 then (if t149 = 2 then (some true) else (some false)) else (some false)) else (some false)) else (some false)) else (some false)) else (none)) else (some false)) else (none)) else (some false)) else (none)) else (some false)) else (none)) else (some false)) else (none)) else (some false)) else (some false)) else (some false)) = some r := H
  have A3 := Aside0.mk A30
  clear A30
  by_cases c4 : t139 = 0
  · rw [if_pos c4] at H
    have c4b0 : (t139 == 0) = true := beq_iff_eq.mpr c4
    have c4b1 : (t139 != 0) = false := bne_eq_false_iff_eq.mpr c4
    clear c4
    by_cases c5 : t138 = 0
    · rw [if_pos c5] at H
      have c5b0 : (t138 == 0) = true := beq_iff_eq.mpr c5
      have c5b1 : (t138 != 0) = false := bne_eq_false_iff_eq.mpr c5
      clear c5
      by_cases c6 : (t137.length : Int) = 5
      · rw [if_pos c6] at H
        have c6b0 : ((t137.length : Int) == 5) = true := beq_iff_eq.mpr c6
        have c6b1 : ((t137.length : Int) != 5) = false := bne_eq_false_iff_eq.mpr c6
        clear c6
        by_cases c7 : 0 < (t137.length : Int)
        · rw [if_pos c7] at H
          have c7b0 : decide (0 < (t137.length : Int)) = true := decide_eq_true c7
          have c7b1 : decide (0 < t137.length) = true := decide_eq_true (by omega)
          clear c7
          by_cases c8 : ((rd_T32 t137 0).f1).toList = ([118, 97, 114] : List UInt8)
          · rw [if_pos c8] at H
            have c8b0 : (((rd_T32 t137 0).f1).toList == ([118, 97, 114] : List UInt8)) = true := beq_iff_eq.mpr c8
            have c8b1 : (((rd_T32 t137 0).f1).toList != ([118, 97, 114] : List UInt8)) = false := bne_eq_false_iff_eq.mpr c8
            clear c8
            by_cases c9 : 1 < (t137.length : Int)
            · rw [if_pos c9] at H
              have c9b0 : decide (1 < (t137.length : Int)) = true := decide_eq_true c9
              have c9b1 : decide (1 < t137.length) = true := decide_eq_true (by omega)
              clear c9
              by_cases c10 : ((rd_T32 t137 1).f0) = 2
              · rw [if_pos c10] at H
                have c10b0 : (((rd_T32 t137 1).f0) == 2) = true := beq_iff_eq.mpr c10
                have c10b1 : (((rd_T32 t137 1).f0) != 2) = false := bne_eq_false_iff_eq.mpr c10
                clear c10
                by_cases c11 : 2 < (t137.length : Int)
                · rw [if_pos c11] at H
                  have c11b0 : decide (2 < (t137.length : Int)) = true := decide_eq_true c11
                  have c11b1 : decide (2 < t137.length) = true := decide_eq_true (by omega)
                  clear c11
                  by_cases c12 : ((rd_T32 t137 2).f1).toList = ([59] : List UInt8)
                  · rw [if_pos c12] at H
                    have c12b0 : (((rd_T32 t137 2).f1).toList == ([59] : List UInt8)) = true := beq_iff_eq.mpr c12
                    have c12b1 : (((rd_T32 t137 2).f1).toList != ([59] : List UInt8)) = false := bne_eq_false_iff_eq.mpr c12
                    clear c12
                    by_cases c13 : 3 < (t137.length : Int)
                    · rw [if_pos c13] at H
                      have c13b0 : decide (3 < (t137.length : Int)) = true := decide_eq_true c13
                      have c13b1 : decide (3 < t137.length) = true := decide_eq_true (by omega)
                      clear c13
                      by_cases c14 : ((rd_T32 t137 3).f2) = (-5)
                      · rw [if_pos c14] at H
                        have c14b0 : (((rd_T32 t137 3).f2) == (-5)) = true := beq_iff_eq.mpr c14
                        have c14b1 : (((rd_T32 t137 3).f2) != (-5)) = false := bne_eq_false_iff_eq.mpr c14
                        clear c14
                        by_cases c15 : 4 < (t137.length : Int)
                        · rw [if_pos c15] at H
                          have c15b0 : decide (4 < (t137.length : Int)) = true := decide_eq_true c15
                          have c15b1 : decide (4 < t137.length) = true := decide_eq_true (by omega)
                          clear c15
                          by_cases c16 : ((rd_T32 t137 4).f0) = 4
                          · rw [if_pos c16] at H
                            have c16b0 : (((rd_T32 t137 4).f0) == 4) = true := beq_iff_eq.mpr c16
                            have c16b1 : (((rd_T32 t137 4).f0) != 4) = false := bne_eq_false_iff_eq.mpr c16
                            clear c16
                            by_cases c17 : t143 = 3
                            · rw [if_pos c17] at H
                              have c17b0 : (t143 == 3) = true := beq_iff_eq.mpr c17
                              have c17b1 : (t143 != 3) = false := bne_eq_false_iff_eq.mpr c17
                              clear c17
                              by_cases c18 : t144 = 2
                              · rw [if_pos c18] at H
                                have c18b0 : (t144 == 2) = true := beq_iff_eq.mpr c18
                                have c18b1 : (t144 != 2) = false := bne_eq_false_iff_eq.mpr c18
                                clear c18
                                by_cases c19 : t148 = 2
                                · rw [if_pos c19] at H
                                  have c19b0 : (t148 == 2) = true := beq_iff_eq.mpr c19
                                  have c19b1 : (t148 != 2) = false := bne_eq_false_iff_eq.mpr c19
                                  clear c19
                                  by_cases c20 : t149 = 2
                                  · rw [if_pos c20] at H
                                    have c20b0 : (t149 == 2) = true := beq_iff_eq.mpr c20
                                    have c20b1 : (t149 != 2) = false := bne_eq_false_iff_eq.mpr c20
                                    clear c20
                                    obtain rfl := Option.some.inj H
                                    go_enter Tryd.func10, Tryd.ntmps10
                                    go_wp2_with (first | ((with_reducible refine gate_callee (f := 11) rfl ?_); refine goesL_ (some 11) rfl rfl Tryd.func11 (by kernel_rfl) rfl #[.string (⟨#[118, 97, 114, 32, 48, 59, 32, 35, 32, 110, 111, 116, 101, 10, 45, 53]⟩ : ByteArray)] rfl (by (try simp only [List.map_toArray, List.map_cons, List.map_nil]); first | done | rfl | (simp only [List.length_drop, List.length_take]; rfl)) ?_; (with_reducible refine (scan_All.calls (hTb := (by first | exact HTAB.out | exact tab_drewN HTAB.out _ | exact tab_below HTAB.out (by repeat (first | (with_reducible first | exact HB.out | apply below_alloc | apply pw_below_drewN | apply below_drew1) | exact HB.out)))) (⟨#[118, 97, 114, 32, 48, 59, 32, 35, 32, 110, 111, 116, 101, 10, 45, 53]⟩ : ByteArray) t137 t138 t139 _ A1.out).mono ?_); rintro e w21 ⟨v140, rfl, ho0, hb⟩; refine ⟨_, rfl, ?_⟩; have n0_ := Aside0.mk (Kd.R_lower ho0 (below_size (by repeat (first | (with_reducible first | exact HB.out | apply below_alloc | apply pw_below_drewN | apply below_drew1) | exact HB.out)))); have n1_ := Aside0.mk (below_step (by repeat (first | (with_reducible first | exact HB.out | apply below_alloc | apply pw_below_drewN | apply below_drew1) | exact HB.out)) hb); clear HB; have HO141 := n0_; have HB := n1_; clear n0_ n1_; (try clear hb); (try clear hb2); (try clear hk); (try clear hi); (try clear ho0)) | ((with_reducible refine gate_callee (f := 11) rfl ?_); refine goesL_ (some 16) rfl rfl Tryd.func11 (by kernel_rfl) rfl #[.string (⟨#[97, 98, 32, 36]⟩ : ByteArray)] rfl (by (try simp only [List.map_toArray, List.map_cons, List.map_nil]); first | done | rfl | (simp only [List.length_drop, List.length_take]; rfl)) ?_; (with_reducible refine (scan_All.calls (hTb := (by first | exact HTAB.out | exact tab_drewN HTAB.out _ | exact tab_below HTAB.out (by repeat (first | (with_reducible first | exact HB.out | apply below_alloc | apply pw_below_drewN | apply below_drew1) | exact HB.out)))) (⟨#[97, 98, 32, 36]⟩ : ByteArray) t142 t143 t144 _ A2.out).mono ?_); rintro e w22 ⟨v145, rfl, ho0, hb⟩; refine ⟨_, rfl, ?_⟩; have n0_ := Aside0.mk (Kd.R_elder' (by (with_reducible repeat (first | apply Kd.R_alloc | apply Kd.R_drewN | apply Kd.R_drew)); exact HO141.out) (Kd.R_base ho0) hb); have n1_ := Aside0.mk (Kd.R_lower (Kd.R_new' ho0 (Kd.R_lt (by (with_reducible repeat (first | apply Kd.R_alloc | apply Kd.R_drewN | apply Kd.R_drew)); exact HO141.out))) (below_size (by repeat (first | (with_reducible first | exact HB.out | apply below_alloc | apply pw_below_drewN | apply below_drew1) | exact HB.out)))); have n2_ := Aside0.mk (below_step (by repeat (first | (with_reducible first | exact HB.out | apply below_alloc | apply pw_below_drewN | apply below_drew1) | exact HB.out)) hb); clear HO141; clear HB; have HO141 := n0_; have HO146 := n1_; have HB := n2_; clear n0_ n1_ n2_; (try clear hb); (try clear hb2); (try clear hk); (try clear hi); (try clear ho0)) | ((with_reducible refine gate_callee (f := 11) rfl ?_); refine goesL_ (some 21) rfl rfl Tryd.func11 (by kernel_rfl) rfl #[.string (⟨#[120, 32, 48, 48, 55]⟩ : ByteArray)] rfl (by (try simp only [List.map_toArray, List.map_cons, List.map_nil]); first | done | rfl | (simp only [List.length_drop, List.length_take]; rfl)) ?_; (with_reducible refine (scan_All.calls (hTb := (by first | exact HTAB.out | exact tab_drewN HTAB.out _ | exact tab_below HTAB.out (by repeat (first | (with_reducible first | exact HB.out | apply below_alloc | apply pw_below_drewN | apply below_drew1) | exact HB.out)))) (⟨#[120, 32, 48, 48, 55]⟩ : ByteArray) t147 t148 t149 _ A3.out).mono ?_); rintro e w23 ⟨v150, rfl, ho0, hb⟩; refine ⟨_, rfl, ?_⟩; have n0_ := Aside0.mk (Kd.R_elder' (by (with_reducible repeat (first | apply Kd.R_alloc | apply Kd.R_drewN | apply Kd.R_drew)); exact HO141.out) (Kd.R_base ho0) hb); have n1_ := Aside0.mk (Kd.R_elder' (by (with_reducible repeat (first | apply Kd.R_alloc | apply Kd.R_drewN | apply Kd.R_drew)); exact HO146.out) (Kd.R_base ho0) hb); have n2_ := Aside0.mk (Kd.R_lower (Kd.R_new' (Kd.R_new' ho0 (Kd.R_lt (by (with_reducible repeat (first | apply Kd.R_alloc | apply Kd.R_drewN | apply Kd.R_drew)); exact HO141.out))) (Kd.R_lt (by (with_reducible repeat (first | apply Kd.R_alloc | apply Kd.R_drewN | apply Kd.R_drew)); exact HO146.out))) (below_size (by repeat (first | (with_reducible first | exact HB.out | apply below_alloc | apply pw_below_drewN | apply below_drew1) | exact HB.out)))); have n3_ := Aside0.mk (below_step (by repeat (first | (with_reducible first | exact HB.out | apply below_alloc | apply pw_below_drewN | apply below_drew1) | exact HB.out)) hb); clear HO141; clear HO146; clear HB; have HO141 := n0_; have HO146 := n1_; have HO151 := n2_; have HB := n3_; clear n0_ n1_ n2_ n3_; (try clear hb); (try clear hb2); (try clear hk); (try clear hi); (try clear ho0); obtain ⟨Ao24, co24, eo24⟩ := Kd.R_slice HO141.out; subst eo24; have p152 : 0 ≤ (0 : Int) := (by omega); have q152 : 0 < (t137.length : Int) := of_decide_eq_true (by first | (with_reducible assumption) | assumption); obtain ⟨ad152, e152, hx152_0, hx152_1, hx152_2, hx152_3⟩ := at_T32 (Kd.R_reads' HO141.out).2.2 0 p152 q152; cases e152; have qi152 : (0 < t137.length) = True := eq_true (by omega); (try rw [show ((0 : Int)).toNat = 0 from rfl] at hx152_0); (try rw [show 0 * 4 = 0 from rfl] at hx152_0); (try rw [Addr.add_zero'] at hx152_0); (try rw [show ((0 : Int)).toNat = 0 from rfl] at hx152_1); (try rw [show 0 * 4 = 0 from rfl] at hx152_1); (try rw [Addr.add_zero'] at hx152_1); (try rw [show ((0 : Int)).toNat = 0 from rfl] at hx152_2); (try rw [show 0 * 4 = 0 from rfl] at hx152_2); (try rw [Addr.add_zero'] at hx152_2); (try rw [show ((0 : Int)).toNat = 0 from rfl] at hx152_3); (try rw [show 0 * 4 = 0 from rfl] at hx152_3); (try rw [Addr.add_zero'] at hx152_3); replace p152 := eq_true p152; replace q152 := eq_true q152; have p153 : 0 ≤ (1 : Int) := (by omega); have q153 : 1 < (t137.length : Int) := of_decide_eq_true (by first | (with_reducible assumption) | assumption); obtain ⟨ad153, e153, hx153_0, hx153_1, hx153_2, hx153_3⟩ := at_T32 (Kd.R_reads' HO141.out).2.2 1 p153 q153; obtain rfl : ad152 = ad153 := (by injection e153); (try simp only [show (1 : Int).toNat = 1 from rfl, Nat.reduceMul, Nat.reduceEqDiff, Go.Addr.add, ↓reduceIte] at hx153_0); (try simp only [show (1 : Int).toNat = 1 from rfl, Nat.reduceMul, Nat.reduceEqDiff, Go.Addr.add, ↓reduceIte] at hx153_1); (try simp only [show (1 : Int).toNat = 1 from rfl, Nat.reduceMul, Nat.reduceEqDiff, Go.Addr.add, ↓reduceIte] at hx153_2); (try simp only [show (1 : Int).toNat = 1 from rfl, Nat.reduceMul, Nat.reduceEqDiff, Go.Addr.add, ↓reduceIte] at hx153_3); have qi153 : (1 < t137.length) = True := eq_true (by omega); (try rw [show ((1 : Int)).toNat = 1 from rfl] at hx153_0); (try rw [show 1 * 4 = 4 from rfl] at hx153_0); (try rw [show ((1 : Int)).toNat = 1 from rfl] at hx153_1); (try rw [show 1 * 4 = 4 from rfl] at hx153_1); (try rw [show ((1 : Int)).toNat = 1 from rfl] at hx153_2); (try rw [show 1 * 4 = 4 from rfl] at hx153_2); (try rw [show ((1 : Int)).toNat = 1 from rfl] at hx153_3); (try rw [show 1 * 4 = 4 from rfl] at hx153_3); replace p153 := eq_true p153; replace q153 := eq_true q153; have p154 : 0 ≤ (2 : Int) := (by omega); have q154 : 2 < (t137.length : Int) := of_decide_eq_true (by first | (with_reducible assumption) | assumption); obtain ⟨ad154, e154, hx154_0, hx154_1, hx154_2, hx154_3⟩ := at_T32 (Kd.R_reads' HO141.out).2.2 2 p154 q154; obtain rfl : ad152 = ad154 := (by injection e154); (try simp only [show (2 : Int).toNat = 2 from rfl, Nat.reduceMul, Nat.reduceEqDiff, Go.Addr.add, ↓reduceIte] at hx154_0); (try simp only [show (2 : Int).toNat = 2 from rfl, Nat.reduceMul, Nat.reduceEqDiff, Go.Addr.add, ↓reduceIte] at hx154_1); (try simp only [show (2 : Int).toNat = 2 from rfl, Nat.reduceMul, Nat.reduceEqDiff, Go.Addr.add, ↓reduceIte] at hx154_2); (try simp only [show (2 : Int).toNat = 2 from rfl, Nat.reduceMul, Nat.reduceEqDiff, Go.Addr.add, ↓reduceIte] at hx154_3); have qi154 : (2 < t137.length) = True := eq_true (by omega); (try rw [show ((2 : Int)).toNat = 2 from rfl] at hx154_0); (try rw [show 2 * 4 = 8 from rfl] at hx154_0); (try rw [show ((2 : Int)).toNat = 2 from rfl] at hx154_1); (try rw [show 2 * 4 = 8 from rfl] at hx154_1); (try rw [show ((2 : Int)).toNat = 2 from rfl] at hx154_2); (try rw [show 2 * 4 = 8 from rfl] at hx154_2); (try rw [show ((2 : Int)).toNat = 2 from rfl] at hx154_3); (try rw [show 2 * 4 = 8 from rfl] at hx154_3); replace p154 := eq_true p154; replace q154 := eq_true q154; have p155 : 0 ≤ (3 : Int) := (by omega); have q155 : 3 < (t137.length : Int) := of_decide_eq_true (by first | (with_reducible assumption) | assumption); obtain ⟨ad155, e155, hx155_0, hx155_1, hx155_2, hx155_3⟩ := at_T32 (Kd.R_reads' HO141.out).2.2 3 p155 q155; obtain rfl : ad152 = ad155 := (by injection e155); (try simp only [show (3 : Int).toNat = 3 from rfl, Nat.reduceMul, Nat.reduceEqDiff, Go.Addr.add, ↓reduceIte] at hx155_0); (try simp only [show (3 : Int).toNat = 3 from rfl, Nat.reduceMul, Nat.reduceEqDiff, Go.Addr.add, ↓reduceIte] at hx155_1); (try simp only [show (3 : Int).toNat = 3 from rfl, Nat.reduceMul, Nat.reduceEqDiff, Go.Addr.add, ↓reduceIte] at hx155_2); (try simp only [show (3 : Int).toNat = 3 from rfl, Nat.reduceMul, Nat.reduceEqDiff, Go.Addr.add, ↓reduceIte] at hx155_3); have qi155 : (3 < t137.length) = True := eq_true (by omega); (try rw [show ((3 : Int)).toNat = 3 from rfl] at hx155_0); (try rw [show 3 * 4 = 12 from rfl] at hx155_0); (try rw [show ((3 : Int)).toNat = 3 from rfl] at hx155_1); (try rw [show 3 * 4 = 12 from rfl] at hx155_1); (try rw [show ((3 : Int)).toNat = 3 from rfl] at hx155_2); (try rw [show 3 * 4 = 12 from rfl] at hx155_2); (try rw [show ((3 : Int)).toNat = 3 from rfl] at hx155_3); (try rw [show 3 * 4 = 12 from rfl] at hx155_3); replace p155 := eq_true p155; replace q155 := eq_true q155; have p156 : 0 ≤ (4 : Int) := (by omega); have q156 : 4 < (t137.length : Int) := of_decide_eq_true (by first | (with_reducible assumption) | assumption); obtain ⟨ad156, e156, hx156_0, hx156_1, hx156_2, hx156_3⟩ := at_T32 (Kd.R_reads' HO141.out).2.2 4 p156 q156; obtain rfl : ad152 = ad156 := (by injection e156); (try simp only [show (4 : Int).toNat = 4 from rfl, Nat.reduceMul, Nat.reduceEqDiff, Go.Addr.add, ↓reduceIte] at hx156_0); (try simp only [show (4 : Int).toNat = 4 from rfl, Nat.reduceMul, Nat.reduceEqDiff, Go.Addr.add, ↓reduceIte] at hx156_1); (try simp only [show (4 : Int).toNat = 4 from rfl, Nat.reduceMul, Nat.reduceEqDiff, Go.Addr.add, ↓reduceIte] at hx156_2); (try simp only [show (4 : Int).toNat = 4 from rfl, Nat.reduceMul, Nat.reduceEqDiff, Go.Addr.add, ↓reduceIte] at hx156_3); have qi156 : (4 < t137.length) = True := eq_true (by omega); (try rw [show ((4 : Int)).toNat = 4 from rfl] at hx156_0); (try rw [show 4 * 4 = 16 from rfl] at hx156_0); (try rw [show ((4 : Int)).toNat = 4 from rfl] at hx156_1); (try rw [show 4 * 4 = 16 from rfl] at hx156_1); (try rw [show ((4 : Int)).toNat = 4 from rfl] at hx156_2); (try rw [show 4 * 4 = 16 from rfl] at hx156_2); (try rw [show ((4 : Int)).toNat = 4 from rfl] at hx156_3); (try rw [show 4 * 4 = 16 from rfl] at hx156_3); replace p156 := eq_true p156; replace q156 := eq_true q156))
                                    go_ret
                                    exact ⟨by first | rfl | (simp [errW_none, errW_some] <;> rfl) | (simp [*, errW_none, errW_some] <;> rfl), by repeat (first | (with_reducible first | exact HB.out | apply below_alloc | apply pw_below_drewN | apply below_drew1) | exact HB.out)⟩
                                  · rw [if_neg c20] at H
                                    have c20b0 : (t149 == 2) = false := beq_eq_false_iff_ne.mpr c20
                                    have c20b1 : (t149 != 2) = true := bne_iff_ne.mpr c20
                                    exact absurd ((Option.some.inj H).trans HT_.out) (by decide)
                                · rw [if_neg c19] at H
                                  have c19b0 : (t148 == 2) = false := beq_eq_false_iff_ne.mpr c19
                                  have c19b1 : (t148 != 2) = true := bne_iff_ne.mpr c19
                                  exact absurd ((Option.some.inj H).trans HT_.out) (by decide)
                              · rw [if_neg c18] at H
                                have c18b0 : (t144 == 2) = false := beq_eq_false_iff_ne.mpr c18
                                have c18b1 : (t144 != 2) = true := bne_iff_ne.mpr c18
                                exact absurd ((Option.some.inj H).trans HT_.out) (by decide)
                            · rw [if_neg c17] at H
                              have c17b0 : (t143 == 3) = false := beq_eq_false_iff_ne.mpr c17
                              have c17b1 : (t143 != 3) = true := bne_iff_ne.mpr c17
                              exact absurd ((Option.some.inj H).trans HT_.out) (by decide)
                          · rw [if_neg c16] at H
                            have c16b0 : (((rd_T32 t137 4).f0) == 4) = false := beq_eq_false_iff_ne.mpr c16
                            have c16b1 : (((rd_T32 t137 4).f0) != 4) = true := bne_iff_ne.mpr c16
                            exact absurd ((Option.some.inj H).trans HT_.out) (by decide)
                        · rw [if_neg c15] at H
                          exact absurd H (by simp)
                      · rw [if_neg c14] at H
                        have c14b0 : (((rd_T32 t137 3).f2) == (-5)) = false := beq_eq_false_iff_ne.mpr c14
                        have c14b1 : (((rd_T32 t137 3).f2) != (-5)) = true := bne_iff_ne.mpr c14
                        exact absurd ((Option.some.inj H).trans HT_.out) (by decide)
                    · rw [if_neg c13] at H
                      exact absurd H (by simp)
                  · rw [if_neg c12] at H
                    have c12b0 : (((rd_T32 t137 2).f1).toList == ([59] : List UInt8)) = false := beq_eq_false_iff_ne.mpr c12
                    have c12b1 : (((rd_T32 t137 2).f1).toList != ([59] : List UInt8)) = true := bne_iff_ne.mpr c12
                    exact absurd ((Option.some.inj H).trans HT_.out) (by decide)
                · rw [if_neg c11] at H
                  exact absurd H (by simp)
              · rw [if_neg c10] at H
                have c10b0 : (((rd_T32 t137 1).f0) == 2) = false := beq_eq_false_iff_ne.mpr c10
                have c10b1 : (((rd_T32 t137 1).f0) != 2) = true := bne_iff_ne.mpr c10
                exact absurd ((Option.some.inj H).trans HT_.out) (by decide)
            · rw [if_neg c9] at H
              exact absurd H (by simp)
          · rw [if_neg c8] at H
            have c8b0 : (((rd_T32 t137 0).f1).toList == ([118, 97, 114] : List UInt8)) = false := beq_eq_false_iff_ne.mpr c8
            have c8b1 : (((rd_T32 t137 0).f1).toList != ([118, 97, 114] : List UInt8)) = true := bne_iff_ne.mpr c8
            exact absurd ((Option.some.inj H).trans HT_.out) (by decide)
        · rw [if_neg c7] at H
          exact absurd H (by simp)
      · rw [if_neg c6] at H
        have c6b0 : ((t137.length : Int) == 5) = false := beq_eq_false_iff_ne.mpr c6
        have c6b1 : ((t137.length : Int) != 5) = true := bne_iff_ne.mpr c6
        exact absurd ((Option.some.inj H).trans HT_.out) (by decide)
    · rw [if_neg c5] at H
      have c5b0 : (t138 == 0) = false := beq_eq_false_iff_ne.mpr c5
      have c5b1 : (t138 != 0) = true := bne_iff_ne.mpr c5
      exact absurd ((Option.some.inj H).trans HT_.out) (by decide)
  · rw [if_neg c4] at H
    have c4b0 : (t139 == 0) = false := beq_eq_false_iff_ne.mpr c4
    have c4b1 : (t139 != 0) = true := bne_iff_ne.mpr c4
    exact absurd ((Option.some.inj H).trans HT_.out) (by decide)

/-! ### arboristref05_skip: function 15 -/
def arboristref05_skip.l0 : Nat → ByteArray → Int → Bool → Option (Int)
  | 0, _, _, _ => none
  | k + 1, x0, x1, x5 => if x1 < (x0.size : Int) then (if 0 ≤ x1 then (if (bt x0 x1) = 10 then (arboristref05_skip.l0 k x0 (wrap64 (x1 + 1)) false) else (if (bt x0 x1) = 35 then (arboristref05_skip.l0 k x0 (wrap64 (x1 + 1)) true) else (if (bt x0 x1) = 32 then (arboristref05_skip.l0 k x0 (wrap64 (x1 + 1)) x5) else (if (bt x0 x1) = 9 then (arboristref05_skip.l0 k x0 (wrap64 (x1 + 1)) x5) else (if x5 = true then (arboristref05_skip.l0 k x0 (wrap64 (x1 + 1)) x5) else (some x1)))))) else (none)) else (some x1)
def arboristref05_skip.f (k : Nat) (a0 : ByteArray) (a1 : Int) : Option (Int) := arboristref05_skip.l0 k a0 a1 false
theorem arboristref05_skip.mono_l : ∀ k, (∀ y0 y1 y2, LeO (arboristref05_skip.l0 k y0 y1 y2) (arboristref05_skip.l0 (k + 1) y0 y1 y2))
  | 0 => fun _ _ _ r h => by simp [arboristref05_skip.l0] at h
  | k + 1 => by
    have ih0 := arboristref05_skip.mono_l k
    all_goals intros
    all_goals (first | unfold arboristref05_skip.l0)
    all_goals repeat' first
    | (with_reducible exact ih0 _ _ _)
    | (with_reducible exact LeO.refl _)
    | (with_reducible exact LeO.none _)
    | (with_reducible refine LeO.ite ?_ ?_)
    | (with_reducible refine LeO.bind ?_ (fun _ => ?_))
    | exact ih0 _ _ _
    | exact LeO.none _
    | refine LeO.ite ?_ ?_
    | refine LeO.bind ?_ (fun _ => ?_)
theorem arboristref05_skip.mono : ∀ a0 a1 k, LeO (arboristref05_skip.f k a0 a1) (arboristref05_skip.f (k + 1) a0 a1) := by
  intro a0 a1 k
  have ih0 := arboristref05_skip.mono_l k
  unfold arboristref05_skip.f
  repeat' first
      | (with_reducible exact ih0 _ _ _)
      | (with_reducible exact LeO.refl _)
      | (with_reducible exact LeO.none _)
      | (with_reducible refine LeO.ite ?_ ?_)
      | (with_reducible refine LeO.bind ?_ (fun _ => ?_))
      | exact ih0 _ _ _
      | exact LeO.none _
      | refine LeO.ite ?_ ?_
      | refine LeO.bind ?_ (fun _ => ?_)
set_option maxHeartbeats 8000000 in
set_option maxRecDepth 100000 in
theorem arboristref05_skip.calls (k : Nat) (a0 : ByteArray) (a1 : Int) (r : Int) (w : World) (h : arboristref05_skip.f k a0 a1 = some r) :
    Calls Tryd.prog 15 #[.string a0, .int .i64 a1] w fun e w' => e = .returned (.int .i64 r) ∧ Drawn0 w w' := by
  have H : (arboristref05_skip.l0 k a0 a1 false) = some r := h
  clear h
  have H' := Aside0.mk H
  clear H
  go_enter Tryd.func15, Tryd.ntmps15
  go_wp2
  go_loopg [1, 5] k (fun kq v1 v5 w' => ∃ (x1_1 : Int) (x5_1 : Bool), v1 = .int .i64 x1_1 ∧ v5 = .bool x5_1 ∧ Aside0 (arboristref05_skip.l0 kq a0 x1_1 x5_1 = some r) ∧ Aside0 (kq ≤ k) ∧ Drawn0 w w')
  case atStart => exact ⟨(a1), (false), (by first | rfl | (simp; done) | (simp [*]; done)), (by first | rfl | (simp; done) | (simp [*]; done)), H', ⟨Nat.le_refl _⟩, by repeat (first | exact Drawn0.refl _ | apply Drawn0.step)⟩
  case round =>
    clear H'
    try clear c1
    try clear p2
    obtain ⟨x1_1, x5_1, rfl, rfl, HA, HK1, ⟨m1, rfl⟩⟩ := hrel
    cases gk with
    | zero => exact absurd HA.out (by simp [arboristref05_skip.l0])
    | succ k1 =>
      have H := HA.out
      clear HA
      simp only [arboristref05_skip.l0] at H
      by_cases c3 : x1_1 < (a0.size : Int)
      · rw [if_pos c3] at H
        have c3b0 : decide (x1_1 < (a0.size : Int)) = true := decide_eq_true c3
        clear c3
        by_cases c4 : 0 ≤ x1_1
        · rw [if_pos c4] at H
          have c4b0 : decide (0 ≤ x1_1) = true := decide_eq_true c4
          clear c4
          by_cases c6 : (bt a0 x1_1) = 10
          · rw [if_pos c6] at H
            have c6b0 : ((bt a0 x1_1) == 10) = true := beq_iff_eq.mpr c6
            have c6b1 : ((bt a0 x1_1) != 10) = false := bne_eq_false_iff_eq.mpr c6
            clear c6
            have H' := Aside0.mk H
            clear H
            have p5 : 0 ≤ (x1_1 : Int) := of_decide_eq_true (by first | (with_reducible assumption) | assumption)
            have q5 : x1_1 < (a0.size : Int) := of_decide_eq_true (by first | (with_reducible assumption) | assumption)
            have hx5 := bt_at a0 x1_1
            replace p5 := eq_true p5
            replace q5 := eq_true q5
            go_wp2
            go_roundg k1
            case measure => have := HK1.out; omega
            case rel => exact ⟨(wrap64 (x1_1 + 1)), (false), (by first | rfl | (simp; done) | (simp [*]; done)), (by first | rfl | (simp; done) | (simp [*]; done)), H', ⟨by have := HK1.out; omega⟩, by repeat (first | exact Drawn0.refl _ | apply Drawn0.step)⟩
          · rw [if_neg c6] at H
            have c6b0 : ((bt a0 x1_1) == 10) = false := beq_eq_false_iff_ne.mpr c6
            have c6b1 : ((bt a0 x1_1) != 10) = true := bne_iff_ne.mpr c6
            by_cases c7 : (bt a0 x1_1) = 35
            · rw [if_pos c7] at H
              have c7b0 : ((bt a0 x1_1) == 35) = true := beq_iff_eq.mpr c7
              have c7b1 : ((bt a0 x1_1) != 35) = false := bne_eq_false_iff_eq.mpr c7
              clear c7
              have H' := Aside0.mk H
              clear H
              have p5 : 0 ≤ (x1_1 : Int) := of_decide_eq_true (by first | (with_reducible assumption) | assumption)
              have q5 : x1_1 < (a0.size : Int) := of_decide_eq_true (by first | (with_reducible assumption) | assumption)
              have hx5 := bt_at a0 x1_1
              replace p5 := eq_true p5
              replace q5 := eq_true q5
              go_wp2
              go_roundg k1
              case measure => have := HK1.out; omega
              case rel => exact ⟨(wrap64 (x1_1 + 1)), (true), (by first | rfl | (simp; done) | (simp [*]; done)), (by first | rfl | (simp; done) | (simp [*]; done)), H', ⟨by have := HK1.out; omega⟩, by repeat (first | exact Drawn0.refl _ | apply Drawn0.step)⟩
            · rw [if_neg c7] at H
              have c7b0 : ((bt a0 x1_1) == 35) = false := beq_eq_false_iff_ne.mpr c7
              have c7b1 : ((bt a0 x1_1) != 35) = true := bne_iff_ne.mpr c7
              by_cases c8 : (bt a0 x1_1) = 32
              · rw [if_pos c8] at H
                have c8b0 : ((bt a0 x1_1) == 32) = true := beq_iff_eq.mpr c8
                have c8b1 : ((bt a0 x1_1) != 32) = false := bne_eq_false_iff_eq.mpr c8
                clear c8
                have H' := Aside0.mk H
                clear H
                have p5 : 0 ≤ (x1_1 : Int) := of_decide_eq_true (by first | (with_reducible assumption) | assumption)
                have q5 : x1_1 < (a0.size : Int) := of_decide_eq_true (by first | (with_reducible assumption) | assumption)
                have hx5 := bt_at a0 x1_1
                replace p5 := eq_true p5
                replace q5 := eq_true q5
                go_wp2
                go_roundg k1
                case measure => have := HK1.out; omega
                case rel => exact ⟨(wrap64 (x1_1 + 1)), (x5_1), (by first | rfl | (simp; done) | (simp [*]; done)), (by first | rfl | (simp; done) | (simp [*]; done)), H', ⟨by have := HK1.out; omega⟩, by repeat (first | exact Drawn0.refl _ | apply Drawn0.step)⟩
              · rw [if_neg c8] at H
                have c8b0 : ((bt a0 x1_1) == 32) = false := beq_eq_false_iff_ne.mpr c8
                have c8b1 : ((bt a0 x1_1) != 32) = true := bne_iff_ne.mpr c8
                by_cases c9 : (bt a0 x1_1) = 9
                · rw [if_pos c9] at H
                  have c9b0 : ((bt a0 x1_1) == 9) = true := beq_iff_eq.mpr c9
                  have c9b1 : ((bt a0 x1_1) != 9) = false := bne_eq_false_iff_eq.mpr c9
                  clear c9
                  have H' := Aside0.mk H
                  clear H
                  have p5 : 0 ≤ (x1_1 : Int) := of_decide_eq_true (by first | (with_reducible assumption) | assumption)
                  have q5 : x1_1 < (a0.size : Int) := of_decide_eq_true (by first | (with_reducible assumption) | assumption)
                  have hx5 := bt_at a0 x1_1
                  replace p5 := eq_true p5
                  replace q5 := eq_true q5
                  go_wp2
                  go_roundg k1
                  case measure => have := HK1.out; omega
                  case rel => exact ⟨(wrap64 (x1_1 + 1)), (x5_1), (by first | rfl | (simp; done) | (simp [*]; done)), (by first | rfl | (simp; done) | (simp [*]; done)), H', ⟨by have := HK1.out; omega⟩, by repeat (first | exact Drawn0.refl _ | apply Drawn0.step)⟩
                · rw [if_neg c9] at H
                  have c9b0 : ((bt a0 x1_1) == 9) = false := beq_eq_false_iff_ne.mpr c9
                  have c9b1 : ((bt a0 x1_1) != 9) = true := bne_iff_ne.mpr c9
                  by_cases c10 : x5_1 = true
                  · subst c10
                    have H1 : (arboristref05_skip.l0 k1 a0 (wrap64 (x1_1 + 1)) true) = some r := by rw [if_pos rfl] at H; exact H
                    clear H
                    have H := H1
                    clear H1
                    have H' := Aside0.mk H
                    clear H
                    have p5 : 0 ≤ (x1_1 : Int) := of_decide_eq_true (by first | (with_reducible assumption) | assumption)
                    have q5 : x1_1 < (a0.size : Int) := of_decide_eq_true (by first | (with_reducible assumption) | assumption)
                    have hx5 := bt_at a0 x1_1
                    replace p5 := eq_true p5
                    replace q5 := eq_true q5
                    go_wp2
                    go_roundg k1
                    case measure => have := HK1.out; omega
                    case rel => exact ⟨(wrap64 (x1_1 + 1)), (true), (by first | rfl | (simp; done) | (simp [*]; done)), (by first | rfl | (simp; done) | (simp [*]; done)), H', ⟨by have := HK1.out; omega⟩, by repeat (first | exact Drawn0.refl _ | apply Drawn0.step)⟩
                  · replace c10 := Bool.eq_false_iff.mpr c10
                    subst c10
                    have H1 : (some x1_1) = some r := by rw [if_neg (show ¬ (false = true) by decide)] at H; exact H
                    clear H
                    have H := H1
                    clear H1
                    obtain rfl := Option.some.inj H
                    have p5 : 0 ≤ (x1_1 : Int) := of_decide_eq_true (by first | (with_reducible assumption) | assumption)
                    have q5 : x1_1 < (a0.size : Int) := of_decide_eq_true (by first | (with_reducible assumption) | assumption)
                    have hx5 := bt_at a0 x1_1
                    replace p5 := eq_true p5
                    replace q5 := eq_true q5
                    go_wp2
                    go_ret
                    exact ⟨by first | rfl | (simp; done) | (simp [*]; done), by repeat (first | exact Drawn0.refl _ | apply Drawn0.step)⟩
        · rw [if_neg c4] at H
          exact absurd H (by simp)
      · rw [if_neg c3] at H
        have c3b0 : decide (x1_1 < (a0.size : Int)) = false := decide_eq_false c3
        clear c3
        obtain rfl := Option.some.inj H
        go_wp2
        go_ret
        exact ⟨by first | rfl | (simp; done) | (simp [*]; done), by repeat (first | exact Drawn0.refl _ | apply Drawn0.step)⟩

end Go.Proofs.YtfgabdfnbkmaeaaDoor.Pr
