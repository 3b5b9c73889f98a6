-- Printed by a program of this session's own (wip/tools/pp.py) over the kit's print.py; Lean checks it.
import Derived.Test.YtlnmgljiggebiaaPr0
import Derived.Test.YtlnmgljiggebiaaPr1
import Derived.Test.YtlnmgljiggebiaaPr13
import Derived.Test.YtlnmgljiggebiaaPr26
namespace Go.Proofs.Ytlnmgljiggebiaa.Pr
open Go.RowKit Go.Proofs.YtlnmgljiggebiaaW.PrintWords Go.Proofs.YtlnmgljiggebiaaW.PrintLast Go.Proofs.YtlnmgljiggebiaaW.PrintMore
attribute [local go_sem] max2_int min2_int max_two min_two max_three min_three max_four min_four   -- for this text's walks alone
set_option linter.unusedVariables false
set_option linter.unusedSimpArgs false

/-! ### arboristlaw01_TupleParts: function 10 -/
def arboristlaw01_TupleParts.j0 : Nat → Bool → List Int → List Int → List Int → List Int → List Int → Bool → Option (Bool)
  | 0, _, _, _, _, _, _, _ => none
  | k + 1, x5, x6, x7, x8, x9, x10, x59 => if x59 = true then (some false) else (if x5 = true then ((tuple_Within.f x6 x8).bind fun t517 => (if t517 = true then ((tuple_Within.f x9 x7).bind fun t518 => (if t518 = true then ((tuple_Meet.f x10 x7).bind fun t519 => (if (t519.length : Int) = 0 then ((tuple_Within.f x6 x7).bind fun t522 => (if (t522 == ((x10.length : Int) == 0)) = true then ((tuple_Unite.f x7 x6).bind fun t523 => ((tuple_Compare.f k x8 t523).bind fun t526 => (some (t526 == 0)))) else (some false))) else (some false))) else (some false))) else (some false))) else (some false))
def arboristlaw01_TupleParts.f (k : Nat) (l0 : List Int) (l1 : List Int) : Option (Bool) := (arboristlaw01_shown.f k).bind fun t496 => ((arboristlaw01_rise.f k l0).bind fun t497 => ((arboristlaw01_rise.f k l1).bind fun t500 => ((tuple_Unite.f t497 t500).bind fun t503 => ((tuple_Meet.f t497 t500).bind fun t506 => ((tuple_Without.f t497 t500).bind fun t509 => ((tuple_Without.f t500 t497).bind fun t512 => (if (t503.length : Int) = (wrap64 ((wrap64 ((t506.length : Int) + (t509.length : Int))) + (t512.length : Int))) then (if (t497.length : Int) = (wrap64 ((t506.length : Int) + (t509.length : Int))) then ((tuple_Rising.f k t503).bind fun t515 => (if t515 = true then ((tuple_Rising.f k t506).bind fun t516 => (arboristlaw01_TupleParts.j0 k t496 t497 t500 t503 t506 t509 (!t516))) else (arboristlaw01_TupleParts.j0 k t496 t497 t500 t503 t506 t509 true))) else (arboristlaw01_TupleParts.j0 k t496 t497 t500 t503 t506 t509 true)) else (arboristlaw01_TupleParts.j0 k t496 t497 t500 t503 t506 t509 true))))))))
theorem arboristlaw01_TupleParts.mono_l : ∀ k, (∀ y0 y1 y2 y3 y4 y5 y6, LeO (arboristlaw01_TupleParts.j0 k y0 y1 y2 y3 y4 y5 y6) (arboristlaw01_TupleParts.j0 (k + 1) y0 y1 y2 y3 y4 y5 y6))
  | 0 => fun _ _ _ _ _ _ _ r h => by simp [arboristlaw01_TupleParts.j0] at h
  | k + 1 => by
    have ih0 := arboristlaw01_TupleParts.mono_l k
    all_goals intros
    all_goals (first | unfold arboristlaw01_TupleParts.j0)
    all_goals repeat' first
    | (with_reducible exact ih0 _ _ _ _ _ _ _)
    | (with_reducible exact arboristlaw01_rise.mono _ _)
    | (with_reducible exact arboristlaw01_shown.mono _)
    | (with_reducible exact tuple_Compare.mono _ _ _)
    | (with_reducible exact tuple_Rising.mono _ _)
    | (with_reducible exact LeO.refl _)
    | (with_reducible exact LeO.none _)
    | (with_reducible refine LeO.ite ?_ ?_)
    | (with_reducible refine LeO.bind ?_ (fun _ => ?_))
    | exact ih0 _ _ _ _ _ _ _
    | exact arboristlaw01_rise.mono _ _
    | exact arboristlaw01_shown.mono _
    | exact tuple_Compare.mono _ _ _
    | exact tuple_Rising.mono _ _
    | exact LeO.none _
    | refine LeO.ite ?_ ?_
    | refine LeO.bind ?_ (fun _ => ?_)
theorem arboristlaw01_TupleParts.mono : ∀ a0 a1 k, LeO (arboristlaw01_TupleParts.f k a0 a1) (arboristlaw01_TupleParts.f (k + 1) a0 a1) := by
  intro a0 a1 k
  have ih0 := arboristlaw01_TupleParts.mono_l k
  unfold arboristlaw01_TupleParts.f
  repeat' first
      | (with_reducible exact ih0 _ _ _ _ _ _ _)
      | (with_reducible exact arboristlaw01_rise.mono _ _)
      | (with_reducible exact arboristlaw01_shown.mono _)
      | (with_reducible exact tuple_Compare.mono _ _ _)
      | (with_reducible exact tuple_Rising.mono _ _)
      | (with_reducible exact LeO.refl _)
      | (with_reducible exact LeO.none _)
      | (with_reducible refine LeO.ite ?_ ?_)
      | (with_reducible refine LeO.bind ?_ (fun _ => ?_))
      | exact ih0 _ _ _ _ _ _ _
      | exact arboristlaw01_rise.mono _ _
      | exact arboristlaw01_shown.mono _
      | exact tuple_Compare.mono _ _ _
      | exact tuple_Rising.mono _ _
      | exact LeO.none _
      | refine LeO.ite ?_ ?_
      | refine LeO.bind ?_ (fun _ => ?_)
set_option maxHeartbeats 8000000 in
set_option maxRecDepth 100000 in
theorem arboristlaw01_TupleParts.calls (k : Nat) (A0 : Option Addr) (c0 : Nat) (l0 : List Int) (A1 : Option Addr) (c1 : Nat) (l1 : List Int) (r : Bool) (w : World) (hr0 : Kd.C (Kd.int .i64) w A0 l0.length l0) (hc0 : l0.length ≤ c0) (hr1 : Kd.C (Kd.int .i64) w A1 l1.length l1) (hc1 : l1.length ≤ c1) (hT : r = true) (h : arboristlaw01_TupleParts.f k l0 l1 = some r) :
    Calls Try.prog 10 #[.slice A0 l0.length c0, .slice A1 l1.length c1] w fun e w' => e = .returned (.bool r) ∧ Below w.heap.size w w' := by
  have HT_ := Aside0.mk (show r = true from hT)
  clear hT
  have HR0 := Aside0.mk hr0
  have HC0 := Aside0.mk hc0
  clear hr0 hc0
  have HR1 := Aside0.mk hr1
  have HC1 := Aside0.mk hc1
  clear hr1 hc1
  have HB := Aside0.mk (Below.refl w.heap.size w)
  have H : ((arboristlaw01_shown.f k).bind fun t496 => ((arboristlaw01_rise.f k l0).bind fun t497 => ((arboristlaw01_rise.f k l1).bind fun t500 => ((tuple_Unite.f t497 t500).bind fun t503 => ((tuple_Meet.f t497 t500).bind fun t506 => ((tuple_Without.f t497 t500).bind fun t509 => ((tuple_Without.f t500 t497).bind fun t512 => (if (t503.length : Int) = (wrap64 ((wrap64 ((t506.length : Int) + (t509.length : Int))) + (t512.length : Int))) then (if (t497.length : Int) = (wrap64 ((t506.length : Int) + (t509.length : Int))) then ((tuple_Rising.f k t503).bind fun t515 => (if t515 = true then ((tuple_Rising.f k t506).bind fun t516 => (arboristlaw01_TupleParts.j0 k t496 t497 t500 t503 t506 t509 (!t516))) else (arboristlaw01_TupleParts.j0 k t496 t497 t500 t503 t506 t509 true))) else (arboristlaw01_TupleParts.j0 k t496 t497 t500 t503 t506 t509 true)) else (arboristlaw01_TupleParts.j0 k t496 t497 t500 t503 t506 t509 true))))))))) = some r := h
  clear h
  replace H := Option.bind_eq_some_iff.mp H
  obtain ⟨t496, A30, H⟩ := H
  replace H : ((arboristlaw01_rise.f k l0).bind fun t497 => ((arboristlaw01_rise.f k l1).bind fun t500 => ((tuple_Unite.f t497 t500).bind fun t503 => ((tuple_Meet.f t497 t500).bind fun t506 => ((tuple_Without.f t497 t500).bind fun t509 => ((tuple_Without.f t500 t497).bind fun t512 => (if (t503.length : Int) = (wrap64 ((wrap64 ((t506.length : Int) + (t509.length : Int))) + (t512.length : Int))) then (if (t497.length : Int) = (wrap64 ((t506.length : Int) + (t509.length : Int))) then ((tuple_Rising.f k t503).bind fun t515 => (if t515 = true then ((tuple_Rising.f k t506).bind fun t516 => (arboristlaw01_TupleParts.j0 k t496 t497 t500 t503 t506 t509 (!t516))) else (arboristlaw01_TupleParts.j0 k t496 t497 t500 t503 t506 t509 true))) else (arboristlaw01_TupleParts.j0 k t496 t497 t500 t503 t506 t509 true)) else (arboristlaw01_TupleParts.j0 k t496 t497 t500 t503 t506 t509 true)))))))) = some r := H
  have A3 := Aside0.mk A30
  clear A30
  replace H := Option.bind_eq_some_iff.mp H
  obtain ⟨t497, A40, H⟩ := H
  replace H : ((arboristlaw01_rise.f k l1).bind fun t500 => ((tuple_Unite.f t497 t500).bind fun t503 => ((tuple_Meet.f t497 t500).bind fun t506 => ((tuple_Without.f t497 t500).bind fun t509 => ((tuple_Without.f t500 t497).bind fun t512 => (if (t503.length : Int) = (wrap64 ((wrap64 ((t506.length : Int) + (t509.length : Int))) + (t512.length : Int))) then (if (t497.length : Int) = (wrap64 ((t506.length : Int) + (t509.length : Int))) then ((tuple_Rising.f k t503).bind fun t515 => (if t515 = true then ((tuple_Rising.f k t506).bind fun t516 => (arboristlaw01_TupleParts.j0 k t496 t497 t500 t503 t506 t509 (!t516))) else (arboristlaw01_TupleParts.j0 k t496 t497 t500 t503 t506 t509 true))) else (arboristlaw01_TupleParts.j0 k t496 t497 t500 t503 t506 t509 true)) else (arboristlaw01_TupleParts.j0 k t496 t497 t500 t503 t506 t509 true))))))) = some r := H
  have A4 := Aside0.mk A40
  clear A40
  replace H := Option.bind_eq_some_iff.mp H
  obtain ⟨t500, A50, H⟩ := H
  replace H : ((tuple_Unite.f t497 t500).bind fun t503 => ((tuple_Meet.f t497 t500).bind fun t506 => ((tuple_Without.f t497 t500).bind fun t509 => ((tuple_Without.f t500 t497).bind fun t512 => (if (t503.length : Int) = (wrap64 ((wrap64 ((t506.length : Int) + (t509.length : Int))) + (t512.length : Int))) then (if (t497.length : Int) = (wrap64 ((t506.length : Int) + (t509.length : Int))) then ((tuple_Rising.f k t503).bind fun t515 => (if t515 = true then ((tuple_Rising.f k t506).bind fun t516 => (arboristlaw01_TupleParts.j0 k t496 t497 t500 t503 t506 t509 (!t516))) else (arboristlaw01_TupleParts.j0 k t496 t497 t500 t503 t506 t509 true))) else (arboristlaw01_TupleParts.j0 k t496 t497 t500 t503 t506 t509 true)) else (arboristlaw01_TupleParts.j0 k t496 t497 t500 t503 t506 t509 true)))))) = some r := H
  have A5 := Aside0.mk A50
  clear A50
  replace H := Option.bind_eq_some_iff.mp H
  obtain ⟨t503, A60, H⟩ := H
  replace H : ((tuple_Meet.f t497 t500).bind fun t506 => ((tuple_Without.f t497 t500).bind fun t509 => ((tuple_Without.f t500 t497).bind fun t512 => (if (t503.length : Int) = (wrap64 ((wrap64 ((t506.length : Int) + (t509.length : Int))) + (t512.length : Int))) then (if (t497.length : Int) = (wrap64 ((t506.length : Int) + (t509.length : Int))) then ((tuple_Rising.f k t503).bind fun t515 => (if t515 = true then ((tuple_Rising.f k t506).bind fun t516 => (arboristlaw01_TupleParts.j0 k t496 t497 t500 t503 t506 t509 (!t516))) else (arboristlaw01_TupleParts.j0 k t496 t497 t500 t503 t506 t509 true))) else (arboristlaw01_TupleParts.j0 k t496 t497 t500 t503 t506 t509 true)) else (arboristlaw01_TupleParts.j0 k t496 t497 t500 t503 t506 t509 true))))) = some r := H
  have A6 := Aside0.mk A60
  clear A60
  replace H := Option.bind_eq_some_iff.mp H
  obtain ⟨t506, A70, H⟩ := H
  replace H : ((tuple_Without.f t497 t500).bind fun t509 => ((tuple_Without.f t500 t497).bind fun t512 => (if (t503.length : Int) = (wrap64 ((wrap64 ((t506.length : Int) + (t509.length : Int))) + (t512.length : Int))) then (if (t497.length : Int) = (wrap64 ((t506.length : Int) + (t509.length : Int))) then ((tuple_Rising.f k t503).bind fun t515 => (if t515 = true then ((tuple_Rising.f k t506).bind fun t516 => (arboristlaw01_TupleParts.j0 k t496 t497 t500 t503 t506 t509 (!t516))) else (arboristlaw01_TupleParts.j0 k t496 t497 t500 t503 t506 t509 true))) else (arboristlaw01_TupleParts.j0 k t496 t497 t500 t503 t506 t509 true)) else (arboristlaw01_TupleParts.j0 k t496 t497 t500 t503 t506 t509 true)))) = some r := H
  have A7 := Aside0.mk A70
  clear A70
  replace H := Option.bind_eq_some_iff.mp H
  obtain ⟨t509, A80, H⟩ := H
  replace H : ((tuple_Without.f t500 t497).bind fun t512 => (if (t503.length : Int) = (wrap64 ((wrap64 ((t506.length : Int) + (t509.length : Int))) + (t512.length : Int))) then (if (t497.length : Int) = (wrap64 ((t506.length : Int) + (t509.length : Int))) then ((tuple_Rising.f k t503).bind fun t515 => (if t515 = true then ((tuple_Rising.f k t506).bind fun t516 => (arboristlaw01_TupleParts.j0 k t496 t497 t500 t503 t506 t509 (!t516))) else (arboristlaw01_TupleParts.j0 k t496 t497 t500 t503 t506 t509 true))) else (arboristlaw01_TupleParts.j0 k t496 t497 t500 t503 t506 t509 true)) else (arboristlaw01_TupleParts.j0 k t496 t497 t500 t503 t506 t509 true))) = some r := H
  have A8 := Aside0.mk A80
  clear A80
  replace H := Option.bind_eq_some_iff.mp H
  obtain ⟨t512, A90, H⟩ := H
  replace H : (if (t503.length : Int) = (wrap64 ((wrap64 ((t506.length : Int) + (t509.length : Int))) + (t512.length : Int))) then (if (t497.length : Int) = (wrap64 ((t506.length : Int) + (t509.length : Int))) then ((tuple_Rising.f k t503).bind fun t515 => (if t515 = true then ((tuple_Rising.f k t506).bind fun t516 => (arboristlaw01_TupleParts.j0 k t496 t497 t500 t503 t506 t509 (!t516))) else (arboristlaw01_TupleParts.j0 k t496 t497 t500 t503 t506 t509 true))) else (arboristlaw01_TupleParts.j0 k t496 t497 t500 t503 t506 t509 true)) else (arboristlaw01_TupleParts.j0 k t496 t497 t500 t503 t506 t509 true)) = some r := H
  have A9 := Aside0.mk A90
  clear A90
  have HC10 := Aside0.mk H
  clear H
  go_enter Try.func10, Try.ntmps10
  go_upto_region 8 with (first | ((with_reducible refine gate_callee (f := 12) rfl ?_); refine goesL_ (some 12) rfl rfl Try.func12 (by kernel_rfl) rfl #[] rfl (by (try simp only [List.map_toArray, List.map_cons, List.map_nil]); first | done | rfl | (simp only [List.length_drop, List.length_take]; rfl)) ?_; (with_reducible refine (arboristlaw01_shown.calls k  t496 _ A3.out).mono ?_); rintro e w11 ⟨rfl, hb⟩; refine ⟨_, rfl, ?_⟩; have n0_ := Aside0.mk (below_step (by repeat (first | (with_reducible first | exact HB.out | apply below_alloc | apply pw_below_drewN | apply below_drew1) | exact HB.out)) hb); clear HB; have HB := n0_; clear n0_; (try clear hb); (try clear hb2); (try clear hk); (try clear hi)) | ((with_reducible refine gate_callee (f := 23) rfl ?_); refine goesL_ (some 14) rfl rfl Try.func23 (by kernel_rfl) rfl #[.slice A0 l0.length c0] rfl (by (try simp only [List.map_toArray, List.map_cons, List.map_nil]); first | done | rfl | (simp only [List.length_drop, List.length_take]; rfl)) ?_; (with_reducible refine (arboristlaw01_rise.calls k _ _ l0 t497 _ ?side1 ?side2 A4.out).mono ?_); (case side1 => repeat (first | exact (Kd.C_below HR0.out HB.out) | (with_reducible refine Kd.C_alloc ?_ _) | (with_reducible refine Kd.C_drewN ?_ _) | (with_reducible refine Kd.C_drew ?_))); (case side2 => exact HC0.out); rintro e w12 ⟨v498, rfl, ho0, hb⟩; refine ⟨_, rfl, ?_⟩; have n0_ := Aside0.mk (Kd.R_lower ho0 (below_size (by repeat (first | (with_reducible first | exact HB.out | apply below_alloc | apply pw_below_drewN | apply below_drew1) | exact HB.out)))); have n1_ := Aside0.mk (below_step (by repeat (first | (with_reducible first | exact HB.out | apply below_alloc | apply pw_below_drewN | apply below_drew1) | exact HB.out)) hb); clear HB; have HO499 := n0_; have HB := n1_; clear n0_ n1_; (try clear hb); (try clear hb2); (try clear hk); (try clear hi); (try clear ho0)) | ((with_reducible refine gate_callee (f := 23) rfl ?_); refine goesL_ (some 16) rfl rfl Try.func23 (by kernel_rfl) rfl #[.slice A1 l1.length c1] rfl (by (try simp only [List.map_toArray, List.map_cons, List.map_nil]); first | done | rfl | (simp only [List.length_drop, List.length_take]; rfl)) ?_; (with_reducible refine (arboristlaw01_rise.calls k _ _ l1 t500 _ ?side1 ?side2 A5.out).mono ?_); (case side1 => repeat (first | exact (Kd.C_below HR1.out HB.out) | (with_reducible refine Kd.C_alloc ?_ _) | (with_reducible refine Kd.C_drewN ?_ _) | (with_reducible refine Kd.C_drew ?_))); (case side2 => exact HC1.out); rintro e w13 ⟨v501, rfl, ho0, hb⟩; refine ⟨_, rfl, ?_⟩; have n0_ := Aside0.mk (Kd.R_elder' (by (with_reducible repeat (first | apply Kd.R_alloc | apply Kd.R_drewN | apply Kd.R_drew)); exact HO499.out) (Kd.R_base ho0) hb); have n1_ := Aside0.mk (Kd.R_lower (Kd.R_new' ho0 (Kd.R_lt (by (with_reducible repeat (first | apply Kd.R_alloc | apply Kd.R_drewN | apply Kd.R_drew)); exact HO499.out))) (below_size (by repeat (first | (with_reducible first | exact HB.out | apply below_alloc | apply pw_below_drewN | apply below_drew1) | exact HB.out)))); have n2_ := Aside0.mk (below_step (by repeat (first | (with_reducible first | exact HB.out | apply below_alloc | apply pw_below_drewN | apply below_drew1) | exact HB.out)) hb); clear HO499; clear HB; have HO499 := n0_; have HO502 := n1_; have HB := n2_; clear n0_ n1_ n2_; (try clear hb); (try clear hb2); (try clear hk); (try clear hi); (try clear ho0); obtain ⟨Ao14, co14, eo14⟩ := Kd.R_slice HO499.out; subst eo14; obtain ⟨Ao15, co15, eo15⟩ := Kd.R_slice HO502.out; subst eo15) | ((with_reducible refine gate_callee (f := 24) rfl ?_); refine goesL_ (some 19) rfl rfl Try.func24 (by kernel_rfl) rfl #[.slice Ao14 t497.length co14, .slice Ao15 t500.length co15] rfl (by (try simp only [List.map_toArray, List.map_cons, List.map_nil]); first | done | rfl | (simp only [List.length_drop, List.length_take]; rfl)) ?_; (with_reducible refine (tuple_Unite.calls _ _ t497 _ _ t500 t503 _ ?side1 ?side2 ?side3 ?side4 A6.out).mono ?_); (case side1 => repeat (first | exact (Kd.R_reads' HO499.out).2.2 | (with_reducible refine Kd.C_alloc ?_ _) | (with_reducible refine Kd.C_drewN ?_ _) | (with_reducible refine Kd.C_drew ?_))); (case side2 => exact (Kd.R_reads' HO499.out).2.1); (case side3 => repeat (first | exact (Kd.R_reads' HO502.out).2.2 | (with_reducible refine Kd.C_alloc ?_ _) | (with_reducible refine Kd.C_drewN ?_ _) | (with_reducible refine Kd.C_drew ?_))); (case side4 => exact (Kd.R_reads' HO502.out).2.1); rintro e w16 ⟨v504, rfl, ho0, hb⟩; refine ⟨_, rfl, ?_⟩; have n0_ := Aside0.mk (Kd.R_elder' (by (with_reducible repeat (first | apply Kd.R_alloc | apply Kd.R_drewN | apply Kd.R_drew)); exact HO499.out) (Kd.R_base ho0) hb); have n1_ := Aside0.mk (Kd.R_elder' (by (with_reducible repeat (first | apply Kd.R_alloc | apply Kd.R_drewN | apply Kd.R_drew)); exact HO502.out) (Kd.R_base ho0) hb); have n2_ := Aside0.mk (Kd.R_lower (Kd.R_new' (Kd.R_new' ho0 (Kd.R_lt (by (with_reducible repeat (first | apply Kd.R_alloc | apply Kd.R_drewN | apply Kd.R_drew)); exact HO499.out))) (Kd.R_lt (by (with_reducible repeat (first | apply Kd.R_alloc | apply Kd.R_drewN | apply Kd.R_drew)); exact HO502.out))) (below_size (by repeat (first | (with_reducible first | exact HB.out | apply below_alloc | apply pw_below_drewN | apply below_drew1) | exact HB.out)))); have n3_ := Aside0.mk (below_step (by repeat (first | (with_reducible first | exact HB.out | apply below_alloc | apply pw_below_drewN | apply below_drew1) | exact HB.out)) hb); clear HO499; clear HO502; clear HB; have HO499 := n0_; have HO502 := n1_; have HO505 := n2_; have HB := n3_; clear n0_ n1_ n2_ n3_; (try clear hb); (try clear hb2); (try clear hk); (try clear hi); (try clear ho0)) | ((with_reducible refine gate_callee (f := 26) rfl ?_); refine goesL_ (some 22) rfl rfl Try.func26 (by kernel_rfl) rfl #[.slice Ao14 t497.length co14, .slice Ao15 t500.length co15] rfl (by (try simp only [List.map_toArray, List.map_cons, List.map_nil]); first | done | rfl | (simp only [List.length_drop, List.length_take]; rfl)) ?_; (with_reducible refine (tuple_Meet.calls _ _ t497 _ _ t500 t506 _ ?side1 ?side2 ?side3 ?side4 A7.out).mono ?_); (case side1 => repeat (first | exact (Kd.R_reads' HO499.out).2.2 | (with_reducible refine Kd.C_alloc ?_ _) | (with_reducible refine Kd.C_drewN ?_ _) | (with_reducible refine Kd.C_drew ?_))); (case side2 => exact (Kd.R_reads' HO499.out).2.1); (case side3 => repeat (first | exact (Kd.R_reads' HO502.out).2.2 | (with_reducible refine Kd.C_alloc ?_ _) | (with_reducible refine Kd.C_drewN ?_ _) | (with_reducible refine Kd.C_drew ?_))); (case side4 => exact (Kd.R_reads' HO502.out).2.1); rintro e w17 ⟨v507, rfl, ho0, hb⟩; refine ⟨_, rfl, ?_⟩; have n0_ := Aside0.mk (Kd.R_elder' (by (with_reducible repeat (first | apply Kd.R_alloc | apply Kd.R_drewN | apply Kd.R_drew)); exact HO499.out) (Kd.R_base ho0) hb); have n1_ := Aside0.mk (Kd.R_elder' (by (with_reducible repeat (first | apply Kd.R_alloc | apply Kd.R_drewN | apply Kd.R_drew)); exact HO502.out) (Kd.R_base ho0) hb); have n2_ := Aside0.mk (Kd.R_elder' (by (with_reducible repeat (first | apply Kd.R_alloc | apply Kd.R_drewN | apply Kd.R_drew)); exact HO505.out) (Kd.R_base ho0) hb); have n3_ := Aside0.mk (Kd.R_lower (Kd.R_new' (Kd.R_new' (Kd.R_new' ho0 (Kd.R_lt (by (with_reducible repeat (first | apply Kd.R_alloc | apply Kd.R_drewN | apply Kd.R_drew)); exact HO499.out))) (Kd.R_lt (by (with_reducible repeat (first | apply Kd.R_alloc | apply Kd.R_drewN | apply Kd.R_drew)); exact HO502.out))) (Kd.R_lt (by (with_reducible repeat (first | apply Kd.R_alloc | apply Kd.R_drewN | apply Kd.R_drew)); exact HO505.out))) (below_size (by repeat (first | (with_reducible first | exact HB.out | apply below_alloc | apply pw_below_drewN | apply below_drew1) | exact HB.out)))); have n4_ := Aside0.mk (below_step (by repeat (first | (with_reducible first | exact HB.out | apply below_alloc | apply pw_below_drewN | apply below_drew1) | exact HB.out)) hb); clear HO499; clear HO502; clear HO505; clear HB; have HO499 := n0_; have HO502 := n1_; have HO505 := n2_; have HO508 := n3_; have HB := n4_; clear n0_ n1_ n2_ n3_ n4_; (try clear hb); (try clear hb2); (try clear hk); (try clear hi); (try clear ho0)) | ((with_reducible refine gate_callee (f := 28) rfl ?_); refine goesL_ (some 25) rfl rfl Try.func28 (by kernel_rfl) rfl #[.slice Ao14 t497.length co14, .slice Ao15 t500.length co15] rfl (by (try simp only [List.map_toArray, List.map_cons, List.map_nil]); first | done | rfl | (simp only [List.length_drop, List.length_take]; rfl)) ?_; (with_reducible refine (tuple_Without.calls _ _ t497 _ _ t500 t509 _ ?side1 ?side2 ?side3 ?side4 A8.out).mono ?_); (case side1 => repeat (first | exact (Kd.R_reads' HO499.out).2.2 | (with_reducible refine Kd.C_alloc ?_ _) | (with_reducible refine Kd.C_drewN ?_ _) | (with_reducible refine Kd.C_drew ?_))); (case side2 => exact (Kd.R_reads' HO499.out).2.1); (case side3 => repeat (first | exact (Kd.R_reads' HO502.out).2.2 | (with_reducible refine Kd.C_alloc ?_ _) | (with_reducible refine Kd.C_drewN ?_ _) | (with_reducible refine Kd.C_drew ?_))); (case side4 => exact (Kd.R_reads' HO502.out).2.1); rintro e w18 ⟨v510, rfl, ho0, hb⟩; refine ⟨_, rfl, ?_⟩; have n0_ := Aside0.mk (Kd.R_elder' (by (with_reducible repeat (first | apply Kd.R_alloc | apply Kd.R_drewN | apply Kd.R_drew)); exact HO499.out) (Kd.R_base ho0) hb); have n1_ := Aside0.mk (Kd.R_elder' (by (with_reducible repeat (first | apply Kd.R_alloc | apply Kd.R_drewN | apply Kd.R_drew)); exact HO502.out) (Kd.R_base ho0) hb); have n2_ := Aside0.mk (Kd.R_elder' (by (with_reducible repeat (first | apply Kd.R_alloc | apply Kd.R_drewN | apply Kd.R_drew)); exact HO505.out) (Kd.R_base ho0) hb); have n3_ := Aside0.mk (Kd.R_elder' (by (with_reducible repeat (first | apply Kd.R_alloc | apply Kd.R_drewN | apply Kd.R_drew)); exact HO508.out) (Kd.R_base ho0) hb); have n4_ := Aside0.mk (Kd.R_lower (Kd.R_new' (Kd.R_new' (Kd.R_new' (Kd.R_new' ho0 (Kd.R_lt (by (with_reducible repeat (first | apply Kd.R_alloc | apply Kd.R_drewN | apply Kd.R_drew)); exact HO499.out))) (Kd.R_lt (by (with_reducible repeat (first | apply Kd.R_alloc | apply Kd.R_drewN | apply Kd.R_drew)); exact HO502.out))) (Kd.R_lt (by (with_reducible repeat (first | apply Kd.R_alloc | apply Kd.R_drewN | apply Kd.R_drew)); exact HO505.out))) (Kd.R_lt (by (with_reducible repeat (first | apply Kd.R_alloc | apply Kd.R_drewN | apply Kd.R_drew)); exact HO508.out))) (below_size (by repeat (first | (with_reducible first | exact HB.out | apply below_alloc | apply pw_below_drewN | apply below_drew1) | exact HB.out)))); have n5_ := Aside0.mk (below_step (by repeat (first | (with_reducible first | exact HB.out | apply below_alloc | apply pw_below_drewN | apply below_drew1) | exact HB.out)) hb); clear HO499; clear HO502; clear HO505; clear HO508; clear HB; have HO499 := n0_; have HO502 := n1_; have HO505 := n2_; have HO508 := n3_; have HO511 := n4_; have HB := n5_; clear n0_ n1_ n2_ n3_ n4_ n5_; (try clear hb); (try clear hb2); (try clear hk); (try clear hi); (try clear ho0)) | ((with_reducible refine gate_callee (f := 28) rfl ?_); refine goesL_ (some 28) rfl rfl Try.func28 (by kernel_rfl) rfl #[.slice Ao15 t500.length co15, .slice Ao14 t497.length co14] rfl (by (try simp only [List.map_toArray, List.map_cons, List.map_nil]); first | done | rfl | (simp only [List.length_drop, List.length_take]; rfl)) ?_; (with_reducible refine (tuple_Without.calls _ _ t500 _ _ t497 t512 _ ?side1 ?side2 ?side3 ?side4 A9.out).mono ?_); (case side1 => repeat (first | exact (Kd.R_reads' HO502.out).2.2 | (with_reducible refine Kd.C_alloc ?_ _) | (with_reducible refine Kd.C_drewN ?_ _) | (with_reducible refine Kd.C_drew ?_))); (case side2 => exact (Kd.R_reads' HO502.out).2.1); (case side3 => repeat (first | exact (Kd.R_reads' HO499.out).2.2 | (with_reducible refine Kd.C_alloc ?_ _) | (with_reducible refine Kd.C_drewN ?_ _) | (with_reducible refine Kd.C_drew ?_))); (case side4 => exact (Kd.R_reads' HO499.out).2.1); rintro e w19 ⟨v513, rfl, ho0, hb⟩; refine ⟨_, rfl, ?_⟩; have n0_ := Aside0.mk (Kd.R_elder' (by (with_reducible repeat (first | apply Kd.R_alloc | apply Kd.R_drewN | apply Kd.R_drew)); exact HO499.out) (Kd.R_base ho0) hb); have n1_ := Aside0.mk (Kd.R_elder' (by (with_reducible repeat (first | apply Kd.R_alloc | apply Kd.R_drewN | apply Kd.R_drew)); exact HO502.out) (Kd.R_base ho0) hb); have n2_ := Aside0.mk (Kd.R_elder' (by (with_reducible repeat (first | apply Kd.R_alloc | apply Kd.R_drewN | apply Kd.R_drew)); exact HO505.out) (Kd.R_base ho0) hb); have n3_ := Aside0.mk (Kd.R_elder' (by (with_reducible repeat (first | apply Kd.R_alloc | apply Kd.R_drewN | apply Kd.R_drew)); exact HO508.out) (Kd.R_base ho0) hb); have n4_ := Aside0.mk (Kd.R_elder' (by (with_reducible repeat (first | apply Kd.R_alloc | apply Kd.R_drewN | apply Kd.R_drew)); exact HO511.out) (Kd.R_base ho0) hb); have n5_ := Aside0.mk (Kd.R_lower (Kd.R_new' (Kd.R_new' (Kd.R_new' (Kd.R_new' (Kd.R_new' ho0 (Kd.R_lt (by (with_reducible repeat (first | apply Kd.R_alloc | apply Kd.R_drewN | apply Kd.R_drew)); exact HO499.out))) (Kd.R_lt (by (with_reducible repeat (first | apply Kd.R_alloc | apply Kd.R_drewN | apply Kd.R_drew)); exact HO502.out))) (Kd.R_lt (by (with_reducible repeat (first | apply Kd.R_alloc | apply Kd.R_drewN | apply Kd.R_drew)); exact HO505.out))) (Kd.R_lt (by (with_reducible repeat (first | apply Kd.R_alloc | apply Kd.R_drewN | apply Kd.R_drew)); exact HO508.out))) (Kd.R_lt (by (with_reducible repeat (first | apply Kd.R_alloc | apply Kd.R_drewN | apply Kd.R_drew)); exact HO511.out))) (below_size (by repeat (first | (with_reducible first | exact HB.out | apply below_alloc | apply pw_below_drewN | apply below_drew1) | exact HB.out)))); have n6_ := Aside0.mk (below_step (by repeat (first | (with_reducible first | exact HB.out | apply below_alloc | apply pw_below_drewN | apply below_drew1) | exact HB.out)) hb); clear HO499; clear HO502; clear HO505; clear HO508; clear HO511; clear HB; have HO499 := n0_; have HO502 := n1_; have HO505 := n2_; have HO508 := n3_; have HO511 := n4_; have HO514 := n5_; have HB := n6_; clear n0_ n1_ n2_ n3_ n4_ n5_ n6_; (try clear hb); (try clear hb2); (try clear hk); (try clear hi); (try clear ho0)))
  (try simp only [Act.put, List.setIfInBounds_toArray, List.set_cons_zero, List.set_cons_succ])
  go_cut [59] (fun v59 wc => ∃ (kq : Nat) (x59_9 : Bool), v59 = .bool x59_9 ∧ Aside0 (arboristlaw01_TupleParts.j0 kq t496 t497 t500 t503 t506 t509 x59_9 = some r) ∧ Aside0 (kq ≤ k) ∧ Aside0 (Kd.R (Kd.int .i64) 3 wc w.heap.size (fun k_ => some k_ ≠ ((.slice Ao15 t500.length co15) : Value).ownBlock ∧ some k_ ≠ (v504 : Value).ownBlock ∧ some k_ ≠ (v507 : Value).ownBlock ∧ some k_ ≠ (v510 : Value).ownBlock) (.slice Ao14 t497.length co14) t497) ∧ Aside0 (Kd.R (Kd.int .i64) 3 wc w.heap.size (fun k_ => some k_ ≠ ((.slice Ao14 t497.length co14) : Value).ownBlock ∧ some k_ ≠ (v504 : Value).ownBlock ∧ some k_ ≠ (v507 : Value).ownBlock ∧ some k_ ≠ (v510 : Value).ownBlock) (.slice Ao15 t500.length co15) t500) ∧ Aside0 (Kd.R (Kd.int .i64) 3 wc w.heap.size (fun k_ => some k_ ≠ ((.slice Ao14 t497.length co14) : Value).ownBlock ∧ some k_ ≠ ((.slice Ao15 t500.length co15) : Value).ownBlock ∧ some k_ ≠ (v507 : Value).ownBlock ∧ some k_ ≠ (v510 : Value).ownBlock) v504 t503) ∧ Aside0 (Kd.R (Kd.int .i64) 3 wc w.heap.size (fun k_ => some k_ ≠ ((.slice Ao14 t497.length co14) : Value).ownBlock ∧ some k_ ≠ ((.slice Ao15 t500.length co15) : Value).ownBlock ∧ some k_ ≠ (v504 : Value).ownBlock ∧ some k_ ≠ (v510 : Value).ownBlock) v507 t506) ∧ Aside0 (Kd.R (Kd.int .i64) 3 wc w.heap.size (fun k_ => some k_ ≠ ((.slice Ao14 t497.length co14) : Value).ownBlock ∧ some k_ ≠ ((.slice Ao15 t500.length co15) : Value).ownBlock ∧ some k_ ≠ (v504 : Value).ownBlock ∧ some k_ ≠ (v507 : Value).ownBlock) v510 t509) ∧ Aside0 (Below w.heap.size w wc))
  case first =>
    have H := HC10.out
    clear HC10
    by_cases c20 : (t503.length : Int) = (wrap64 ((wrap64 ((t506.length : Int) + (t509.length : Int))) + (t512.length : Int)))
    · rw [if_pos c20] at H
      have c20b0 : ((t503.length : Int) == (wrap64 ((wrap64 ((t506.length : Int) + (t509.length : Int))) + (t512.length : Int)))) = true := beq_iff_eq.mpr c20
      have c20b1 : ((t503.length : Int) != (wrap64 ((wrap64 ((t506.length : Int) + (t509.length : Int))) + (t512.length : Int)))) = false := bne_eq_false_iff_eq.mpr c20
      clear c20
      (first | rw [c20b0] | (simp only [i64_w, i32_w]; rw [c20b0]) | skip)
      by_cases c21 : (t497.length : Int) = (wrap64 ((t506.length : Int) + (t509.length : Int)))
      · rw [if_pos c21] at H
        have c21b0 : ((t497.length : Int) == (wrap64 ((t506.length : Int) + (t509.length : Int)))) = true := beq_iff_eq.mpr c21
        have c21b1 : ((t497.length : Int) != (wrap64 ((t506.length : Int) + (t509.length : Int)))) = false := bne_eq_false_iff_eq.mpr c21
        clear c21
        replace H := Option.bind_eq_some_iff.mp H
        obtain ⟨t515, A220, H⟩ := H
        replace H : (if t515 = true then ((tuple_Rising.f k t506).bind fun t516 => (arboristlaw01_TupleParts.j0 k t496 t497 t500 t503 t506 t509 (!t516))) else (arboristlaw01_TupleParts.j0 k t496 t497 t500 t503 t506 t509 true)) = some r := H
        have A22 := Aside0.mk A220
        clear A220
        by_cases c23 : t515 = true
        · subst c23
          have H1 : ((tuple_Rising.f k t506).bind fun t516 => (arboristlaw01_TupleParts.j0 k t496 t497 t500 t503 t506 t509 (!t516))) = some r := by rw [if_pos rfl] at H; exact H
          clear H
          have H := H1
          clear H1
          replace H := Option.bind_eq_some_iff.mp H
          obtain ⟨t516, A240, H⟩ := H
          replace H : (arboristlaw01_TupleParts.j0 k t496 t497 t500 t503 t506 t509 (!t516)) = some r := H
          have A24 := Aside0.mk A240
          clear A240
          have H' := Aside0.mk H
          clear H
          obtain ⟨Ao25, co25, eo25⟩ := Kd.R_slice HO505.out
          subst eo25
          obtain ⟨Ao26, co26, eo26⟩ := Kd.R_slice HO508.out
          subst eo26
          obtain ⟨Ao27, co27, eo27⟩ := Kd.R_slice HO511.out
          subst eo27
          obtain ⟨Ao28, co28, eo28⟩ := Kd.R_slice HO514.out
          subst eo28
          go_wp2_with (first | (go_at_call 32; (with_reducible refine (tuple_Rising.calls k _ _ t503 true _ ?side1 ?side2 A22.out).mono ?_); (case side1 => repeat (first | exact (Kd.R_reads' HO505.out).2.2 | (with_reducible refine Kd.C_alloc ?_ _) | (with_reducible refine Kd.C_drewN ?_ _) | (with_reducible refine Kd.C_drew ?_))); (case side2 => exact (Kd.R_reads' HO505.out).2.1); rintro e w' ⟨rfl, ⟨nd, rfl⟩⟩) | (go_at_call 32; (with_reducible refine (tuple_Rising.calls k _ _ t506 t516 _ ?side1 ?side2 A24.out).mono ?_); (case side1 => repeat (first | exact (Kd.R_reads' HO508.out).2.2 | (with_reducible refine Kd.C_alloc ?_ _) | (with_reducible refine Kd.C_drewN ?_ _) | (with_reducible refine Kd.C_drew ?_))); (case side2 => exact (Kd.R_reads' HO508.out).2.1); rintro e w' ⟨rfl, ⟨nd, rfl⟩⟩))
          go_meet
          case rel => exact ⟨_, (!t516), (by first | rfl | (simp; done) | (simp [*]; done)), H', ⟨by first | omega | exact Nat.le_refl _⟩, ⟨by (with_reducible repeat (first | apply Kd.R_alloc | apply Kd.R_drewN | apply Kd.R_drew)); exact Kd.R_mono HO499.out (fun _ hk => ⟨hk.1.1.1.1.2, ⟨hk.1.1.1.2, ⟨hk.1.1.2, hk.1.2⟩⟩⟩)⟩, ⟨by (with_reducible repeat (first | apply Kd.R_alloc | apply Kd.R_drewN | apply Kd.R_drew)); exact Kd.R_mono HO502.out (fun _ hk => ⟨hk.1.1.1.1.2, ⟨hk.1.1.1.2, ⟨hk.1.1.2, hk.1.2⟩⟩⟩)⟩, ⟨by (with_reducible repeat (first | apply Kd.R_alloc | apply Kd.R_drewN | apply Kd.R_drew)); exact Kd.R_mono HO505.out (fun _ hk => ⟨hk.1.1.1.1.2, ⟨hk.1.1.1.2, ⟨hk.1.1.2, hk.1.2⟩⟩⟩)⟩, ⟨by (with_reducible repeat (first | apply Kd.R_alloc | apply Kd.R_drewN | apply Kd.R_drew)); exact Kd.R_mono HO508.out (fun _ hk => ⟨hk.1.1.1.1.2, ⟨hk.1.1.1.2, ⟨hk.1.1.2, hk.1.2⟩⟩⟩)⟩, ⟨by (with_reducible repeat (first | apply Kd.R_alloc | apply Kd.R_drewN | apply Kd.R_drew)); exact Kd.R_mono HO511.out (fun _ hk => ⟨hk.1.1.1.1.2, ⟨hk.1.1.1.2, ⟨hk.1.1.2, hk.1.2⟩⟩⟩)⟩, ⟨by repeat (first | (with_reducible first | exact HB.out | apply below_alloc | apply pw_below_drewN | apply below_drew1) | exact HB.out)⟩⟩
        · replace c23 := Bool.eq_false_iff.mpr c23
          subst c23
          have H1 : (arboristlaw01_TupleParts.j0 k t496 t497 t500 t503 t506 t509 true) = some r := by rw [if_neg (show ¬ (false = true) by decide)] at H; exact H
          clear H
          have H := H1
          clear H1
          have H' := Aside0.mk H
          clear H
          obtain ⟨Ao29, co29, eo29⟩ := Kd.R_slice HO505.out
          subst eo29
          obtain ⟨Ao30, co30, eo30⟩ := Kd.R_slice HO508.out
          subst eo30
          obtain ⟨Ao31, co31, eo31⟩ := Kd.R_slice HO511.out
          subst eo31
          obtain ⟨Ao32, co32, eo32⟩ := Kd.R_slice HO514.out
          subst eo32
          go_wp2_with (first | (go_at_call 32; (with_reducible refine (tuple_Rising.calls k _ _ t503 false _ ?side1 ?side2 A22.out).mono ?_); (case side1 => repeat (first | exact (Kd.R_reads' HO505.out).2.2 | (with_reducible refine Kd.C_alloc ?_ _) | (with_reducible refine Kd.C_drewN ?_ _) | (with_reducible refine Kd.C_drew ?_))); (case side2 => exact (Kd.R_reads' HO505.out).2.1); rintro e w' ⟨rfl, ⟨nd, rfl⟩⟩))
          go_meet
          case rel => exact ⟨_, (true), (by first | rfl | (simp; done) | (simp [*]; done)), H', ⟨by first | omega | exact Nat.le_refl _⟩, ⟨by (with_reducible repeat (first | apply Kd.R_alloc | apply Kd.R_drewN | apply Kd.R_drew)); exact Kd.R_mono HO499.out (fun _ hk => ⟨hk.1.1.1.1.2, ⟨hk.1.1.1.2, ⟨hk.1.1.2, hk.1.2⟩⟩⟩)⟩, ⟨by (with_reducible repeat (first | apply Kd.R_alloc | apply Kd.R_drewN | apply Kd.R_drew)); exact Kd.R_mono HO502.out (fun _ hk => ⟨hk.1.1.1.1.2, ⟨hk.1.1.1.2, ⟨hk.1.1.2, hk.1.2⟩⟩⟩)⟩, ⟨by (with_reducible repeat (first | apply Kd.R_alloc | apply Kd.R_drewN | apply Kd.R_drew)); exact Kd.R_mono HO505.out (fun _ hk => ⟨hk.1.1.1.1.2, ⟨hk.1.1.1.2, ⟨hk.1.1.2, hk.1.2⟩⟩⟩)⟩, ⟨by (with_reducible repeat (first | apply Kd.R_alloc | apply Kd.R_drewN | apply Kd.R_drew)); exact Kd.R_mono HO508.out (fun _ hk => ⟨hk.1.1.1.1.2, ⟨hk.1.1.1.2, ⟨hk.1.1.2, hk.1.2⟩⟩⟩)⟩, ⟨by (with_reducible repeat (first | apply Kd.R_alloc | apply Kd.R_drewN | apply Kd.R_drew)); exact Kd.R_mono HO511.out (fun _ hk => ⟨hk.1.1.1.1.2, ⟨hk.1.1.1.2, ⟨hk.1.1.2, hk.1.2⟩⟩⟩)⟩, ⟨by repeat (first | (with_reducible first | exact HB.out | apply below_alloc | apply pw_below_drewN | apply below_drew1) | exact HB.out)⟩⟩
      · rw [if_neg c21] at H
        have c21b0 : ((t497.length : Int) == (wrap64 ((t506.length : Int) + (t509.length : Int)))) = false := beq_eq_false_iff_ne.mpr c21
        have c21b1 : ((t497.length : Int) != (wrap64 ((t506.length : Int) + (t509.length : Int)))) = true := bne_iff_ne.mpr c21
        have H' := Aside0.mk H
        clear H
        obtain ⟨Ao33, co33, eo33⟩ := Kd.R_slice HO505.out
        subst eo33
        obtain ⟨Ao34, co34, eo34⟩ := Kd.R_slice HO508.out
        subst eo34
        obtain ⟨Ao35, co35, eo35⟩ := Kd.R_slice HO511.out
        subst eo35
        obtain ⟨Ao36, co36, eo36⟩ := Kd.R_slice HO514.out
        subst eo36
        go_wp2
        go_meet
        case rel => exact ⟨_, (true), (by first | rfl | (simp; done) | (simp [*]; done)), H', ⟨by first | omega | exact Nat.le_refl _⟩, ⟨by (with_reducible repeat (first | apply Kd.R_alloc | apply Kd.R_drewN | apply Kd.R_drew)); exact Kd.R_mono HO499.out (fun _ hk => ⟨hk.1.1.1.1.2, ⟨hk.1.1.1.2, ⟨hk.1.1.2, hk.1.2⟩⟩⟩)⟩, ⟨by (with_reducible repeat (first | apply Kd.R_alloc | apply Kd.R_drewN | apply Kd.R_drew)); exact Kd.R_mono HO502.out (fun _ hk => ⟨hk.1.1.1.1.2, ⟨hk.1.1.1.2, ⟨hk.1.1.2, hk.1.2⟩⟩⟩)⟩, ⟨by (with_reducible repeat (first | apply Kd.R_alloc | apply Kd.R_drewN | apply Kd.R_drew)); exact Kd.R_mono HO505.out (fun _ hk => ⟨hk.1.1.1.1.2, ⟨hk.1.1.1.2, ⟨hk.1.1.2, hk.1.2⟩⟩⟩)⟩, ⟨by (with_reducible repeat (first | apply Kd.R_alloc | apply Kd.R_drewN | apply Kd.R_drew)); exact Kd.R_mono HO508.out (fun _ hk => ⟨hk.1.1.1.1.2, ⟨hk.1.1.1.2, ⟨hk.1.1.2, hk.1.2⟩⟩⟩)⟩, ⟨by (with_reducible repeat (first | apply Kd.R_alloc | apply Kd.R_drewN | apply Kd.R_drew)); exact Kd.R_mono HO511.out (fun _ hk => ⟨hk.1.1.1.1.2, ⟨hk.1.1.1.2, ⟨hk.1.1.2, hk.1.2⟩⟩⟩)⟩, ⟨by repeat (first | (with_reducible first | exact HB.out | apply below_alloc | apply pw_below_drewN | apply below_drew1) | exact HB.out)⟩⟩
    · rw [if_neg c20] at H
      have c20b0 : ((t503.length : Int) == (wrap64 ((wrap64 ((t506.length : Int) + (t509.length : Int))) + (t512.length : Int)))) = false := beq_eq_false_iff_ne.mpr c20
      have c20b1 : ((t503.length : Int) != (wrap64 ((wrap64 ((t506.length : Int) + (t509.length : Int))) + (t512.length : Int)))) = true := bne_iff_ne.mpr c20
      (first | rw [c20b0] | (simp only [i64_w, i32_w]; rw [c20b0]) | skip)
      have H' := Aside0.mk H
      clear H
      obtain ⟨Ao37, co37, eo37⟩ := Kd.R_slice HO505.out
      subst eo37
      obtain ⟨Ao38, co38, eo38⟩ := Kd.R_slice HO508.out
      subst eo38
      obtain ⟨Ao39, co39, eo39⟩ := Kd.R_slice HO511.out
      subst eo39
      obtain ⟨Ao40, co40, eo40⟩ := Kd.R_slice HO514.out
      subst eo40
      go_wp2
      go_meet
      case rel => exact ⟨_, (true), (by first | rfl | (simp; done) | (simp [*]; done)), H', ⟨by first | omega | exact Nat.le_refl _⟩, ⟨by (with_reducible repeat (first | apply Kd.R_alloc | apply Kd.R_drewN | apply Kd.R_drew)); exact Kd.R_mono HO499.out (fun _ hk => ⟨hk.1.1.1.1.2, ⟨hk.1.1.1.2, ⟨hk.1.1.2, hk.1.2⟩⟩⟩)⟩, ⟨by (with_reducible repeat (first | apply Kd.R_alloc | apply Kd.R_drewN | apply Kd.R_drew)); exact Kd.R_mono HO502.out (fun _ hk => ⟨hk.1.1.1.1.2, ⟨hk.1.1.1.2, ⟨hk.1.1.2, hk.1.2⟩⟩⟩)⟩, ⟨by (with_reducible repeat (first | apply Kd.R_alloc | apply Kd.R_drewN | apply Kd.R_drew)); exact Kd.R_mono HO505.out (fun _ hk => ⟨hk.1.1.1.1.2, ⟨hk.1.1.1.2, ⟨hk.1.1.2, hk.1.2⟩⟩⟩)⟩, ⟨by (with_reducible repeat (first | apply Kd.R_alloc | apply Kd.R_drewN | apply Kd.R_drew)); exact Kd.R_mono HO508.out (fun _ hk => ⟨hk.1.1.1.1.2, ⟨hk.1.1.1.2, ⟨hk.1.1.2, hk.1.2⟩⟩⟩)⟩, ⟨by (with_reducible repeat (first | apply Kd.R_alloc | apply Kd.R_drewN | apply Kd.R_drew)); exact Kd.R_mono HO511.out (fun _ hk => ⟨hk.1.1.1.1.2, ⟨hk.1.1.1.2, ⟨hk.1.1.2, hk.1.2⟩⟩⟩)⟩, ⟨by repeat (first | (with_reducible first | exact HB.out | apply below_alloc | apply pw_below_drewN | apply below_drew1) | exact HB.out)⟩⟩
  case rest =>
    clear HC10
    try clear c1
    try clear c2
    try clear p2
    try clear p6
    try clear c10
    try clear c12
    try clear c20
    try clear c20b0
    try clear c20b1
    try clear c21
    try clear c21b0
    try clear c21b1
    try clear c23
    try clear c24
    try clear c26
    try clear c28
    obtain ⟨kq, x59_9, rfl, HA, HJ9, HO_6, HO_7, HO_8, HO_9, HO_10, HB⟩ := hcut
    cases kq with
    | zero => exact absurd HA.out (by simp [arboristlaw01_TupleParts.j0])
    | succ kj9 =>
      have H := HA.out
      clear HA
      simp only [arboristlaw01_TupleParts.j0] at H
      by_cases c41 : x59_9 = true
      · subst c41
        have H1 : (some false) = some r := by rw [if_pos rfl] at H; exact H
        clear H
        have H := H1
        clear H1
        exact absurd ((Option.some.inj H).trans HT_.out) (by decide)
      · replace c41 := Bool.eq_false_iff.mpr c41
        subst c41
        have H1 : (if t496 = true then ((tuple_Within.f t497 t503).bind fun t517 => (if t517 = true then ((tuple_Within.f t506 t500).bind fun t518 => (if t518 = true then ((tuple_Meet.f t509 t500).bind fun t519 => (if (t519.length : Int) = 0 then ((tuple_Within.f t497 t500).bind fun t522 => (if (t522 == ((t509.length : Int) == 0)) = true then ((tuple_Unite.f t500 t497).bind fun t523 => ((tuple_Compare.f kj9 t503 t523).bind fun t526 => (some (t526 == 0)))) else (some false))) else (some false))) else (some false))) else (some false))) else (some false)) = some r := by rw [if_neg (show ¬ (false = true) by decide)] at H; exact H
        clear H
        have H := H1
        clear H1
        by_cases c42 : t496 = true
        · subst c42
          have H1 : ((tuple_Within.f t497 t503).bind fun t517 => (if t517 = true then ((tuple_Within.f t506 t500).bind fun t518 => (if t518 = true then ((tuple_Meet.f t509 t500).bind fun t519 => (if (t519.length : Int) = 0 then ((tuple_Within.f t497 t500).bind fun t522 => (if (t522 == ((t509.length : Int) == 0)) = true then ((tuple_Unite.f t500 t497).bind fun t523 => ((tuple_Compare.f kj9 t503 t523).bind fun t526 => (some (t526 == 0)))) else (some false))) else (some false))) else (some false))) else (some false))) = some r := by rw [if_pos rfl] at H; exact H
          clear H
          have H := H1
          clear H1
          replace H := Option.bind_eq_some_iff.mp H
          obtain ⟨t517, A430, H⟩ := H
          replace H : (if t517 = true then ((tuple_Within.f t506 t500).bind fun t518 => (if t518 = true then ((tuple_Meet.f t509 t500).bind fun t519 => (if (t519.length : Int) = 0 then ((tuple_Within.f t497 t500).bind fun t522 => (if (t522 == ((t509.length : Int) == 0)) = true then ((tuple_Unite.f t500 t497).bind fun t523 => ((tuple_Compare.f kj9 t503 t523).bind fun t526 => (some (t526 == 0)))) else (some false))) else (some false))) else (some false))) else (some false)) = some r := H
          have A43 := Aside0.mk A430
          clear A430
          by_cases c44 : t517 = true
          · subst c44
            have H1 : ((tuple_Within.f t506 t500).bind fun t518 => (if t518 = true then ((tuple_Meet.f t509 t500).bind fun t519 => (if (t519.length : Int) = 0 then ((tuple_Within.f t497 t500).bind fun t522 => (if (t522 == ((t509.length : Int) == 0)) = true then ((tuple_Unite.f t500 t497).bind fun t523 => ((tuple_Compare.f kj9 t503 t523).bind fun t526 => (some (t526 == 0)))) else (some false))) else (some false))) else (some false))) = some r := by rw [if_pos rfl] at H; exact H
            clear H
            have H := H1
            clear H1
            replace H := Option.bind_eq_some_iff.mp H
            obtain ⟨t518, A450, H⟩ := H
            replace H : (if t518 = true then ((tuple_Meet.f t509 t500).bind fun t519 => (if (t519.length : Int) = 0 then ((tuple_Within.f t497 t500).bind fun t522 => (if (t522 == ((t509.length : Int) == 0)) = true then ((tuple_Unite.f t500 t497).bind fun t523 => ((tuple_Compare.f kj9 t503 t523).bind fun t526 => (some (t526 == 0)))) else (some false))) else (some false))) else (some false)) = some r := H
            have A45 := Aside0.mk A450
            clear A450
            by_cases c46 : t518 = true
            · subst c46
              have H1 : ((tuple_Meet.f t509 t500).bind fun t519 => (if (t519.length : Int) = 0 then ((tuple_Within.f t497 t500).bind fun t522 => (if (t522 == ((t509.length : Int) == 0)) = true then ((tuple_Unite.f t500 t497).bind fun t523 => ((tuple_Compare.f kj9 t503 t523).bind fun t526 => (some (t526 == 0)))) else (some false))) else (some false))) = some r := by rw [if_pos rfl] at H; exact H
              clear H
              have H := H1
              clear H1
              replace H := Option.bind_eq_some_iff.mp H
              obtain ⟨t519, A470, H⟩ := H
              replace H : (if (t519.length : Int) = 0 then ((tuple_Within.f t497 t500).bind fun t522 => (if (t522 == ((t509.length : Int) == 0)) = true then ((tuple_Unite.f t500 t497).bind fun t523 => ((tuple_Compare.f kj9 t503 t523).bind fun t526 => (some (t526 == 0)))) else (some false))) else (some false)) = some r := H
              have A47 := Aside0.mk A470
              clear A470
              by_cases c48 : (t519.length : Int) = 0
              · rw [if_pos c48] at H
                have c48b0 : ((t519.length : Int) == 0) = true := beq_iff_eq.mpr c48
                have c48b1 : ((t519.length : Int) != 0) = false := bne_eq_false_iff_eq.mpr c48
                clear c48
                replace H := Option.bind_eq_some_iff.mp H
                obtain ⟨t522, A490, H⟩ := H
                replace H : (if (t522 == ((t509.length : Int) == 0)) = true then ((tuple_Unite.f t500 t497).bind fun t523 => ((tuple_Compare.f kj9 t503 t523).bind fun t526 => (some (t526 == 0)))) else (some false)) = some r := H
                have A49 := Aside0.mk A490
                clear A490
                by_cases c50 : (t522 == ((t509.length : Int) == 0)) = true
                · rw [if_pos c50] at H
                  have c50b0 : (t522 == ((t509.length : Int) == 0)) = true := c50
                  (try (have c50b1 : decide (t522 = ((t509.length : Int) == 0)) = true := by simpa using c50))
                  (try (have c50b2 : (t522 == ((t509.length : Int) == 0)) = true := by simpa using c50))
                  clear c50
                  replace H := Option.bind_eq_some_iff.mp H
                  obtain ⟨t523, A510, H⟩ := H
                  replace H : ((tuple_Compare.f kj9 t503 t523).bind fun t526 => (some (t526 == 0))) = some r := H
                  have A51 := Aside0.mk A510
                  clear A510
                  replace H := Option.bind_eq_some_iff.mp H
                  obtain ⟨t526, A520, H⟩ := H
                  replace H : (some (t526 == 0)) = some r := H
                  have A52 := Aside0.mk A520
                  clear A520
                  obtain rfl := Option.some.inj H
                  obtain ⟨Ao53, co53, eo53⟩ := Kd.R_slice HO_8.out
                  subst eo53
                  go_wp2_with (first | (go_at_call 30; (with_reducible refine (tuple_Within.calls _ _ t497 _ _ t503 true _ ?side1 ?side2 ?side3 ?side4 A43.out).mono ?_); (case side1 => repeat (first | exact (Kd.R_reads' HO_6.out).2.2 | (with_reducible refine Kd.C_alloc ?_ _) | (with_reducible refine Kd.C_drewN ?_ _) | (with_reducible refine Kd.C_drew ?_))); (case side2 => exact (Kd.R_reads' HO_6.out).2.1); (case side3 => repeat (first | exact (Kd.R_reads' HO_8.out).2.2 | (with_reducible refine Kd.C_alloc ?_ _) | (with_reducible refine Kd.C_drewN ?_ _) | (with_reducible refine Kd.C_drew ?_))); (case side4 => exact (Kd.R_reads' HO_8.out).2.1); rintro e w54 ⟨rfl, hb⟩; have n0_ := Aside0.mk (Kd.R_below (by (with_reducible repeat (first | apply Kd.R_alloc | apply Kd.R_drewN | apply Kd.R_drew)); exact HO_6.out) hb); have n1_ := Aside0.mk (Kd.R_below (by (with_reducible repeat (first | apply Kd.R_alloc | apply Kd.R_drewN | apply Kd.R_drew)); exact HO_7.out) hb); have n2_ := Aside0.mk (Kd.R_below (by (with_reducible repeat (first | apply Kd.R_alloc | apply Kd.R_drewN | apply Kd.R_drew)); exact HO_8.out) hb); have n3_ := Aside0.mk (Kd.R_below (by (with_reducible repeat (first | apply Kd.R_alloc | apply Kd.R_drewN | apply Kd.R_drew)); exact HO_9.out) hb); have n4_ := Aside0.mk (Kd.R_below (by (with_reducible repeat (first | apply Kd.R_alloc | apply Kd.R_drewN | apply Kd.R_drew)); exact HO_10.out) hb); have n5_ := Aside0.mk (below_step (by repeat (first | (with_reducible first | exact HB.out | apply below_alloc | apply pw_below_drewN | apply below_drew1) | exact HB.out)) hb); clear HO_6; clear HO_7; clear HO_8; clear HO_9; clear HO_10; clear HB; have HO_6 := n0_; have HO_7 := n1_; have HO_8 := n2_; have HO_9 := n3_; have HO_10 := n4_; have HB := n5_; clear n0_ n1_ n2_ n3_ n4_ n5_; (try clear hb); (try clear hb2); (try clear hk); (try clear hi); obtain ⟨Ao55, co55, eo55⟩ := Kd.R_slice HO_9.out; subst eo55) | (go_at_call 30; (with_reducible refine (tuple_Within.calls _ _ t506 _ _ t500 true _ ?side1 ?side2 ?side3 ?side4 A45.out).mono ?_); (case side1 => repeat (first | exact (Kd.R_reads' HO_9.out).2.2 | (with_reducible refine Kd.C_alloc ?_ _) | (with_reducible refine Kd.C_drewN ?_ _) | (with_reducible refine Kd.C_drew ?_))); (case side2 => exact (Kd.R_reads' HO_9.out).2.1); (case side3 => repeat (first | exact (Kd.R_reads' HO_7.out).2.2 | (with_reducible refine Kd.C_alloc ?_ _) | (with_reducible refine Kd.C_drewN ?_ _) | (with_reducible refine Kd.C_drew ?_))); (case side4 => exact (Kd.R_reads' HO_7.out).2.1); rintro e w56 ⟨rfl, hb⟩; have n0_ := Aside0.mk (Kd.R_below (by (with_reducible repeat (first | apply Kd.R_alloc | apply Kd.R_drewN | apply Kd.R_drew)); exact HO_6.out) hb); have n1_ := Aside0.mk (Kd.R_below (by (with_reducible repeat (first | apply Kd.R_alloc | apply Kd.R_drewN | apply Kd.R_drew)); exact HO_7.out) hb); have n2_ := Aside0.mk (Kd.R_below (by (with_reducible repeat (first | apply Kd.R_alloc | apply Kd.R_drewN | apply Kd.R_drew)); exact HO_8.out) hb); have n3_ := Aside0.mk (Kd.R_below (by (with_reducible repeat (first | apply Kd.R_alloc | apply Kd.R_drewN | apply Kd.R_drew)); exact HO_9.out) hb); have n4_ := Aside0.mk (Kd.R_below (by (with_reducible repeat (first | apply Kd.R_alloc | apply Kd.R_drewN | apply Kd.R_drew)); exact HO_10.out) hb); have n5_ := Aside0.mk (below_step (by repeat (first | (with_reducible first | exact HB.out | apply below_alloc | apply pw_below_drewN | apply below_drew1) | exact HB.out)) hb); clear HO_6; clear HO_7; clear HO_8; clear HO_9; clear HO_10; clear HB; have HO_6 := n0_; have HO_7 := n1_; have HO_8 := n2_; have HO_9 := n3_; have HO_10 := n4_; have HB := n5_; clear n0_ n1_ n2_ n3_ n4_ n5_; (try clear hb); (try clear hb2); (try clear hk); (try clear hi); obtain ⟨Ao57, co57, eo57⟩ := Kd.R_slice HO_10.out; subst eo57) | (go_at_call 26; (with_reducible refine (tuple_Meet.calls _ _ t509 _ _ t500 t519 _ ?side1 ?side2 ?side3 ?side4 A47.out).mono ?_); (case side1 => repeat (first | exact (Kd.R_reads' HO_10.out).2.2 | (with_reducible refine Kd.C_alloc ?_ _) | (with_reducible refine Kd.C_drewN ?_ _) | (with_reducible refine Kd.C_drew ?_))); (case side2 => exact (Kd.R_reads' HO_10.out).2.1); (case side3 => repeat (first | exact (Kd.R_reads' HO_7.out).2.2 | (with_reducible refine Kd.C_alloc ?_ _) | (with_reducible refine Kd.C_drewN ?_ _) | (with_reducible refine Kd.C_drew ?_))); (case side4 => exact (Kd.R_reads' HO_7.out).2.1); rintro e w58 ⟨v520, rfl, ho0, hb⟩; have n0_ := Aside0.mk (Kd.R_elder' (by (with_reducible repeat (first | apply Kd.R_alloc | apply Kd.R_drewN | apply Kd.R_drew)); exact HO_6.out) (Kd.R_base ho0) hb); have n1_ := Aside0.mk (Kd.R_elder' (by (with_reducible repeat (first | apply Kd.R_alloc | apply Kd.R_drewN | apply Kd.R_drew)); exact HO_7.out) (Kd.R_base ho0) hb); have n2_ := Aside0.mk (Kd.R_elder' (by (with_reducible repeat (first | apply Kd.R_alloc | apply Kd.R_drewN | apply Kd.R_drew)); exact HO_8.out) (Kd.R_base ho0) hb); have n3_ := Aside0.mk (Kd.R_elder' (by (with_reducible repeat (first | apply Kd.R_alloc | apply Kd.R_drewN | apply Kd.R_drew)); exact HO_9.out) (Kd.R_base ho0) hb); have n4_ := Aside0.mk (Kd.R_elder' (by (with_reducible repeat (first | apply Kd.R_alloc | apply Kd.R_drewN | apply Kd.R_drew)); exact HO_10.out) (Kd.R_base ho0) hb); have n5_ := Aside0.mk (Kd.R_lower (Kd.R_new' (Kd.R_new' (Kd.R_new' (Kd.R_new' (Kd.R_new' ho0 (Kd.R_lt (by (with_reducible repeat (first | apply Kd.R_alloc | apply Kd.R_drewN | apply Kd.R_drew)); exact HO_6.out))) (Kd.R_lt (by (with_reducible repeat (first | apply Kd.R_alloc | apply Kd.R_drewN | apply Kd.R_drew)); exact HO_7.out))) (Kd.R_lt (by (with_reducible repeat (first | apply Kd.R_alloc | apply Kd.R_drewN | apply Kd.R_drew)); exact HO_8.out))) (Kd.R_lt (by (with_reducible repeat (first | apply Kd.R_alloc | apply Kd.R_drewN | apply Kd.R_drew)); exact HO_9.out))) (Kd.R_lt (by (with_reducible repeat (first | apply Kd.R_alloc | apply Kd.R_drewN | apply Kd.R_drew)); exact HO_10.out))) (below_size (by repeat (first | (with_reducible first | exact HB.out | apply below_alloc | apply pw_below_drewN | apply below_drew1) | exact HB.out)))); have n6_ := Aside0.mk (below_step (by repeat (first | (with_reducible first | exact HB.out | apply below_alloc | apply pw_below_drewN | apply below_drew1) | exact HB.out)) hb); clear HO_6; clear HO_7; clear HO_8; clear HO_9; clear HO_10; clear HB; have HO_6 := n0_; have HO_7 := n1_; have HO_8 := n2_; have HO_9 := n3_; have HO_10 := n4_; have HO521 := n5_; have HB := n6_; clear n0_ n1_ n2_ n3_ n4_ n5_ n6_; (try clear hb); (try clear hb2); (try clear hk); (try clear hi); (try clear ho0); obtain ⟨Ao59, co59, eo59⟩ := Kd.R_slice HO521.out; subst eo59) | (go_at_call 30; (with_reducible refine (tuple_Within.calls _ _ t497 _ _ t500 t522 _ ?side1 ?side2 ?side3 ?side4 A49.out).mono ?_); (case side1 => repeat (first | exact (Kd.R_reads' HO_6.out).2.2 | (with_reducible refine Kd.C_alloc ?_ _) | (with_reducible refine Kd.C_drewN ?_ _) | (with_reducible refine Kd.C_drew ?_))); (case side2 => exact (Kd.R_reads' HO_6.out).2.1); (case side3 => repeat (first | exact (Kd.R_reads' HO_7.out).2.2 | (with_reducible refine Kd.C_alloc ?_ _) | (with_reducible refine Kd.C_drewN ?_ _) | (with_reducible refine Kd.C_drew ?_))); (case side4 => exact (Kd.R_reads' HO_7.out).2.1); rintro e w60 ⟨rfl, hb⟩; have n0_ := Aside0.mk (Kd.R_below (by (with_reducible repeat (first | apply Kd.R_alloc | apply Kd.R_drewN | apply Kd.R_drew)); exact HO_6.out) hb); have n1_ := Aside0.mk (Kd.R_below (by (with_reducible repeat (first | apply Kd.R_alloc | apply Kd.R_drewN | apply Kd.R_drew)); exact HO_7.out) hb); have n2_ := Aside0.mk (Kd.R_below (by (with_reducible repeat (first | apply Kd.R_alloc | apply Kd.R_drewN | apply Kd.R_drew)); exact HO_8.out) hb); have n3_ := Aside0.mk (Kd.R_below (by (with_reducible repeat (first | apply Kd.R_alloc | apply Kd.R_drewN | apply Kd.R_drew)); exact HO_9.out) hb); have n4_ := Aside0.mk (Kd.R_below (by (with_reducible repeat (first | apply Kd.R_alloc | apply Kd.R_drewN | apply Kd.R_drew)); exact HO_10.out) hb); have n5_ := Aside0.mk (Kd.R_below (by (with_reducible repeat (first | apply Kd.R_alloc | apply Kd.R_drewN | apply Kd.R_drew)); exact HO521.out) hb); have n6_ := Aside0.mk (below_step (by repeat (first | (with_reducible first | exact HB.out | apply below_alloc | apply pw_below_drewN | apply below_drew1) | exact HB.out)) hb); clear HO_6; clear HO_7; clear HO_8; clear HO_9; clear HO_10; clear HO521; clear HB; have HO_6 := n0_; have HO_7 := n1_; have HO_8 := n2_; have HO_9 := n3_; have HO_10 := n4_; have HO521 := n5_; have HB := n6_; clear n0_ n1_ n2_ n3_ n4_ n5_ n6_; (try clear hb); (try clear hb2); (try clear hk); (try clear hi)) | (go_at_call 24; (with_reducible refine (tuple_Unite.calls _ _ t500 _ _ t497 t523 _ ?side1 ?side2 ?side3 ?side4 A51.out).mono ?_); (case side1 => repeat (first | exact (Kd.R_reads' HO_7.out).2.2 | (with_reducible refine Kd.C_alloc ?_ _) | (with_reducible refine Kd.C_drewN ?_ _) | (with_reducible refine Kd.C_drew ?_))); (case side2 => exact (Kd.R_reads' HO_7.out).2.1); (case side3 => repeat (first | exact (Kd.R_reads' HO_6.out).2.2 | (with_reducible refine Kd.C_alloc ?_ _) | (with_reducible refine Kd.C_drewN ?_ _) | (with_reducible refine Kd.C_drew ?_))); (case side4 => exact (Kd.R_reads' HO_6.out).2.1); rintro e w61 ⟨v524, rfl, ho0, hb⟩; have n0_ := Aside0.mk (Kd.R_elder' (by (with_reducible repeat (first | apply Kd.R_alloc | apply Kd.R_drewN | apply Kd.R_drew)); exact HO_6.out) (Kd.R_base ho0) hb); have n1_ := Aside0.mk (Kd.R_elder' (by (with_reducible repeat (first | apply Kd.R_alloc | apply Kd.R_drewN | apply Kd.R_drew)); exact HO_7.out) (Kd.R_base ho0) hb); have n2_ := Aside0.mk (Kd.R_elder' (by (with_reducible repeat (first | apply Kd.R_alloc | apply Kd.R_drewN | apply Kd.R_drew)); exact HO_8.out) (Kd.R_base ho0) hb); have n3_ := Aside0.mk (Kd.R_elder' (by (with_reducible repeat (first | apply Kd.R_alloc | apply Kd.R_drewN | apply Kd.R_drew)); exact HO_9.out) (Kd.R_base ho0) hb); have n4_ := Aside0.mk (Kd.R_elder' (by (with_reducible repeat (first | apply Kd.R_alloc | apply Kd.R_drewN | apply Kd.R_drew)); exact HO_10.out) (Kd.R_base ho0) hb); have n5_ := Aside0.mk (Kd.R_elder' (by (with_reducible repeat (first | apply Kd.R_alloc | apply Kd.R_drewN | apply Kd.R_drew)); exact HO521.out) (Kd.R_base ho0) hb); have n6_ := Aside0.mk (Kd.R_lower (Kd.R_new' (Kd.R_new' (Kd.R_new' (Kd.R_new' (Kd.R_new' (Kd.R_new' ho0 (Kd.R_lt (by (with_reducible repeat (first | apply Kd.R_alloc | apply Kd.R_drewN | apply Kd.R_drew)); exact HO_6.out))) (Kd.R_lt (by (with_reducible repeat (first | apply Kd.R_alloc | apply Kd.R_drewN | apply Kd.R_drew)); exact HO_7.out))) (Kd.R_lt (by (with_reducible repeat (first | apply Kd.R_alloc | apply Kd.R_drewN | apply Kd.R_drew)); exact HO_8.out))) (Kd.R_lt (by (with_reducible repeat (first | apply Kd.R_alloc | apply Kd.R_drewN | apply Kd.R_drew)); exact HO_9.out))) (Kd.R_lt (by (with_reducible repeat (first | apply Kd.R_alloc | apply Kd.R_drewN | apply Kd.R_drew)); exact HO_10.out))) (Kd.R_lt (by (with_reducible repeat (first | apply Kd.R_alloc | apply Kd.R_drewN | apply Kd.R_drew)); exact HO521.out))) (below_size (by repeat (first | (with_reducible first | exact HB.out | apply below_alloc | apply pw_below_drewN | apply below_drew1) | exact HB.out)))); have n7_ := Aside0.mk (below_step (by repeat (first | (with_reducible first | exact HB.out | apply below_alloc | apply pw_below_drewN | apply below_drew1) | exact HB.out)) hb); clear HO_6; clear HO_7; clear HO_8; clear HO_9; clear HO_10; clear HO521; clear HB; have HO_6 := n0_; have HO_7 := n1_; have HO_8 := n2_; have HO_9 := n3_; have HO_10 := n4_; have HO521 := n5_; have HO525 := n6_; have HB := n7_; clear n0_ n1_ n2_ n3_ n4_ n5_ n6_ n7_; (try clear hb); (try clear hb2); (try clear hk); (try clear hi); (try clear ho0); obtain ⟨Ao62, co62, eo62⟩ := Kd.R_slice HO525.out; subst eo62) | (go_at_call 18; (with_reducible refine (tuple_Compare.calls kj9 _ _ t503 _ _ t523 t526 _ ?side1 ?side2 ?side3 ?side4 A52.out).mono ?_); (case side1 => repeat (first | exact (Kd.R_reads' HO_8.out).2.2 | (with_reducible refine Kd.C_alloc ?_ _) | (with_reducible refine Kd.C_drewN ?_ _) | (with_reducible refine Kd.C_drew ?_))); (case side2 => exact (Kd.R_reads' HO_8.out).2.1); (case side3 => repeat (first | exact (Kd.R_reads' HO525.out).2.2 | (with_reducible refine Kd.C_alloc ?_ _) | (with_reducible refine Kd.C_drewN ?_ _) | (with_reducible refine Kd.C_drew ?_))); (case side4 => exact (Kd.R_reads' HO525.out).2.1); rintro e w' ⟨rfl, ⟨nd, rfl⟩⟩))
                  go_ret
                  exact ⟨by first | rfl | (simp [errW_none, errW_some] <;> rfl) | (simp [*, errW_none, errW_some] <;> rfl), by repeat (first | (with_reducible first | exact HB.out | apply below_alloc | apply pw_below_drewN | apply below_drew1) | exact HB.out)⟩
                · rw [if_neg c50] at H
                  have c50b0 : (t522 == ((t509.length : Int) == 0)) = false := by simpa using c50
                  (try (have c50b1 : decide (t522 = ((t509.length : Int) == 0)) = false := by simpa using c50))
                  (try (have c50b2 : (t522 == ((t509.length : Int) == 0)) = false := by simpa using c50))
                  (try (have c50b3 : ¬ (t522 = ((t509.length : Int) == 0)) := by simpa using c50))
                  clear c50
                  exact absurd ((Option.some.inj H).trans HT_.out) (by decide)
              · rw [if_neg c48] at H
                have c48b0 : ((t519.length : Int) == 0) = false := beq_eq_false_iff_ne.mpr c48
                have c48b1 : ((t519.length : Int) != 0) = true := bne_iff_ne.mpr c48
                have c48b2 : ¬ (t519 = []) := fun h_ => c48 (by rw [h_]; rfl)
                exact absurd ((Option.some.inj H).trans HT_.out) (by decide)
            · replace c46 := Bool.eq_false_iff.mpr c46
              subst c46
              have H1 : (some false) = some r := by rw [if_neg (show ¬ (false = true) by decide)] at H; exact H
              clear H
              have H := H1
              clear H1
              exact absurd ((Option.some.inj H).trans HT_.out) (by decide)
          · replace c44 := Bool.eq_false_iff.mpr c44
            subst c44
            have H1 : (some false) = some r := by rw [if_neg (show ¬ (false = true) by decide)] at H; exact H
            clear H
            have H := H1
            clear H1
            exact absurd ((Option.some.inj H).trans HT_.out) (by decide)
        · replace c42 := Bool.eq_false_iff.mpr c42
          subst c42
          have H1 : (some false) = some r := by rw [if_neg (show ¬ (false = true) by decide)] at H; exact H
          clear H
          have H := H1
          clear H1
          exact absurd ((Option.some.inj H).trans HT_.out) (by decide)

/-- THE ONE PURE STATEMENT of arboristlaw01_TupleParts: yours. -/
def arboristlaw01_TupleParts.Pure : Prop := ∀ (l0 : List Int) (l1 : List Int), l0.length ≤ maxLen → l0.length * 8 ≤ 140737488351232 → (∀ x ∈ l0, (Lit.int .i64 x).wf = true) → l1.length ≤ maxLen → l1.length * 8 ≤ 140737488351232 → (∀ x ∈ l1, (Lit.int .i64 x).wf = true) → ∃ k, arboristlaw01_TupleParts.f k l0 l1 = some true
theorem arboristlaw01_TupleParts.walk (P : arboristlaw01_TupleParts.Pure) (a0 : Option Addr) (len0 cap0 : Nat) (z0 : List Int) (a1 : Option Addr) (len1 cap1 : Nat) (z1 : List Int) (w : World) (w0 : (a0 = none ∧ len0 = 0 ∧ cap0 = 0 ∧ z0 = []) ∨ ∃ x, a0 = some x ∧ len0 ≤ cap0 ∧ cap0 ≤ maxLen ∧ z0.length = cap0 ∧ (∀ i, i < z0.length → w.cell? (x.add i) = some (.int .i64 (z0.getD i 0))) ∧ ∀ n ∈ z0, (Lit.int .i64 n).wf = true) (y0 : len0 * 8 ≤ 140737488351232) (w1 : (a1 = none ∧ len1 = 0 ∧ cap1 = 0 ∧ z1 = []) ∨ ∃ x, a1 = some x ∧ len1 ≤ cap1 ∧ cap1 ≤ maxLen ∧ z1.length = cap1 ∧ (∀ i, i < z1.length → w.cell? (x.add i) = some (.int .i64 (z1.getD i 0))) ∧ ∀ n ∈ z1, (Lit.int .i64 n).wf = true) (y1 : len1 * 8 ≤ 140737488351232) :
    Calls Try.prog 10 #[.slice a0 len0 cap0, .slice a1 len1 cap1] w fun e w' => e = .returned (.bool true) ∧ Below w.heap.size w w' := by
  obtain ⟨l0, rfl, hr0, hm0, hw0, hc0⟩ := ReadsInt.ofRowC w0
  obtain ⟨l1, rfl, hr1, hm1, hw1, hc1⟩ := ReadsInt.ofRowC w1
  obtain ⟨k, h⟩ := P l0 l1 hm0 y0 hw0 hm1 y1 hw1
  refine (arboristlaw01_TupleParts.calls k _ _ l0 _ _ l1 true w (Kd.C_of_reads (d := (0 : Int)) (h1 := fun _ => rfl) hr0) hc0 (Kd.C_of_reads (d := (0 : Int)) (h1 := fun _ => rfl) hr1) hc1 rfl h).mono ?_
  rintro e w' ⟨rfl, hd⟩
  exact ⟨rfl, hd⟩

end Go.Proofs.Ytlnmgljiggebiaa.Pr
