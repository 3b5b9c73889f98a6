-- Printed by a program of this session's own (wip/tools/pp.py) over the kit's print.py; Lean checks it.
import Derived.Test.YtaodbohfhelokaaDoorPr0
import Derived.Test.YtaodbohfhelokaaDoorPr1
import Derived.Test.YtaodbohfhelokaaDoorPr5
import Derived.Test.YtaodbohfhelokaaDoorPr12
import Derived.Test.YtaodbohfhelokaaDoorPr13
namespace Go.Proofs.YtaodbohfhelokaaDoor.Pr
open Go.RowKit Go.Proofs.YtaodbohfhelokaaDoorW.PrintWords Go.Proofs.YtaodbohfhelokaaDoorW.PrintLast Go.Proofs.YtaodbohfhelokaaDoorW.PrintMore
attribute [local go_sem] max2_int min2_int max_two min_two max_three min_three max_four min_four   -- for this text's walks alone
set_option linter.unusedVariables false
set_option linter.unusedSimpArgs false

/-! ### arboristlaw08_GraphRights: function 3 -/
def arboristlaw08_GraphRights.l0 : Nat → Int → Bool → Bool → Int → List Int → List Int → Option (Bool)
  | 0, _, _, _, _, _, _ => none
  | k + 1, x1, x5, x8, x10, x208000, x216000 => if x10 < (x216000.length : Int) then (if 0 ≤ x10 then (if (rd x216000 x10) = 0 then (arboristlaw08_GraphRights.l0 k x1 x5 x8 (wrap64 (x10 + 1)) x208000 x216000) else (some false)) else (none)) else (if x5 = true then ((graph_Right.f k x208000).bind fun t217 => (if (t217 == x8) = true then (if (x216000.length : Int) = (mx 0 (mn x1 40)) then ((graph_Right.f k x216000).bind fun t218 => (some t218)) else (some false)) else (some false))) else (some false))
def arboristlaw08_GraphRights.f (k : Nat) (l0 : List Int) (a1 : Int) : Option (Bool) := (arboristlaw08_shown.f k).bind fun t199 => ((some (([] : List Int) : List Int)).bind fun y200 => (if 0 ≤ (mn (l0.length : Int) 42) then (if (mn (l0.length : Int) 42) ≤ (l0.length : Int) then (if y200.length + (l0.take ((mn (l0.length : Int) 42) : Int).toNat).length < 17592186044416 then ((some (y200 ++ (l0.take ((mn (l0.length : Int) 42) : Int).toNat) : List Int)).bind fun y204 => ((arboristref08_Truths.f k y204).bind fun bt208 => ((graph_New.f a1).bind fun t212 => (arboristlaw08_GraphRights.l0 k a1 t199 bt208.2 0 y204 t212)))) else (none)) else (none)) else (none)))
theorem arboristlaw08_GraphRights.mono_l : ∀ k, (∀ y0 y1 y2 y3 y4 y5, LeO (arboristlaw08_GraphRights.l0 k y0 y1 y2 y3 y4 y5) (arboristlaw08_GraphRights.l0 (k + 1) y0 y1 y2 y3 y4 y5))
  | 0 => fun _ _ _ _ _ _ r h => by simp [arboristlaw08_GraphRights.l0] at h
  | k + 1 => by
    have ih0 := arboristlaw08_GraphRights.mono_l k
    all_goals intros
    all_goals (first | unfold arboristlaw08_GraphRights.l0)
    all_goals repeat' first
    | (with_reducible exact ih0 _ _ _ _ _ _)
    | (with_reducible exact arboristlaw08_shown.mono _)
    | (with_reducible exact arboristref08_Truths.mono _ _)
    | (with_reducible exact graph_Right.mono _ _)
    | (with_reducible exact LeO.refl _)
    | (with_reducible exact LeO.none _)
    | (with_reducible refine LeO.ite ?_ ?_)
    | (with_reducible refine LeO.bind ?_ (fun _ => ?_))
    | exact ih0 _ _ _ _ _ _
    | exact arboristlaw08_shown.mono _
    | exact arboristref08_Truths.mono _ _
    | exact graph_Right.mono _ _
    | exact LeO.none _
    | refine LeO.ite ?_ ?_
    | refine LeO.bind ?_ (fun _ => ?_)
theorem arboristlaw08_GraphRights.mono : ∀ a0 a1 k, LeO (arboristlaw08_GraphRights.f k a0 a1) (arboristlaw08_GraphRights.f (k + 1) a0 a1) := by
  intro a0 a1 k
  have ih0 := arboristlaw08_GraphRights.mono_l k
  unfold arboristlaw08_GraphRights.f
  repeat' first
      | (with_reducible exact ih0 _ _ _ _ _ _)
      | (with_reducible exact arboristlaw08_shown.mono _)
      | (with_reducible exact arboristref08_Truths.mono _ _)
      | (with_reducible exact graph_Right.mono _ _)
      | (with_reducible exact LeO.refl _)
      | (with_reducible exact LeO.none _)
      | (with_reducible refine LeO.ite ?_ ?_)
      | (with_reducible refine LeO.bind ?_ (fun _ => ?_))
      | exact ih0 _ _ _ _ _ _
      | exact arboristlaw08_shown.mono _
      | exact arboristref08_Truths.mono _ _
      | exact graph_Right.mono _ _
      | exact LeO.none _
      | refine LeO.ite ?_ ?_
      | refine LeO.bind ?_ (fun _ => ?_)
set_option maxHeartbeats 8000000 in
set_option maxRecDepth 100000 in
theorem arboristlaw08_GraphRights.calls (k : Nat) (A0 : Option Addr) (c0 : Nat) (l0 : List Int) (a1 : Int) (r : Bool) (w : World) (hTb : Tab64 w) (hr0 : Kd.C (Kd.int .u64) w A0 l0.length l0) (hc0 : l0.length ≤ c0) (hT : r = true) (h : arboristlaw08_GraphRights.f k l0 a1 = some r) :
    Calls Tryd.prog 3 #[.slice A0 l0.length c0, .int .i64 a1] w fun e w' => e = .returned (.bool r) ∧ Below w.heap.size w w' := by
  have HTAB := Aside0.mk hTb
  clear hTb
  have HT_ := Aside0.mk (show r = true from hT)
  clear hT
  have hu25 := Tryd.underlying25
  have HR0 := Aside0.mk hr0
  have HC0 := Aside0.mk hc0
  clear hr0 hc0
  have HB := Aside0.mk (Below.refl w.heap.size w)
  have H : ((arboristlaw08_shown.f k).bind fun t199 => ((some (([] : List Int) : List Int)).bind fun y200 => (if 0 ≤ (mn (l0.length : Int) 42) then (if (mn (l0.length : Int) 42) ≤ (l0.length : Int) then (if y200.length + (l0.take ((mn (l0.length : Int) 42) : Int).toNat).length < 17592186044416 then ((some (y200 ++ (l0.take ((mn (l0.length : Int) 42) : Int).toNat) : List Int)).bind fun y204 => ((arboristref08_Truths.f k y204).bind fun bt208 => ((graph_New.f a1).bind fun t212 => (arboristlaw08_GraphRights.l0 k a1 t199 bt208.2 0 y204 t212)))) else (none)) else (none)) else (none)))) = some r := h
  clear h
  replace H := Option.bind_eq_some_iff.mp H
  obtain ⟨t199, A30, H⟩ := H
  replace H : ((some (([] : List Int) : List Int)).bind fun y200 => (if 0 ≤ (mn (l0.length : Int) 42) then (if (mn (l0.length : Int) 42) ≤ (l0.length : Int) then (if y200.length + (l0.take ((mn (l0.length : Int) 42) : Int).toNat).length < 17592186044416 then ((some (y200 ++ (l0.take ((mn (l0.length : Int) 42) : Int).toNat) : List Int)).bind fun y204 => ((arboristref08_Truths.f k y204).bind fun bt208 => ((graph_New.f a1).bind fun t212 => (arboristlaw08_GraphRights.l0 k a1 t199 bt208.2 0 y204 t212)))) else (none)) else (none)) else (none))) = some r := H
  have A3 := Aside0.mk A30
  clear A30
  obtain ⟨y200, hy200⟩ : ∃ y_ : List Int, y_ = (([] : List Int)) := ⟨_, rfl⟩
  replace H : (if 0 ≤ (mn (l0.length : Int) 42) then (if (mn (l0.length : Int) 42) ≤ (l0.length : Int) then (if y200.length + (l0.take ((mn (l0.length : Int) 42) : Int).toNat).length < 17592186044416 then ((some (y200 ++ (l0.take ((mn (l0.length : Int) 42) : Int).toNat) : List Int)).bind fun y204 => ((arboristref08_Truths.f k y204).bind fun bt208 => ((graph_New.f a1).bind fun t212 => (arboristlaw08_GraphRights.l0 k a1 t199 bt208.2 0 y204 t212)))) else (none)) else (none)) else (none)) = some r := by first | (rw [hy200]; with_reducible exact H) | (have H2_ := (Option.bind_some _ _).symm.trans H; rw [hy200]; with_reducible exact H2_) | (have H2_ := (Option.bind_some _ _).symm.trans H; with_reducible exact H2_) | with_reducible exact H | (rw [hy200]; exact H) | exact H
  have Ny200 := Aside0.mk hy200
  clear hy200
  obtain ⟨ji4, hji4⟩ : ∃ j_ : Int, (mn (l0.length : Int) 42) = j_ := ⟨_, rfl⟩
  replace H : (if 0 ≤ (ji4) then (if (ji4) ≤ (l0.length : Int) then (if y200.length + (l0.take ((ji4) : Int).toNat).length < 17592186044416 then ((some (y200 ++ (l0.take ((ji4) : Int).toNat) : List Int)).bind fun y204 => ((arboristref08_Truths.f k y204).bind fun bt208 => ((graph_New.f a1).bind fun t212 => (arboristlaw08_GraphRights.l0 k a1 t199 bt208.2 0 y204 t212)))) else (none)) else (none)) else (none)) = some r := by first | (rw [hji4] at H; exact H) | (simp only [hji4] at H ⊢; exact H)
  (try rw [hji4] at A3)
  (try (have hji4h : ji4 ≤ 42 := by (rw [← hji4]; unfold mn; (repeat' split) <;> omega)))
  (try (have hji4g : ji4 ≤ 64 := by omega))
  (try (have hji4l : 0 ≤ ji4 := by (rw [← hji4]; unfold mn; (repeat' split) <;> omega)))
  (try (have hji4m : 0 ≤ ji4 := by omega))
  have hji4_ : (if 42 < (l0.length : Int) then 42 else (l0.length : Int)) = ji4 := hji4
  by_cases c5 : 0 ≤ (ji4)
  · rw [if_pos c5] at H
    have c5b0 := eq_true c5
    have c5b1 : decide (0 ≤ (ji4)) = true := decide_eq_true c5
    clear c5
    by_cases c6 : (ji4) ≤ (l0.length : Int)
    · rw [if_pos c6] at H
      have c6b0 := eq_true c6
      have c6b1 : decide ((ji4) ≤ (l0.length : Int)) = true := decide_eq_true c6
      clear c6
      by_cases c7 : y200.length + (l0.take ((ji4) : Int).toNat).length < 17592186044416
      · rw [if_pos c7] at H
        have LMc7 := Aside0.mk c7
        clear c7
        obtain ⟨y204, hy204⟩ : ∃ y_ : List Int, y_ = (y200 ++ (l0.take ((ji4) : Int).toNat)) := ⟨_, rfl⟩
        replace H : ((arboristref08_Truths.f k y204).bind fun bt208 => ((graph_New.f a1).bind fun t212 => (arboristlaw08_GraphRights.l0 k a1 t199 bt208.2 0 y204 t212))) = some r := by first | (rw [hy204]; with_reducible exact H) | (have H2_ := (Option.bind_some _ _).symm.trans H; rw [hy204]; with_reducible exact H2_) | (have H2_ := (Option.bind_some _ _).symm.trans H; with_reducible exact H2_) | with_reducible exact H | (rw [hy204]; exact H) | exact H
        have Ny204 := Aside0.mk hy204
        clear hy204
        replace H := Option.bind_eq_some_iff.mp H
        obtain ⟨⟨t208, t211⟩, A80, H⟩ := H
        replace H : ((graph_New.f a1).bind fun t212 => (arboristlaw08_GraphRights.l0 k a1 t199 t211 0 y204 t212)) = some r := H
        have A8 := Aside0.mk A80
        clear A80
        replace H := Option.bind_eq_some_iff.mp H
        obtain ⟨t212, A90, H⟩ := H
        replace H : (arboristlaw08_GraphRights.l0 k a1 t199 t211 0 y204 t212) = some r := H
        have A9 := Aside0.mk A90
        clear A90
        have H' := Aside0.mk H
        clear H
        go_enter Tryd.func3, Tryd.ntmps3
        go_wp2_with (first | ((with_reducible refine gate_callee (f := 11) rfl ?_); refine goesL_ (some 11) rfl rfl Tryd.func11 (by kernel_rfl) rfl #[] rfl (by (try simp only [List.map_toArray, List.map_cons, List.map_nil]); first | done | rfl | (simp only [List.length_drop, List.length_take]; rfl)) ?_; (with_reducible refine (arboristlaw08_shown.calls (hTb := (by first | exact HTAB.out | exact tab_drewN HTAB.out _ | exact tab_below HTAB.out (by repeat (first | (with_reducible first | exact HB.out | apply below_alloc | apply pw_below_drewN | apply below_drew1 | refine below_set ?_ GE207.out | refine below_set ?_ GE215.out) | exact HB.out)))) k  t199 _ A3.out).mono ?_); rintro e w10 ⟨rfl, hb⟩; refine ⟨_, rfl, ?_⟩; have n0_ := Aside0.mk (below_step (by repeat (first | (with_reducible first | exact HB.out | apply below_alloc | apply pw_below_drewN | apply below_drew1) | exact HB.out)) hb); clear HB; have HB := n0_; clear n0_; (try clear hb); (try clear hb2); (try clear hk); (try clear hi)) | ((with_reducible refine gate_dst (N := 12) rfl ?_); (try (refine gate_guard (by rfl) ?_; dsimp only)); refine Kd.R_lit (Kd.int .u64) _ 30 ?hg (N := 12) ?hd (xs := ([] : List Int)) (inner := []) (ok := fun _ => True) (okp := fun _ => True) ?hr ?hp (fun _ hk => hk) trivial (Below.refl _ _) (Nat.le_refl _) (by simp) ?_; (case hd => rfl); (case hg => rfl); (case hr => first | (go_simp; done) | (go_simp; rfl)); (case hp => exact (Reps.none _ _)); intro v201 w11 ho12 hb hg_ hnew_; clear hg_ hnew_; (first | rw [← Ny200.out] at ho12 | (simp only [Int.reduceToNat] at ho12; rw [← Ny200.out] at ho12)); have n0_ := Aside0.mk (Kd.R_lower ho12 (below_size (by repeat (first | (with_reducible first | exact HB.out | apply below_alloc | apply pw_below_drewN | apply below_drew1) | exact HB.out)))); have n1_ := Aside0.mk (below_step (by repeat (first | (with_reducible first | exact HB.out | apply below_alloc | apply pw_below_drewN | apply below_drew1) | exact HB.out)) hb); clear HB; have HO202 := n0_; have HB := n1_; clear n0_ n1_; clear hb ho12; obtain ⟨i013, hi013, _, hsz13, _⟩ := info_parts info30; obtain ⟨hcut13, hA13, hC13⟩ := print_take_of (P := Tryd.prog) (Value.int .u64) 0 22 30 .i64 Tryd.underlying22 hi013 hsz13 A0 c0 l0 (ji4) (of_decide_eq_true (by first | (with_reducible assumption) | assumption)) (of_decide_eq_true (by first | (with_reducible assumption) | assumption)) HC0.out; have HR203 := Aside0.mk (Kd.C_of_reads (h1 := fun _ => rfl) (hA13 _ (Kd.reads_of_C HR0.out))); have HC203 := Aside0.mk hC13; clear hA13 hC13 hi013 hsz13) | ((with_reducible refine gate_builtin (b := .append) (xs := #[.tmp 12, .tmp 17]) rfl ?_); (try (refine gate_guard (by rfl) ?_; dsimp only)); at_builtin; refine Kd.R_append_rows (Kd.int .u64) (w0 := w) w.heap.size rfl (.tmp 12) (.tmp 17) 22 30 (.int .u64 0) 8 rfl Tryd.underlying22 info30 rfl (by decide) (by omega) v201 y200 (l0.take ((ji4) : Int).toNat) _ _ _ (fun _ => True) (fun _ => False) rfl rfl ?aO ?aR (fun _ _ h => h) (fun _ h => h.elim) ?aF ?aB ?aS ?aL ?_; (case aR => first | (refine reads_len (show (l0.take ((ji4) : Int).toNat).length = (ji4).toNat from (by rw [List.length_take]; have h_ : ((ji4) : Int) ≤ (l0.length : Int) := of_decide_eq_true (by first | (with_reducible assumption) | assumption); omega)) ?_; repeat (first | exact (Kd.C_below HR203.out HB.out) | (with_reducible refine Kd.C_alloc ?_ _) | (with_reducible refine Kd.C_drewN ?_ _) | (with_reducible refine Kd.C_drew ?_))) | (rw [← show (l0.take ((ji4) : Int).toNat).length = (ji4).toNat from (by rw [List.length_take]; have h_ : ((ji4) : Int) ≤ (l0.length : Int) := of_decide_eq_true (by first | (with_reducible assumption) | assumption); omega)]; repeat (first | exact (Kd.C_below HR203.out HB.out) | (with_reducible refine Kd.C_alloc ?_ _) | (with_reducible refine Kd.C_drewN ?_ _) | (with_reducible refine Kd.C_drew ?_))) | (repeat (first | exact (Kd.C_below HR203.out HB.out) | (with_reducible refine Kd.C_alloc ?_ _) | (with_reducible refine Kd.C_drewN ?_ _) | (with_reducible refine Kd.C_drew ?_)))); (case aB => exact (by repeat (first | (with_reducible first | exact HB.out | apply below_alloc | apply pw_below_drewN | apply below_drew1) | exact HB.out))); (case aF => exact (fun _ _ => trivial)); (case aO => exact (by (with_reducible repeat (first | apply Kd.R_alloc | apply Kd.R_drewN | apply Kd.R_drew)); exact HO202.out)); (case aS => exact (below_size (by repeat (first | (with_reducible first | exact HB.out | apply below_alloc | apply pw_below_drewN | apply below_drew1) | exact HB.out)))); (case aL => have := LMc7.out; have hlx_ := (show (l0.take ((ji4) : Int).toNat).length = (ji4).toNat from (by rw [List.length_take]; have h_ : ((ji4) : Int) ≤ (l0.length : Int) := of_decide_eq_true (by first | (with_reducible assumption) | assumption); omega)); omega); intro v205 w14 ho hb hg hat; rw [← Ny204.out] at ho; have n0_ := Aside0.mk (hb); have n1_ := Aside0.mk (ho); clear HB; clear HO202; have HB := n0_; have HO206 := n1_; clear n0_ n1_; clear ho hb hg hat; obtain ⟨Ao15, co15, eo15⟩ := Kd.R_slice HO206.out; subst eo15) | ((with_reducible refine gate_dst (N := 6) rfl ?_); (try (refine gate_guard (by rfl) ?_; dsimp only)); refine box_event ?hg (N := 6) ?hd (cs := #[.slice none 0 0]) (t := 25) ?hr ?_; (case hd => rfl); (case hg => rfl); (case hr => first | (go_simp; done) | (go_simp; rfl)); intro gb207 hg w16 hbox hb; have n0_ := Aside0.mk (Kd.R_below (by (with_reducible repeat (first | apply Kd.R_alloc | apply Kd.R_drewN | apply Kd.R_drew)); exact HO206.out) hb); have n1_ := Aside0.mk (below_step (by repeat (first | (with_reducible first | exact HB.out | apply below_alloc | apply pw_below_drewN | apply below_drew1) | exact HB.out)) hb); have n2_ := Aside0.mk (hbox); have n3_ := Aside0.mk ((by rw [hg]; exact (below_size (by repeat (first | (with_reducible first | exact HB.out | apply below_alloc | apply pw_below_drewN | apply below_drew1) | exact HB.out))) : w.heap.size ≤ gb207)); have n4_ := Aside0.mk ((by rw [hg]; exact (below_size (by repeat (first | (with_reducible first | exact HB.out | apply below_alloc | apply pw_below_drewN | apply below_drew1) | exact HB.out))) : w.heap.size ≤ gb207)); clear HO206; clear HB; have HO206 := n0_; have HB := n1_; have BK207 := n2_; have GW207 := n3_; have GE207 := n4_; clear n0_ n1_ n2_ n3_ n4_; clear hb hbox hg; have hcz17_0 : w16.cell? ⟨gb207, 0, none⟩ = some (.slice none 0 0) := (blk_cell BK207.out 0).trans rfl; have hfz17_0 := blk_frozen BK207.out 0) | ((with_reducible refine gate_callee (f := 12) rfl ?_); refine goesL_ (some 22) rfl rfl Tryd.func12 (by kernel_rfl) rfl #[.agg #[.slice Ao15 y204.length co15]] rfl (by (try simp only [List.map_toArray, List.map_cons, List.map_nil]); first | done | rfl | (simp only [List.length_drop, List.length_take]; rfl)) ?_; (with_reducible refine (arboristref08_Truths.calls k _ _ y204 t208 t211 _ ?side1 ?side2 A8.out).mono ?_); (case side1 => refine (Kd.R_reads' (e := 30) (base := w.heap.size) (ok := fun k_ => True) (n := y204.length) (c := co15) ?_).2.2; exact (by (with_reducible repeat (first | apply Kd.R_alloc | apply Kd.R_drewN | apply Kd.R_drew)); exact (Kd.R_mono (Kd.R_far (p := ⟨gb207, 0, none⟩) (Kd.R_types HO206.out BK207.out (by decide)) (fun _ hk => hk.2) (.slice Ao15 y204.length co15)) (fun _ h_ => h_.1)))); (case side2 => exact (Kd.R_reads' HO206.out).2.1); rintro e w18 ⟨v209, rfl, ho0, hb⟩; refine ⟨_, rfl, ?_⟩; have n0_ := Aside0.mk (Kd.R_below (by (with_reducible repeat (first | apply Kd.R_alloc | apply Kd.R_drewN | apply Kd.R_drew)); exact (Kd.R_mono (Kd.R_far (p := ⟨gb207, 0, none⟩) (Kd.R_types HO206.out BK207.out (by decide)) (fun _ hk => hk.2) (.slice Ao15 y204.length co15)) (fun _ h_ => h_.1))) hb); have n1_ := Aside0.mk (Kd.S_lower ho0 (below_size (by repeat (first | (with_reducible first | exact HB.out | apply below_alloc | apply pw_below_drewN | apply below_drew1 | refine below_set ?_ GE207.out) | exact HB.out)))); have n2_ := Aside0.mk (blk_below (g := gb207) (o := .cells #[.slice Ao15 y204.length co15] 25 (0, 0)) (by (with_reducible repeat (first | refine blk_drewN ?_ _ | refine blk_drew ?_ | refine blk_alloc ?_ _)); refine blk_put (cs := #[.slice none 0 0]) ?_ 0 _ rfl; (with_reducible repeat (first | refine blk_drewN ?_ _ | refine blk_drew ?_ | refine blk_alloc ?_ _)); exact BK207.out) hb); have n3_ := Aside0.mk (below_step (by repeat (first | (with_reducible first | exact HB.out | apply below_alloc | apply pw_below_drewN | apply below_drew1 | refine below_set ?_ GE207.out) | exact HB.out)) hb); clear HO206; clear BK207; clear HB; have HO206 := n0_; have HO210 := n1_; have BK207 := n2_; have HB := n3_; clear n0_ n1_ n2_ n3_; (try clear hb); (try clear hb2); (try clear hk); (try clear hi); (try clear ho0)) | ((with_reducible refine gate_callee (f := 13) rfl ?_); refine goesL_ (some 26) rfl rfl Tryd.func13 (by kernel_rfl) rfl #[.int .i64 a1] rfl (by (try simp only [List.map_toArray, List.map_cons, List.map_nil]); first | done | rfl | (simp only [List.length_drop, List.length_take]; rfl)) ?_; (with_reducible refine (graph_New.calls a1 t212 _ A9.out).mono ?_); rintro e w19 ⟨v213, rfl, ho0, hb⟩; refine ⟨_, rfl, ?_⟩; have n0_ := Aside0.mk (Kd.R_elder' (by (with_reducible repeat (first | apply Kd.R_alloc | apply Kd.R_drewN | apply Kd.R_drew)); exact HO206.out) (Kd.R_base ho0) hb); have n1_ := Aside0.mk (Kd.S_below (by (with_reducible repeat (first | apply Kd.S_alloc | apply Kd.S_drewN | apply Kd.S_drew)); exact HO210.out) hb); have n2_ := Aside0.mk (Kd.R_lower (Kd.R_new' ho0 (Kd.R_lt (by (with_reducible repeat (first | apply Kd.R_alloc | apply Kd.R_drewN | apply Kd.R_drew)); exact HO206.out))) (below_size (by repeat (first | (with_reducible first | exact HB.out | apply below_alloc | apply pw_below_drewN | apply below_drew1 | refine below_set ?_ GE207.out) | exact HB.out)))); have n3_ := Aside0.mk (blk_below (g := gb207) (o := .cells #[.slice Ao15 y204.length co15] 25 (0, 0)) (by (with_reducible repeat (first | refine blk_drewN ?_ _ | refine blk_drew ?_ | refine blk_alloc ?_ _)); exact BK207.out) hb); have n4_ := Aside0.mk (below_step (by repeat (first | (with_reducible first | exact HB.out | apply below_alloc | apply pw_below_drewN | apply below_drew1 | refine below_set ?_ GE207.out) | exact HB.out)) hb); clear HO206; clear HO210; clear BK207; clear HB; have HO206 := n0_; have HO210 := n1_; have HO214 := n2_; have BK207 := n3_; have HB := n4_; clear n0_ n1_ n2_ n3_ n4_; (try clear hb); (try clear hb2); (try clear hk); (try clear hi); (try clear ho0)) | ((with_reducible refine gate_dst (N := 9) rfl ?_); (try (refine gate_guard (by rfl) ?_; dsimp only)); refine box_event ?hg (N := 9) ?hd (cs := #[.slice none 0 0]) (t := 25) ?hr ?_; (case hd => rfl); (case hg => rfl); (case hr => first | (go_simp; done) | (go_simp; rfl)); intro gb215 hg w20 hbox hb; have n0_ := Aside0.mk (Kd.R_below (by (with_reducible repeat (first | apply Kd.R_alloc | apply Kd.R_drewN | apply Kd.R_drew)); exact HO206.out) hb); have n1_ := Aside0.mk (Kd.S_below (by (with_reducible repeat (first | apply Kd.S_alloc | apply Kd.S_drewN | apply Kd.S_drew)); exact HO210.out) hb); have n2_ := Aside0.mk (Kd.R_below (by (with_reducible repeat (first | apply Kd.R_alloc | apply Kd.R_drewN | apply Kd.R_drew)); exact HO214.out) hb); have n3_ := Aside0.mk (blk_below (g := gb207) (o := .cells #[.slice Ao15 y204.length co15] 25 (0, 0)) (by (with_reducible repeat (first | refine blk_drewN ?_ _ | refine blk_drew ?_ | refine blk_alloc ?_ _)); exact BK207.out) hb); have n4_ := Aside0.mk (below_step (by repeat (first | (with_reducible first | exact HB.out | apply below_alloc | apply pw_below_drewN | apply below_drew1 | refine below_set ?_ GE207.out) | exact HB.out)) hb); have n5_ := Aside0.mk (hbox); have n6_ := Aside0.mk ((by rw [hg]; exact (below_size (by repeat (first | (with_reducible first | exact HB.out | apply below_alloc | apply pw_below_drewN | apply below_drew1 | refine below_set ?_ GE207.out) | exact HB.out))) : w.heap.size ≤ gb215)); have n7_ := Aside0.mk ((by rw [hg]; exact (below_size (by repeat (first | (with_reducible first | exact HB.out | apply below_alloc | apply pw_below_drewN | apply below_drew1 | refine below_set ?_ GE207.out) | exact HB.out))) : w.heap.size ≤ gb215)); have n8_ := Aside0.mk ((by rw [hg]; exact Nat.ne_of_lt (blk_lt (g := gb207) (o := .cells #[.slice Ao15 y204.length co15] 25 (0, 0)) (by (with_reducible repeat (first | refine blk_drewN ?_ _ | refine blk_drew ?_ | refine blk_alloc ?_ _)); exact BK207.out)) : gb207 ≠ gb215)); have n9_ := Aside0.mk ((by rw [hg]; exact Nat.ne_of_gt (blk_lt (g := gb207) (o := .cells #[.slice Ao15 y204.length co15] 25 (0, 0)) (by (with_reducible repeat (first | refine blk_drewN ?_ _ | refine blk_drew ?_ | refine blk_alloc ?_ _)); exact BK207.out)) : gb215 ≠ gb207)); clear HO206; clear HO210; clear HO214; clear BK207; clear HB; have HO206 := n0_; have HO210 := n1_; have HO214 := n2_; have BK207 := n3_; have HB := n4_; have BK215 := n5_; have GW215 := n6_; have GE215 := n7_; have NB207_215 := n8_; have NB215_207 := n9_; clear n0_ n1_ n2_ n3_ n4_ n5_ n6_ n7_ n8_ n9_; clear hb hbox hg; obtain ⟨Ao21, co21, eo21⟩ := Kd.R_slice HO214.out; subst eo21; have hnb22 := NB215_207.out; have hnc22 := NB207_215.out; have hcz23_0 : w20.cell? ⟨gb215, 0, none⟩ = some (.slice none 0 0) := (blk_cell BK215.out 0).trans rfl; have hfz23_0 := blk_frozen BK215.out 0))
        go_loopg [10] k (fun kq v10 w' => ∃ (x10_1 : Int), v10 = .int .i64 x10_1 ∧ Aside0 (arboristlaw08_GraphRights.l0 kq a1 t199 t211 x10_1 y204 t212 = some r) ∧ Aside0 (kq ≤ k) ∧ Aside0 (Kd.R (Kd.int .u64) 30 w' w.heap.size (fun k_ => some k_ ≠ ((.slice Ao21 t212.length co21) : Value).ownBlock) (.slice Ao15 y204.length co15) y204) ∧ Aside0 (Kd.R (Kd.int .u64) 30 w' w.heap.size (fun k_ => some k_ ≠ ((.slice Ao15 y204.length co15) : Value).ownBlock) (.slice Ao21 t212.length co21) t212) ∧ Aside0 (w'.heap[gb207]? = some (.cells #[(.slice Ao15 y204.length co15)] 25 (0, 0))) ∧ Aside0 (w'.heap[gb215]? = some (.cells #[(.slice Ao21 t212.length co21)] 25 (0, 0))) ∧ Aside0 (Below w.heap.size w w'))
        case atStart => exact ⟨(0), (by first | rfl | (simp; done) | (simp [*]; done)), H', ⟨Nat.le_refl _⟩, ⟨by (with_reducible repeat (first | apply Kd.R_alloc | apply Kd.R_drewN | apply Kd.R_drew)); exact Kd.R_mono (Kd.R_far (p := ⟨gb215, 0, none⟩) (Kd.R_types HO206.out BK215.out (by decide)) (fun _ hk => hk.2) (.slice Ao21 t212.length co21)) (fun _ hk => hk.1.2)⟩, ⟨by (with_reducible repeat (first | apply Kd.R_alloc | apply Kd.R_drewN | apply Kd.R_drew)); exact Kd.R_mono (Kd.R_far (p := ⟨gb215, 0, none⟩) (Kd.R_types HO214.out BK215.out (by decide)) (fun _ hk => hk.2) (.slice Ao21 t212.length co21)) (fun _ hk => hk.1.2)⟩, ⟨by (with_reducible repeat (first | refine blk_drewN ?_ _ | refine blk_drew ?_ | refine blk_alloc ?_ _)); refine blk_far ?_ NB207_215.out _; (with_reducible repeat (first | refine blk_drewN ?_ _ | refine blk_drew ?_ | refine blk_alloc ?_ _)); exact BK207.out⟩, ⟨by (with_reducible repeat (first | refine blk_drewN ?_ _ | refine blk_drew ?_ | refine blk_alloc ?_ _)); refine blk_put (cs := #[.slice none 0 0]) ?_ 0 _ rfl; (with_reducible repeat (first | refine blk_drewN ?_ _ | refine blk_drew ?_ | refine blk_alloc ?_ _)); exact BK215.out⟩, ⟨by repeat (first | (with_reducible first | exact HB.out | apply below_alloc | apply pw_below_drewN | apply below_drew1 | refine below_set ?_ GE207.out | refine below_set ?_ GE215.out) | exact HB.out)⟩⟩
        case round =>
          clear H'
          try clear c1
          try clear c2
          try clear p2
          try clear c3
          try clear c5
          try clear c5b0
          try clear c5b1
          try clear c6
          try clear c6b0
          try clear c6b1
          try clear c7
          try clear c11
          try clear c12
          try clear c13
          try clear c22
          try clear hcz17_0
          try clear hcz23_0
          try clear hfz17_0
          try clear hfz23_0
          obtain ⟨x10_1, rfl, HA, HK1, HO_208000, HO_216000, BK207, BK215, HB⟩ := hrel
          cases gk with
          | zero => exact absurd HA.out (by simp [arboristlaw08_GraphRights.l0])
          | succ k1 =>
            have H := HA.out
            clear HA
            simp only [arboristlaw08_GraphRights.l0] at H
            by_cases c24 : x10_1 < (t212.length : Int)
            · rw [if_pos c24] at H
              have c24b0 : decide (x10_1 < (t212.length : Int)) = true := decide_eq_true c24
              clear c24
              by_cases c25 : 0 ≤ x10_1
              · rw [if_pos c25] at H
                have c25b0 : decide (0 ≤ x10_1) = true := decide_eq_true c25
                clear c25
                by_cases c26 : (rd t212 x10_1) = 0
                · rw [if_pos c26] at H
                  have c26b0 : ((rd t212 x10_1) == 0) = true := beq_iff_eq.mpr c26
                  have c26b1 : ((rd t212 x10_1) != 0) = false := bne_eq_false_iff_eq.mpr c26
                  clear c26
                  have H' := Aside0.mk H
                  clear H
                  have hnb27 := NB215_207.out
                  have hnc27 := NB207_215.out
                  have hcz28_0 : wr.cell? ⟨gb215, 0, none⟩ = some (.slice Ao21 t212.length co21) := (blk_cell BK215.out 0).trans rfl
                  have hfz28_0 := blk_frozen BK215.out 0
                  have p216 : 0 ≤ (x10_1 : Int) := of_decide_eq_true (by first | (with_reducible assumption) | assumption)
                  have q216 : x10_1 < (t212.length : Int) := of_decide_eq_true (by first | (with_reducible assumption) | assumption)
                  obtain ⟨ad216, e216, hx216_0⟩ := Kd.at_int (Kd.R_reads' HO_216000.out).2.2 x10_1 p216 q216
                  cases e216
                  replace p216 := eq_true p216
                  replace q216 := eq_true q216
                  go_wp2
                  go_roundg k1
                  case measure => have := HK1.out; omega
                  case rel => exact ⟨(wrap64 (x10_1 + 1)), (by first | rfl | (simp; done) | (simp [*]; done)), H', ⟨by have := HK1.out; omega⟩, ⟨by (with_reducible repeat (first | apply Kd.R_alloc | apply Kd.R_drewN | apply Kd.R_drew)); exact HO_208000.out⟩, ⟨by (with_reducible repeat (first | apply Kd.R_alloc | apply Kd.R_drewN | apply Kd.R_drew)); exact HO_216000.out⟩, ⟨by (with_reducible repeat (first | refine blk_drewN ?_ _ | refine blk_drew ?_ | refine blk_alloc ?_ _)); exact BK207.out⟩, ⟨by (with_reducible repeat (first | refine blk_drewN ?_ _ | refine blk_drew ?_ | refine blk_alloc ?_ _)); exact BK215.out⟩, ⟨by repeat (first | (with_reducible first | exact HB.out | apply below_alloc | apply pw_below_drewN | apply below_drew1 | refine below_set ?_ GE207.out | refine below_set ?_ GE215.out) | exact HB.out)⟩⟩
                · rw [if_neg c26] at H
                  have c26b0 : ((rd t212 x10_1) == 0) = false := beq_eq_false_iff_ne.mpr c26
                  have c26b1 : ((rd t212 x10_1) != 0) = true := bne_iff_ne.mpr c26
                  exact absurd ((Option.some.inj H).trans HT_.out) (by decide)
              · rw [if_neg c25] at H
                exact absurd H (by simp)
            · rw [if_neg c24] at H
              have c24b0 : decide (x10_1 < (t212.length : Int)) = false := decide_eq_false c24
              clear c24
              by_cases c29 : t199 = true
              · subst c29
                have H1 : ((graph_Right.f k1 y204).bind fun t217 => (if (t217 == t211) = true then (if (t212.length : Int) = (mx 0 (mn a1 40)) then ((graph_Right.f k1 t212).bind fun t218 => (some t218)) else (some false)) else (some false))) = some r := by rw [if_pos rfl] at H; exact H
                clear H
                have H := H1
                clear H1
                replace H := Option.bind_eq_some_iff.mp H
                obtain ⟨t217, A300, H⟩ := H
                replace H : (if (t217 == t211) = true then (if (t212.length : Int) = (mx 0 (mn a1 40)) then ((graph_Right.f k1 t212).bind fun t218 => (some t218)) else (some false)) else (some false)) = some r := H
                have A30 := Aside0.mk A300
                clear A300
                by_cases c31 : (t217 == t211) = true
                · rw [if_pos c31] at H
                  have c31b0 : (t217 == t211) = true := c31
                  (try (have c31b1 : decide (t217 = t211) = true := by simpa using c31))
                  (try (have c31b2 : (t217 == t211) = true := by simpa using c31))
                  clear c31
                  obtain ⟨ji32, hji32⟩ : ∃ j_ : Int, (mn a1 40) = j_ := ⟨_, rfl⟩
                  replace H : (if (t212.length : Int) = (mx 0 (ji32)) then ((graph_Right.f k1 t212).bind fun t218 => (some t218)) else (some false)) = some r := by first | (rw [hji32] at H; exact H) | (simp only [hji32] at H ⊢; exact H)
                  (try rw [hji32] at A30)
                  have hji32_ : (if 40 < a1 then 40 else a1) = ji32 := hji32
                  obtain ⟨ji33, hji33⟩ : ∃ j_ : Int, (mx 0 (ji32)) = j_ := ⟨_, rfl⟩
                  replace H : (if (t212.length : Int) = (ji33) then ((graph_Right.f k1 t212).bind fun t218 => (some t218)) else (some false)) = some r := by first | (rw [hji33] at H; exact H) | (simp only [hji33] at H ⊢; exact H)
                  (try rw [hji33] at A30)
                  have hji33_ : (if 0 < (ji32) then (ji32) else 0) = ji33 := hji33
                  by_cases c34 : (t212.length : Int) = (ji33)
                  · rw [if_pos c34] at H
                    have c34b0 : ((t212.length : Int) == (ji33)) = true := beq_iff_eq.mpr c34
                    have c34b1 : ((t212.length : Int) != (ji33)) = false := bne_eq_false_iff_eq.mpr c34
                    clear c34
                    replace H := Option.bind_eq_some_iff.mp H
                    obtain ⟨t218, A350, H⟩ := H
                    replace H : (some t218) = some r := H
                    have A35 := Aside0.mk A350
                    clear A350
                    obtain rfl := Option.some.inj H
                    have hnb36 := NB215_207.out
                    have hnc36 := NB207_215.out
                    have hcz37_0 : wr.cell? ⟨gb215, 0, none⟩ = some (.slice Ao21 t212.length co21) := (blk_cell BK215.out 0).trans rfl
                    have hfz37_0 := blk_frozen BK215.out 0
                    have hcz38_0 : wr.cell? ⟨gb207, 0, none⟩ = some (.slice Ao15 y204.length co15) := (blk_cell BK207.out 0).trans rfl
                    have hfz38_0 := blk_frozen BK207.out 0
                    go_wp2_with (first | (go_at_call 14; (with_reducible refine (graph_Right.calls (hTb := (by first | exact HTAB.out | exact tab_drewN HTAB.out _ | exact tab_below HTAB.out (by repeat (first | (with_reducible first | exact HB.out | apply below_alloc | apply pw_below_drewN | apply below_drew1 | refine below_set ?_ GE207.out | refine below_set ?_ GE215.out) | exact HB.out)))) k1 _ _ y204 t217 _ ?side1 ?side2 A30.out).mono ?_); (case side1 => repeat (first | exact (Kd.R_reads' HO_208000.out).2.2 | (with_reducible refine Kd.C_alloc ?_ _) | (with_reducible refine Kd.C_drewN ?_ _) | (with_reducible refine Kd.C_drew ?_))); (case side2 => exact (Kd.R_reads' HO_208000.out).2.1); rintro e w39 ⟨rfl, hb⟩; have n0_ := Aside0.mk (Kd.R_below (by (with_reducible repeat (first | apply Kd.R_alloc | apply Kd.R_drewN | apply Kd.R_drew)); exact HO_208000.out) hb); have n1_ := Aside0.mk (Kd.R_below (by (with_reducible repeat (first | apply Kd.R_alloc | apply Kd.R_drewN | apply Kd.R_drew)); exact HO_216000.out) hb); have n2_ := Aside0.mk (blk_below (g := gb207) (o := .cells #[.slice Ao15 y204.length co15] 25 (0, 0)) (by (with_reducible repeat (first | refine blk_drewN ?_ _ | refine blk_drew ?_ | refine blk_alloc ?_ _)); exact BK207.out) hb); have n3_ := Aside0.mk (blk_below (g := gb215) (o := .cells #[.slice Ao21 t212.length co21] 25 (0, 0)) (by (with_reducible repeat (first | refine blk_drewN ?_ _ | refine blk_drew ?_ | refine blk_alloc ?_ _)); exact BK215.out) hb); have n4_ := Aside0.mk (below_step (by repeat (first | (with_reducible first | exact HB.out | apply below_alloc | apply pw_below_drewN | apply below_drew1 | refine below_set ?_ GE207.out | refine below_set ?_ GE215.out) | exact HB.out)) hb); clear HO_208000; clear HO_216000; clear BK207; clear BK215; clear HB; have HO_208000 := n0_; have HO_216000 := n1_; have BK207 := n2_; have BK215 := n3_; have HB := n4_; clear n0_ n1_ n2_ n3_ n4_; (try clear hb); (try clear hb2); (try clear hk); (try clear hi); have hcz40_0 : w39.cell? ⟨gb215, 0, none⟩ = some (.slice Ao21 t212.length co21) := (blk_cell BK215.out 0).trans rfl; have hfz40_0 := blk_frozen BK215.out 0) | (go_at_call 14; (with_reducible refine (graph_Right.calls (hTb := (by first | exact HTAB.out | exact tab_drewN HTAB.out _ | exact tab_below HTAB.out (by repeat (first | (with_reducible first | exact HB.out | apply below_alloc | apply pw_below_drewN | apply below_drew1 | refine below_set ?_ GE207.out | refine below_set ?_ GE215.out) | exact HB.out)))) k1 _ _ t212 t218 _ ?side1 ?side2 A35.out).mono ?_); (case side1 => repeat (first | exact (Kd.R_reads' HO_216000.out).2.2 | (with_reducible refine Kd.C_alloc ?_ _) | (with_reducible refine Kd.C_drewN ?_ _) | (with_reducible refine Kd.C_drew ?_))); (case side2 => exact (Kd.R_reads' HO_216000.out).2.1); rintro e w41 ⟨rfl, hb⟩; have n0_ := Aside0.mk (Kd.R_below (by (with_reducible repeat (first | apply Kd.R_alloc | apply Kd.R_drewN | apply Kd.R_drew)); exact HO_208000.out) hb); have n1_ := Aside0.mk (Kd.R_below (by (with_reducible repeat (first | apply Kd.R_alloc | apply Kd.R_drewN | apply Kd.R_drew)); exact HO_216000.out) hb); have n2_ := Aside0.mk (blk_below (g := gb207) (o := .cells #[.slice Ao15 y204.length co15] 25 (0, 0)) (by (with_reducible repeat (first | refine blk_drewN ?_ _ | refine blk_drew ?_ | refine blk_alloc ?_ _)); exact BK207.out) hb); have n3_ := Aside0.mk (blk_below (g := gb215) (o := .cells #[.slice Ao21 t212.length co21] 25 (0, 0)) (by (with_reducible repeat (first | refine blk_drewN ?_ _ | refine blk_drew ?_ | refine blk_alloc ?_ _)); exact BK215.out) hb); have n4_ := Aside0.mk (below_step (by repeat (first | (with_reducible first | exact HB.out | apply below_alloc | apply pw_below_drewN | apply below_drew1 | refine below_set ?_ GE207.out | refine below_set ?_ GE215.out) | exact HB.out)) hb); clear HO_208000; clear HO_216000; clear BK207; clear BK215; clear HB; have HO_208000 := n0_; have HO_216000 := n1_; have BK207 := n2_; have BK215 := n3_; have HB := n4_; clear n0_ n1_ n2_ n3_ n4_; (try clear hb); (try clear hb2); (try clear hk); (try clear hi)))
                    go_ret
                    exact ⟨by first | rfl | (simp [errW_none, errW_some] <;> rfl) | (simp only [← hji4, ← hji32, ← hji33]; first | rfl | (simp [errW_none, errW_some] <;> rfl)) | (simp [*, errW_none, errW_some] <;> rfl), by repeat (first | (with_reducible first | exact HB.out | apply below_alloc | apply pw_below_drewN | apply below_drew1 | refine below_set ?_ GE207.out | refine below_set ?_ GE215.out) | exact HB.out)⟩
                  · rw [if_neg c34] at H
                    have c34b0 : ((t212.length : Int) == (ji33)) = false := beq_eq_false_iff_ne.mpr c34
                    have c34b1 : ((t212.length : Int) != (ji33)) = true := bne_iff_ne.mpr c34
                    exact absurd ((Option.some.inj H).trans HT_.out) (by decide)
                · rw [if_neg c31] at H
                  have c31b0 : (t217 == t211) = false := by simpa using c31
                  (try (have c31b1 : decide (t217 = t211) = false := by simpa using c31))
                  (try (have c31b2 : (t217 == t211) = false := by simpa using c31))
                  (try (have c31b3 : ¬ (t217 = t211) := by simpa using c31))
                  clear c31
                  exact absurd ((Option.some.inj H).trans HT_.out) (by decide)
              · replace c29 := Bool.eq_false_iff.mpr c29
                subst c29
                have H1 : (some false) = some r := by rw [if_neg (show ¬ (false = true) by decide)] at H; exact H
                clear H
                have H := H1
                clear H1
                exact absurd ((Option.some.inj H).trans HT_.out) (by decide)
      · rw [if_neg c7] at H
        exact absurd H (by simp)
    · rw [if_neg c6] at H
      exact absurd H (by simp)
  · rw [if_neg c5] at H
    exact absurd H (by simp)

/-- THE ONE PURE STATEMENT of arboristlaw08_GraphRights. -/
def arboristlaw08_GraphRights.Pure : Prop := ∀ (l0 : List Int) (a1 : Int), (l0.length ≤ maxLen ∧ ∀ z0 ∈ l0, (Lit.int .u64 z0).wf = true) → (Lit.int .i64 a1).wf = true → ∃ k, arboristlaw08_GraphRights.f k l0 a1 = some true

/-! ### arboristref08_Empty: function 33 -/
def arboristref08_Empty.l0 : Nat → Int → List (List Bool) → Int → Option ((List (List Bool)))
  | 0, _, _, _ => none
  | k + 1, x0, x3, x4 => if x4 < x0 then (if 0 ≤ x0 then (if (x0 : Int).toNat ≤ 281474976710656 then (if x3.length < 5864062014805 then (arboristref08_Empty.l0 k x0 (x3 ++ [(List.replicate (x0 : Int).toNat false)]) (wrap64 (x4 + 1))) else (none)) else (none)) else (none)) else (some x3)
def arboristref08_Empty.f (k : Nat) (a0 : Int) : Option ((List (List Bool))) := arboristref08_Empty.l0 k a0 (([] : List (List Bool))) 0
theorem arboristref08_Empty.mono_l : ∀ k, (∀ y0 y1 y2, LeO (arboristref08_Empty.l0 k y0 y1 y2) (arboristref08_Empty.l0 (k + 1) y0 y1 y2))
  | 0 => fun _ _ _ r h => by simp [arboristref08_Empty.l0] at h
  | k + 1 => by
    have ih0 := arboristref08_Empty.mono_l k
    all_goals intros
    all_goals (first | unfold arboristref08_Empty.l0)
    all_goals repeat' first
    | (with_reducible exact ih0 _ _ _)
    | (with_reducible exact LeO.refl _)
    | (with_reducible exact LeO.none _)
    | (with_reducible refine LeO.ite ?_ ?_)
    | (with_reducible refine LeO.bind ?_ (fun _ => ?_))
    | exact ih0 _ _ _
    | exact LeO.none _
    | refine LeO.ite ?_ ?_
    | refine LeO.bind ?_ (fun _ => ?_)
theorem arboristref08_Empty.mono : ∀ a0 k, LeO (arboristref08_Empty.f k a0) (arboristref08_Empty.f (k + 1) a0) := by
  intro a0 k
  have ih0 := arboristref08_Empty.mono_l k
  unfold arboristref08_Empty.f
  repeat' first
      | (with_reducible exact ih0 _ _ _)
      | (with_reducible exact LeO.refl _)
      | (with_reducible exact LeO.none _)
      | (with_reducible refine LeO.ite ?_ ?_)
      | (with_reducible refine LeO.bind ?_ (fun _ => ?_))
      | exact ih0 _ _ _
      | exact LeO.none _
      | refine LeO.ite ?_ ?_
      | refine LeO.bind ?_ (fun _ => ?_)
set_option maxHeartbeats 8000000 in
set_option maxRecDepth 100000 in
theorem arboristref08_Empty.calls (k : Nat) (a0 : Int) (r : List (List Bool)) (w : World) (h : arboristref08_Empty.f k a0 = some r) :
    Calls Tryd.prog 33 #[.int .i64 a0] w fun e w' => ∃ v0_ : Value, e = .returned (v0_) ∧ Kd.S (Kd.slice 4 Kd.bool) 37 w' w.heap.size (fun _ => True) v0_ r ∧ Below w.heap.size w w' := by
  have HB := Aside0.mk (Below.refl w.heap.size w)
  have H : (arboristref08_Empty.l0 k a0 (([] : List (List Bool))) 0) = some r := h
  clear h
  obtain ⟨y219, hy219⟩ : ∃ y_ : List (List Bool), y_ = (([] : List (List Bool))) := ⟨_, rfl⟩
  replace H : (arboristref08_Empty.l0 k a0 y219 0) = some r := by first | (rw [hy219]; with_reducible exact H) | (have H2_ := (Option.bind_some _ _).symm.trans H; rw [hy219]; with_reducible exact H2_) | (have H2_ := (Option.bind_some _ _).symm.trans H; with_reducible exact H2_) | with_reducible exact H | (rw [hy219]; exact H) | exact H
  have Ny219 := Aside0.mk hy219
  clear hy219
  have H' := Aside0.mk H
  clear H
  go_enter Tryd.func33, Tryd.ntmps33
  go_wp2_with (first | ((with_reducible refine gate_dst (N := 5) rfl ?_); refine Kd.S_lit (Kd.slice 4 Kd.bool) _ 37 ?hg (N := 5) ?hd (xs := ([] : List (List Bool))) (inner := []) (ok := fun _ => True) (okp := fun _ => True) ?hr ?hp (fun _ hk => hk) trivial (Below.refl _ _) (Nat.le_refl _) (by simp) ?_; (case hd => rfl); (case hg => rfl); (case hr => first | (go_simp; done) | (go_simp; rfl)); (case hp => exact (Reps.none _ _)); intro v220 w2 ho3 hb hg_ hnew_; clear hg_ hnew_; (first | rw [← Ny219.out] at ho3 | (simp only [Int.reduceToNat] at ho3; rw [← Ny219.out] at ho3)); have n0_ := Aside0.mk (Kd.S_lower ho3 (below_size (by repeat (first | (with_reducible first | exact HB.out | apply below_alloc | apply pw_below_drewN | apply below_drew1) | exact HB.out)))); have n1_ := Aside0.mk (below_step (by repeat (first | (with_reducible first | exact HB.out | apply below_alloc | apply pw_below_drewN | apply below_drew1) | exact HB.out)) hb); clear HB; have HO221 := n0_; have HB := n1_; clear n0_ n1_; clear hb ho3))
  go_loopg [3, 4] k (fun kq v3 v4 w' => ∃ (x3_1 : List (List Bool)) (x4_1 : Int), v4 = .int .i64 x4_1 ∧ Aside0 (arboristref08_Empty.l0 kq a0 x3_1 x4_1 = some r) ∧ Aside0 (kq ≤ k) ∧ Aside0 (Kd.S (Kd.slice 4 Kd.bool) 37 w' w.heap.size (fun _ => True) v3 x3_1) ∧ Aside0 (Below w.heap.size w w'))
  case atStart => exact ⟨(y219), (0), (by first | rfl | (simp; done) | (simp [*]; done)), H', ⟨Nat.le_refl _⟩, ⟨by (with_reducible repeat (first | apply Kd.S_alloc | apply Kd.S_drewN | apply Kd.S_drew)); exact HO221.out⟩, ⟨by repeat (first | (with_reducible first | exact HB.out | apply below_alloc | apply pw_below_drewN | apply below_drew1) | exact HB.out)⟩⟩
  case round =>
    clear H'
    try clear p2
    try clear c3
    obtain ⟨x3_1, x4_1, rfl, HA, HK1, HO_3, HB⟩ := hrel
    cases gk with
    | zero => exact absurd HA.out (by simp [arboristref08_Empty.l0])
    | succ k1 =>
      have H := HA.out
      clear HA
      simp only [arboristref08_Empty.l0] at H
      by_cases c4 : x4_1 < a0
      · rw [if_pos c4] at H
        have c4b0 : decide (x4_1 < a0) = true := decide_eq_true c4
        clear c4
        by_cases c5 : 0 ≤ a0
        · rw [if_pos c5] at H
          have c5b0 := eq_true c5
          have c5b1 : decide (0 ≤ a0) = true := decide_eq_true c5
          clear c5
          by_cases c6 : (a0 : Int).toNat ≤ 281474976710656
          · rw [if_pos c6] at H
            have c6b0 := eq_true c6
            have c6b1 : decide ((a0 : Int).toNat ≤ 281474976710656) = true := decide_eq_true c6
            clear c6
            obtain ⟨y222, hy222⟩ : ∃ y_ : List Bool, y_ = (List.replicate (a0 : Int).toNat false) := ⟨_, rfl⟩
            replace H : (if x3_1.length < 5864062014805 then (arboristref08_Empty.l0 k1 a0 (x3_1 ++ [y222]) (wrap64 (x4_1 + 1))) else (none)) = some r := by first | (rw [hy222]; with_reducible exact H) | (have H2_ := (Option.bind_some _ _).symm.trans H; rw [hy222]; with_reducible exact H2_) | (have H2_ := (Option.bind_some _ _).symm.trans H; with_reducible exact H2_) | with_reducible exact H | (rw [hy222]; exact H) | exact H
            have Ny222 := Aside0.mk hy222
            clear hy222
            by_cases c7 : x3_1.length < 5864062014805
            · rw [if_pos c7] at H
              have LMc7 := Aside0.mk c7
              clear c7
              obtain ⟨y225, hy225⟩ : ∃ y_ : List (List Bool), y_ = (x3_1 ++ [y222]) := ⟨_, rfl⟩
              replace H : (arboristref08_Empty.l0 k1 a0 y225 (wrap64 (x4_1 + 1))) = some r := by first | (rw [hy225]; with_reducible exact H) | (have H2_ := (Option.bind_some _ _).symm.trans H; rw [hy225]; with_reducible exact H2_) | (have H2_ := (Option.bind_some _ _).symm.trans H; with_reducible exact H2_) | with_reducible exact H | (rw [hy225]; exact H) | exact H
              have Ny225 := Aside0.mk hy225
              clear hy225
              have H' := Aside0.mk H
              clear H
              go_wp2_with (first | ((with_reducible refine gate_dst (N := 13) rfl ?_); refine Kd.R_make Kd.bool _ 4 rfl (N := 13) rfl 37 _ _ rfl a0 rfl rfl Tryd.underlying37 (.bool false) 1 info4 rfl (by decide) (by omega) false (ok := fun _ => True) (okp := fun _ => True) rfl (fun _ hk => hk) trivial (of_decide_eq_true (by first | (with_reducible assumption) | assumption)) (Nat.le_trans (Nat.mul_le_mul_right _ (of_decide_eq_true (by first | (with_reducible assumption) | assumption) : a0.toNat ≤ 281474976710656)) (by omega)) (Below.refl _ _) (Nat.le_refl _) ?_; intro v223 w8 ho9 hb hg_ hnew_; clear hg_ hnew_; (first | rw [← Ny222.out] at ho9 | (simp only [Int.reduceToNat] at ho9; rw [← Ny222.out] at ho9)); have n0_ := Aside0.mk (Kd.S_elder' (by (with_reducible repeat (first | apply Kd.S_alloc | apply Kd.S_drewN | apply Kd.S_drew)); exact HO_3.out) (Kd.R_base ho9) hb); have n1_ := Aside0.mk (Kd.R_lower ho9 (below_size (by repeat (first | (with_reducible first | exact HB.out | apply below_alloc | apply pw_below_drewN | apply below_drew1) | exact HB.out)))); have n2_ := Aside0.mk (below_step (by repeat (first | (with_reducible first | exact HB.out | apply below_alloc | apply pw_below_drewN | apply below_drew1) | exact HB.out)) hb); clear HO_3; clear HB; have HO_3 := n0_; have HO224 := n1_; have HB := n2_; clear n0_ n1_ n2_; clear hb ho9; obtain ⟨Ao11, co11, eo11⟩ := Kd.R_slice HO224.out; subst eo11) | ((with_reducible refine gate_builtin (b := .append) (xs := #[.tmp 11, .tmp 14]) rfl ?_); at_builtin; refine Kd.S_append (Kd.slice 4 Kd.bool) (w0 := w) w.heap.size rfl (.tmp 11) (.tmp 14) 26 37 (.slice none 0 0) 24 rfl Tryd.underlying26 info37 rfl (by decide) (by omega) u3 x3_1 y222 [.slice Ao11 y222.length co11] (fun _ => True) (fun k_ => some k_ = (.slice Ao11 y222.length co11 : Value).ownBlock) rfl rfl ?aP (fun k_ hk_ => ((Kd.R_mono (ok' := fun k_ => ((fun _ => True)) k_ ∧ some k_ ≠ (u3 : Value).ownBlock) (Kd.R_apart' (HO224.out) (Kd.S_typed HO_3.out) (by decide)) (fun k_ hk => ⟨trivial, hk.2⟩))).1 k_ hk_.symm) ?aF ?aO ?aB ?aS ?aL ?_; (case aP => exact Kd.M_row (Kd.R_mono (Kd.R_tight rfl (Kd.R_mono (ok' := fun k_ => ((fun _ => True)) k_ ∧ some k_ ≠ (u3 : Value).ownBlock) (Kd.R_apart' (HO224.out) (Kd.S_typed HO_3.out) (by decide)) (fun k_ hk => ⟨trivial, hk.2⟩))) (fun _ h_ => h_))); (case aB => exact (by repeat (first | (with_reducible first | exact HB.out | apply below_alloc | apply pw_below_drewN | apply below_drew1) | exact HB.out))); (case aF => exact (fun _ _ => trivial)); (case aO => exact (by (with_reducible repeat (first | apply Kd.S_alloc | apply Kd.S_drewN | apply Kd.S_drew)); exact Kd.S_mono HO_3.out (fun k_ hk => ⟨trivial, fun e_ => hk.2 e_⟩))); (case aS => exact (below_size (by repeat (first | (with_reducible first | exact HB.out | apply below_alloc | apply pw_below_drewN | apply below_drew1) | exact HB.out)))); (case aL => have := LMc7.out; omega); intro v226 w10 ho hb hg hat; rw [← Ny225.out] at ho; have n0_ := Aside0.mk (hb); have n1_ := Aside0.mk (ho); clear HB; clear HO_3; clear HO224; have HB := n0_; have HO227 := n1_; clear n0_ n1_; clear ho hb hg hat))
              go_roundg k1
              case measure => have := HK1.out; omega
              case rel => exact ⟨(y225), (wrap64 (x4_1 + 1)), (by first | rfl | (simp; done) | (simp [*]; done)), H', ⟨by have := HK1.out; omega⟩, ⟨by (with_reducible repeat (first | apply Kd.S_alloc | apply Kd.S_drewN | apply Kd.S_drew)); exact HO227.out⟩, ⟨by repeat (first | (with_reducible first | exact HB.out | apply below_alloc | apply pw_below_drewN | apply below_drew1) | exact HB.out)⟩⟩
            · rw [if_neg c7] at H
              exact absurd H (by simp)
          · rw [if_neg c6] at H
            exact absurd H (by simp)
        · rw [if_neg c5] at H
          exact absurd H (by simp)
      · rw [if_neg c4] at H
        have c4b0 : decide (x4_1 < a0) = false := decide_eq_false c4
        clear c4
        obtain rfl := Option.some.inj H
        go_wp2
        go_ret
        exact ⟨_, by first | rfl | (simp [errW_none, errW_some] <;> rfl) | (simp [*, errW_none, errW_some] <;> rfl), by (with_reducible repeat (first | apply Kd.S_alloc | apply Kd.S_drewN | apply Kd.S_drew)); exact HO_3.out, by repeat (first | (with_reducible first | exact HB.out | apply below_alloc | apply pw_below_drewN | apply below_drew1) | exact HB.out)⟩

end Go.Proofs.YtaodbohfhelokaaDoor.Pr
