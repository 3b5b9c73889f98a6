-- Printed by wip/tools/pp.py over the kit's print.py, several texts in one (wip/tools/mergepr.py); Lean checks it.
import Derived.Test.YtpmfdggbccbfaaaPr0
namespace Go.Proofs.Ytpmfdggbccbfaaa.Pr
open Go.RowKit Go.Proofs.YtpmfdggbccbfaaaW.PrintWords Go.Proofs.YtpmfdggbccbfaaaW.PrintLast Go.Proofs.YtpmfdggbccbfaaaW.PrintMore
attribute [local go_sem] max2_int min2_int max_two min_two max_three min_three max_four min_four
set_option linter.unusedVariables false
set_option linter.unusedSimpArgs false
/-! ### arboristref12_Scopes: function 40 -/
mutual
def arboristref12_Scopes.l0 : Nat → List (List Int) → Int → List (List Int) → List (S69) → List (S73) → Option ((List (List Int)))
 | 0, _, _, _, _, _ => none
 | k + 1, x3, x4, x757000, x757001, x757002 => if x4 < (x757001.length : Int) then (if 0 ≤ x4 then (if x3.length < 5864062014805 then (arboristref12_Scopes.l0 k (x3 ++ [(rd_T69 x757001 x4).f1]) (wrap64 (x4 + 1)) x757000 x757001 x757002) else (none)) else (none)) else (arboristref12_Scopes.l1 k x3 0 x757000 x757001 x757002)
def arboristref12_Scopes.l1 : Nat → List (List Int) → Int → List (List Int) → List (S69) → List (S73) → Option ((List (List Int)))
 | 0, _, _, _, _, _ => none
 | k + 1, x3, x5, x757000, x757001, x757002 => if x5 < (x757002.length : Int) then (if 0 ≤ x5 then (if x3.length < 5864062014805 then (arboristref12_Scopes.l1 k (x3 ++ [(rd_T73 x757002 x5).f0]) (wrap64 (x5 + 1)) x757000 x757001 x757002) else (none)) else (none)) else (some x3)
end
def arboristref12_Scopes.f (k : Nat) (l0_0 : List (List Int)) (l0_1 : List (S69)) (l0_2 : List (S73)) : Option ((List (List Int))) := arboristref12_Scopes.l0 k (([] : List (List Int))) 0 l0_0 l0_1 l0_2
set_option maxHeartbeats 8000000 in
set_option maxRecDepth 100000 in
theorem arboristref12_Scopes.calls (k : Nat) (A0_0 : Option Addr) (c0_0 : Nat) (l0_0 : List (List Int)) (P0_1_ : Nat → Prop) (A0_1 : Option Addr) (c0_1 : Nat) (l0_1 : List (S69)) (P0_2_ : Nat → Prop) (A0_2 : Option Addr) (c0_2 : Nat) (l0_2 : List (S73)) (r : List (List Int)) (w : World) (hr0_0 : Kd.C (Kd.slice 3 (Kd.int .i64)) w A0_0 l0_0.length l0_0) (hc0_0 : l0_0.length ≤ c0_0) (hs0_1 : Kd.V k69 69 w w.heap.size (fun k_ => P0_1_ k_) (.slice A0_1 l0_1.length c0_1) l0_1) (hs0_2 : Kd.V k73 73 w w.heap.size (fun k_ => P0_2_ k_) (.slice A0_2 l0_2.length c0_2) l0_2) (h : arboristref12_Scopes.f k l0_0 l0_1 l0_2 = some r) :
  Calls Try.prog 40 #[.agg #[.slice A0_0 l0_0.length c0_0, .slice A0_1 l0_1.length c0_1, .slice A0_2 l0_2.length c0_2]] w fun e w' => ∃ v0_ : Value, e = .returned (v0_) ∧ Kd.N (Kd.slice 3 (Kd.int .i64)) 23 w' w.heap.size (fun k_ => ((P0_1_ k_ ∨ P0_2_ k_) ∨ w.heap.size ≤ k_)) v0_ r ∧ Below w.heap.size w w' := by
 have hu49 := Try.underlying49;have HR0_0 := Aside0.mk hr0_0;have HC0_0 := Aside0.mk hc0_0;clear hr0_0 hc0_0;have HO0_1 := Aside0.mk (show Kd.V k69 69 w w.heap.size (fun k_ => ((P0_1_ k_ ∨ P0_2_ k_) ∨ w.heap.size ≤ k_)) (.slice A0_1 l0_1.length c0_1) l0_1 from Kd.V_mono hs0_1 (fun k_ hk => .inl (.inl hk)));have HO0_2 := Aside0.mk (show Kd.V k73 73 w w.heap.size (fun k_ => ((P0_1_ k_ ∨ P0_2_ k_) ∨ w.heap.size ≤ k_)) (.slice A0_2 l0_2.length c0_2) l0_2 from Kd.V_mono hs0_2 (fun k_ hk => .inl (.inr hk)));have HB := Aside0.mk (Below.refl w.heap.size w);have H : (arboristref12_Scopes.l0 k (([] : List (List Int))) 0 l0_0 l0_1 l0_2) = some r := h;clear h;obtain ⟨y757, hy757⟩ : ∃ y_ : List (List Int), y_ = (([] : List (List Int))) := ⟨_, rfl⟩;replace H : (arboristref12_Scopes.l0 k y757 0 l0_0 l0_1 l0_2) = some r := by first | (rw [hy757]; with_reducible exact H) | (have H2_ := (Option.bind_some _ _).symm.trans H; rw [hy757]; with_reducible exact H2_) | (have H2_ := (Option.bind_some _ _).symm.trans H; with_reducible exact H2_) | with_reducible exact H | (rw [hy757]; exact H) | exact H
 have Ny757 := Aside0.mk hy757;clear hy757;have H' := Aside0.mk H;clear H;go_enter Try.func40, Try.ntmps40
 go_wp2_with (first | ((with_reducible refine gate_dst (N := 1) rfl ?_); refine box_event ?hg (N := 1) ?hd (cs := #[.slice A0_0 l0_0.length c0_0, .slice A0_1 l0_1.length c0_1, .slice A0_2 l0_2.length c0_2]) (t := 49) ?hr ?_; (case hd => rfl); (case hg => rfl); (case hr => first | (go_simp; done) | (go_simp; rfl)); intro gb756 hg w2 hbox hb; have n0_ := Aside0.mk (Kd.V_below (Kd.V_elderB (by (with_reducible repeat (first | apply Kd.V_alloc | apply Kd.V_drewN | apply Kd.V_drew)); exact HO0_1.out) gb756 (Nat.le_of_eq hg.symm)) hb); have n1_ := Aside0.mk (Kd.V_below (Kd.V_elderB (by (with_reducible repeat (first | apply Kd.V_alloc | apply Kd.V_drewN | apply Kd.V_drew)); exact HO0_2.out) gb756 (Nat.le_of_eq hg.symm)) hb); have n2_ := Aside0.mk (below_step (qB HB.out) hb); have n3_ := Aside0.mk (hbox); have n4_ := Aside0.mk ((by rw [hg]; exact (below_size (qB HB.out)) : w.heap.size ≤ gb756)); have n5_ := Aside0.mk ((by rw [hg]; exact (below_size (qB HB.out)) : w.heap.size ≤ gb756)); clear HO0_1; clear HO0_2; clear HB; have HO0_1 := n0_; have HO0_2 := n1_; have HB := n2_; have BK756 := n3_; have GW756 := n4_; have GE756 := n5_; clear n0_ n1_ n2_ n3_ n4_ n5_; clear hb hbox hg) | ((with_reducible refine gate_dst (N := 6) rfl ?_); refine Kd.N_lit (Kd.slice 3 (Kd.int .i64)) _ 23 ?hg (N' := 6) ?hd (xs := ([] : List (List Int))) (inner := []) (ok := (fun k_ => ((P0_1_ k_ ∨ P0_2_ k_) ∨ w.heap.size ≤ k_) ∧ k_ ≠ gb756)) (okp := (fun k_ => ((P0_1_ k_ ∨ P0_2_ k_) ∨ w.heap.size ≤ k_) ∧ k_ ≠ gb756)) ?hr ?hp (fun _ hk => hk) ((show ∀ k_, w2.heap.size ≤ k_ → (fun k_ => ((P0_1_ k_ ∨ P0_2_ k_) ∨ w.heap.size ≤ k_) ∧ k_ ≠ gb756) k_ from fun k_ hk => ⟨(.inr (Nat.le_trans (below_size (by repeat (first | (with_reducible first | exact HB.out | apply below_alloc | apply pw_below_drewN | apply below_drew1 | refine below_set ?_ GE756.out) | exact HB.out))) hk)), Kd.freshB (g := gb756) (o := .cells #[.slice A0_0 l0_0.length c0_0, .slice A0_1 l0_1.length c0_1, .slice A0_2 l0_2.length c0_2] 49 (0, 0)) (qK BK756.out) k_ hk⟩) _ (Nat.le_refl _)) (Below.refl _ _) (Nat.le_refl _) (by simp) ?_; (case hd => rfl); (case hg => rfl); (case hr => first | (go_simp; done) | (go_simp; rfl)); (case hp => exact (Reps.none _ _)); intro v758 w3 ho4 hb hg_ hnew_; clear hg_ hnew_; (first | rw [← Ny757.out] at ho4 | (simp only [Int.reduceToNat] at ho4; rw [← Ny757.out] at ho4)); have n0_ := Aside0.mk (Kd.V_elder' (by (with_reducible repeat (first | apply Kd.V_alloc | apply Kd.V_drewN | apply Kd.V_drew)); exact HO0_1.out) (by first | exact Kd.N_base ho4 | exact Kd.N_base (Kd.S_N ho4)) hb); have n1_ := Aside0.mk (Kd.V_elder' (by (with_reducible repeat (first | apply Kd.V_alloc | apply Kd.V_drewN | apply Kd.V_drew)); exact HO0_2.out) (by first | exact Kd.N_base ho4 | exact Kd.N_base (Kd.S_N ho4)) hb); have n2_ := Aside0.mk (Kd.N_lower ho4 (below_size (by repeat (first | (with_reducible first | exact HB.out | apply below_alloc | apply pw_below_drewN | apply below_drew1 | refine below_set ?_ GE756.out) | exact HB.out)))); have n3_ := Aside0.mk (blk_below (g := gb756) (o := .cells #[.slice A0_0 l0_0.length c0_0, .slice A0_1 l0_1.length c0_1, .slice A0_2 l0_2.length c0_2] 49 (0, 0)) (qK BK756.out) hb); have n4_ := Aside0.mk (below_step (by repeat (first | (with_reducible first | exact HB.out | apply below_alloc | apply pw_below_drewN | apply below_drew1 | refine below_set ?_ GE756.out) | exact HB.out)) hb); clear HO0_1; clear HO0_2; clear BK756; clear HB; have HO0_1 := n0_; have HO0_2 := n1_; have HO759 := n2_; have BK756 := n3_; have HB := n4_; clear n0_ n1_ n2_ n3_ n4_; clear hb ho4))
 go_loopg [3, 4] k (fun kq v3 v4 w' => ∃ (x3_1 : List (List Int)) (x4_1 : Int), v4 = .int .i64 x4_1 ∧ Aside0 (arboristref12_Scopes.l0 kq x3_1 x4_1 l0_0 l0_1 l0_2 = some r) ∧ Aside0 (kq ≤ k) ∧ Aside0 (Kd.N (Kd.slice 3 (Kd.int .i64)) 23 w' w.heap.size (fun k_ => ((P0_1_ k_ ∨ P0_2_ k_) ∨ w.heap.size ≤ k_) ∧ k_ ≠ gb756) v3 x3_1) ∧ Aside0 (Kd.V k69 69 w' w.heap.size (fun k_ => ((P0_1_ k_ ∨ P0_2_ k_) ∨ w.heap.size ≤ k_) ∧ some k_ ≠ (v3 : Value).ownBlock ∧ k_ ≠ gb756) (.slice A0_1 l0_1.length c0_1) l0_1) ∧ Aside0 (Kd.V k73 73 w' w.heap.size (fun k_ => ((P0_1_ k_ ∨ P0_2_ k_) ∨ w.heap.size ≤ k_) ∧ some k_ ≠ (v3 : Value).ownBlock ∧ k_ ≠ gb756) (.slice A0_2 l0_2.length c0_2) l0_2) ∧ Aside0 (w'.heap[gb756]? = some (.cells #[(.slice A0_0 l0_0.length c0_0), (.slice A0_1 l0_1.length c0_1), (.slice A0_2 l0_2.length c0_2)] 49 (0, 0))) ∧ Aside0 (Below w.heap.size w w'))
 case atStart => exact ⟨(y757), (0), (by first | rfl | (simp; done) | (simp [*]; done)), H', ⟨Nat.le_refl _⟩, ⟨qN HO759.out⟩, ⟨by (with_reducible repeat (first | apply Kd.V_alloc | apply Kd.V_drewN | apply Kd.V_drew)); exact Kd.V_mono HO0_1.out (fun _ hk => ⟨hk.1.1, ⟨hk.2, hk.1.2⟩⟩)⟩, ⟨by (with_reducible repeat (first | apply Kd.V_alloc | apply Kd.V_drewN | apply Kd.V_drew)); exact Kd.V_mono HO0_2.out (fun _ hk => ⟨hk.1.1, ⟨hk.2, hk.1.2⟩⟩)⟩, ⟨qK BK756.out⟩, ⟨qB1 GE756.out HB.out⟩⟩
 case round =>
  clear H';try clear p2
  try clear c4
  obtain ⟨x3_1, x4_1, rfl, HA, HK1, HO_3, HO_757001, HO_757002, BK756, HB⟩ := hrel;cases gk with
  | zero => exact absurd HA.out (by simp [arboristref12_Scopes.l0])
  | succ k1 =>
   have H := HA.out;clear HA;simp only [arboristref12_Scopes.l0] at H
   by_cases c5 : x4_1 < (l0_1.length : Int)
   ·rw [if_pos c5] at H
    have c5b0 : decide (x4_1 < (l0_1.length : Int)) = true := decide_eq_true c5;clear c5;by_cases c6 : 0 ≤ x4_1
    ·rw [if_pos c6] at H
     have c6b0 : decide (0 ≤ x4_1) = true := decide_eq_true c6;clear c6;by_cases c7 : x3_1.length < 5864062014805
     ·rw [if_pos c7] at H
      have LMc7 := Aside0.mk c7;clear c7;obtain ⟨y761, hy761⟩ : ∃ y_ : List (List Int), y_ = (x3_1 ++ [(rd_T69 l0_1 x4_1).f1]) := ⟨_, rfl⟩;replace H : (arboristref12_Scopes.l0 k1 y761 (wrap64 (x4_1 + 1)) l0_0 l0_1 l0_2) = some r := by first | (rw [hy761]; with_reducible exact H) | (have H2_ := (Option.bind_some _ _).symm.trans H; rw [hy761]; with_reducible exact H2_) | (have H2_ := (Option.bind_some _ _).symm.trans H; with_reducible exact H2_) | with_reducible exact H | (rw [hy761]; exact H) | exact H
      have Ny761 := Aside0.mk hy761;clear hy761;have H' := Aside0.mk H;clear H;have hcz8_0 : wr.cell? ⟨gb756, 0, none⟩ = some (.slice A0_0 l0_0.length c0_0) := (blk_cell BK756.out 0).trans rfl;have hcz8_1 : wr.cell? ⟨gb756, 1, none⟩ = some (.slice A0_1 l0_1.length c0_1) := (blk_cell BK756.out 1).trans rfl;have hcz8_2 : wr.cell? ⟨gb756, 2, none⟩ = some (.slice A0_2 l0_2.length c0_2) := (blk_cell BK756.out 2).trans rfl;have hfz8_0 := blk_frozen BK756.out 0;have hfz8_1 := blk_frozen BK756.out 1;have hfz8_2 := blk_frozen BK756.out 2;have p760 : 0 ≤ (x4_1 : Int) := of_decide_eq_true qA;have q760 : x4_1 < (l0_1.length : Int) := of_decide_eq_true qA;obtain ⟨ad760, A760_1, c760_1, A760_2, c760_2, A760_3, c760_3, e760, hx760_0, hx760_1, hx760_2, hx760_3, hl760_1, hi760_1, hl760_2, hi760_2, hl760_3, hi760_3⟩ := at_T69 (Kd.V_reads' HO_757001.out).2.2 x4_1 p760 q760;cases e760
      obtain ⟨ce760, hce760, hMe760, hcc760⟩ := Kd.V_get HO_757001.out z69 x4_1 p760 (by first | exact q760 | exact of_decide_eq_true qA | (have e_ := (Kd.V_reads' HO_757001.out).1; omega));obtain ⟨ua760_1, uc760_1, ua760_2, uc760_2, ua760_3, uc760_3, rfl, ul760_1, ge760_1, ul760_2, ge760_2, ul760_3, ge760_3⟩ := k69_openF hMe760;have hv760_1 := hcc760 1 _ rfl;rw [add_field _ _ 1 (by omega)] at hv760_1
      replace hv760_1 := Option.some.inj (hv760_1.symm.trans hx760_1);injection hv760_1 with hva_ hvn_ hvc_
      rw [hva_] at ge760_1
      rw [hvc_] at ul760_1
      have HL760_1 := Aside0.mk (show Kd.V (Kd.int .i64) 3 _ w.heap.size _ _ ((rd_T69 l0_1 x4_1).f1) from Kd.V_mk ul760_1 ge760_1);clear hva_ hvn_ hvc_ ge760_1 ul760_1;have hv760_2 := hcc760 2 _ rfl;rw [add_field _ _ 2 (by omega)] at hv760_2
      replace hv760_2 := Option.some.inj (hv760_2.symm.trans hx760_2);injection hv760_2 with hva_ hvn_ hvc_
      rw [hva_] at ge760_2
      rw [hvc_] at ul760_2
      have HL760_2 := Aside0.mk (show Kd.V (Kd.slice 3 (Kd.int .i64)) 23 _ w.heap.size _ _ ((rd_T69 l0_1 x4_1).f2) from Kd.V_mk ul760_2 ge760_2);clear hva_ hvn_ hvc_ ge760_2 ul760_2;have hv760_3 := hcc760 3 _ rfl;rw [add_field _ _ 3 (by omega)] at hv760_3
      replace hv760_3 := Option.some.inj (hv760_3.symm.trans hx760_3);injection hv760_3 with hva_ hvn_ hvc_
      rw [hva_] at ge760_3
      rw [hvc_] at ul760_3
      have HL760_3 := Aside0.mk (show Kd.V (Kd.int .i64) 3 _ w.heap.size _ _ ((rd_T69 l0_1 x4_1).f3) from Kd.V_mk ul760_3 ge760_3);clear hva_ hvn_ hvc_ ge760_3 ul760_3;clear hcc760 hce760;have HR760_1 := Aside0.mk hi760_1;have HC760_1 := Aside0.mk hl760_1;clear hi760_1 hl760_1;have HR760_2 := Aside0.mk hi760_2;have HC760_2 := Aside0.mk hl760_2;clear hi760_2 hl760_2;have HR760_3 := Aside0.mk hi760_3;have HC760_3 := Aside0.mk hl760_3;clear hi760_3 hl760_3;replace p760 := eq_true p760;replace q760 := eq_true q760;go_wp2_with (first | ((with_reducible refine gate_builtin (b := .append) (xs := #[.tmp 14, .tmp 21]) rfl ?_); at_builtin; refine Kd.N_append (Kd.slice 3 (Kd.int .i64)) (w0 := w) w.heap.size rfl (.tmp 14) (.tmp 21) 22 23 (.slice none 0 0) 24 rfl Try.underlying22 info23 rfl (by decide) (by omega) u3 x3_1 ((rd_T69 l0_1 x4_1).f1) [.slice A760_1 ((rd_T69 l0_1 x4_1).f1).length c760_1] (fun k_ => ((P0_1_ k_ ∨ P0_2_ k_) ∨ w.heap.size ≤ k_) ∧ k_ ≠ gb756) (fun k_ => ((fun k_ => ((P0_1_ k_ ∨ P0_2_ k_) ∨ w.heap.size ≤ k_) ∧ k_ ≠ gb756)) k_ ∧ some k_ ≠ (u3 : Value).ownBlock) rfl rfl ?aP (fun _ hk => hk) ?aF ?aO ?aB ?aS ?aL ?_; (case aP => exact (Kd.FK_slice_mk (Kd.V_reads' (Kd.V_mono (ok' := (fun k_ => ((fun k_ => ((P0_1_ k_ ∨ P0_2_ k_) ∨ w.heap.size ≤ k_) ∧ k_ ≠ gb756)) k_ ∧ some k_ ≠ (u3 : Value).ownBlock)) (HL760_1.out) (fun k_ hk => ⟨⟨hk.1, hk.2.2⟩, hk.2.1⟩))).2.1 (Kd.V_F (Kd.V_mono (ok' := (fun k_ => ((fun k_ => ((P0_1_ k_ ∨ P0_2_ k_) ∨ w.heap.size ≤ k_) ∧ k_ ≠ gb756)) k_ ∧ some k_ ≠ (u3 : Value).ownBlock)) (HL760_1.out) (fun k_ hk => ⟨⟨hk.1, hk.2.2⟩, hk.2.1⟩))))); (case aB => exact (by repeat (first | (with_reducible first | exact HB.out | apply below_alloc | apply pw_below_drewN | apply below_drew1 | refine below_set ?_ GE756.out) | exact HB.out))); (case aF => exact (fun k_ hk => ⟨(.inr (Nat.le_trans (below_size (by repeat (first | (with_reducible first | exact HB.out | apply below_alloc | apply pw_below_drewN | apply below_drew1 | refine below_set ?_ GE756.out) | exact HB.out))) hk)), Kd.freshB (g := gb756) (o := .cells #[.slice A0_0 l0_0.length c0_0, .slice (some ad760) l0_1.length c0_1, .slice A0_2 l0_2.length c0_2] 49 (0, 0)) (qK BK756.out) k_ hk⟩)); (case aO => exact (qN HO_3.out)); (case aS => exact (below_size (by repeat (first | (with_reducible first | exact HB.out | apply below_alloc | apply pw_below_drewN | apply below_drew1 | refine below_set ?_ GE756.out) | exact HB.out)))); (case aL => have := LMc7.out; omega); intro v762 w9 ho hb hg hat; rw [← Ny761.out] at ho; have n0_ := Aside0.mk (Kd.V_afterv (ok := (fun k_ => ((P0_1_ k_ ∨ P0_2_ k_) ∨ w.heap.size ≤ k_) ∧ k_ ≠ gb756)) (by (with_reducible repeat (first | apply Kd.V_alloc | apply Kd.V_drewN | apply Kd.V_drew)); exact Kd.V_mono HO_757001.out (fun _ hk => ⟨⟨hk.1, hk.2.2⟩, hk.2.1⟩)) hg hat); have n1_ := Aside0.mk (Kd.V_afterv (ok := (fun k_ => ((P0_1_ k_ ∨ P0_2_ k_) ∨ w.heap.size ≤ k_) ∧ k_ ≠ gb756)) (by (with_reducible repeat (first | apply Kd.V_alloc | apply Kd.V_drewN | apply Kd.V_drew)); exact Kd.V_mono HO_757002.out (fun _ hk => ⟨⟨hk.1, hk.2.2⟩, hk.2.1⟩)) hg hat); have n2_ := Aside0.mk (blk_grown (g := gb756) (o := .cells #[.slice A0_0 l0_0.length c0_0, .slice (some ad760) l0_1.length c0_1, .slice A0_2 l0_2.length c0_2] 49 (0, 0)) (qK BK756.out) hg (Kd.N_ne HO_3.out BK756.out (by decide))); have n3_ := Aside0.mk (Kd.V_afterv (ok := (fun k_ => ((P0_1_ k_ ∨ P0_2_ k_) ∨ w.heap.size ≤ k_) ∧ k_ ≠ gb756)) (by (with_reducible repeat (first | apply Kd.V_alloc | apply Kd.V_drewN | apply Kd.V_drew)); exact Kd.V_mono HL760_1.out (fun _ hk => ⟨⟨hk.1, hk.2.2⟩, hk.2.1⟩)) hg hat); have n4_ := Aside0.mk (Kd.V_afterv (ok := (fun k_ => ((P0_1_ k_ ∨ P0_2_ k_) ∨ w.heap.size ≤ k_) ∧ k_ ≠ gb756)) (by (with_reducible repeat (first | apply Kd.V_alloc | apply Kd.V_drewN | apply Kd.V_drew)); exact Kd.V_mono HL760_2.out (fun _ hk => ⟨⟨hk.1, hk.2.2⟩, hk.2.1⟩)) hg hat); have n5_ := Aside0.mk (Kd.V_afterv (ok := (fun k_ => ((P0_1_ k_ ∨ P0_2_ k_) ∨ w.heap.size ≤ k_) ∧ k_ ≠ gb756)) (by (with_reducible repeat (first | apply Kd.V_alloc | apply Kd.V_drewN | apply Kd.V_drew)); exact Kd.V_mono HL760_3.out (fun _ hk => ⟨⟨hk.1, hk.2.2⟩, hk.2.1⟩)) hg hat); have n6_ := Aside0.mk (hb); have n7_ := Aside0.mk (ho); clear HO_757001; clear HO_757002; clear BK756; clear HL760_1; clear HL760_2; clear HL760_3; clear HB; clear HO_3; have HO_757001 := n0_; have HO_757002 := n1_; have BK756 := n2_; have HL760_1 := n3_; have HL760_2 := n4_; have HL760_3 := n5_; have HB := n6_; have HO763 := n7_; clear n0_ n1_ n2_ n3_ n4_ n5_ n6_ n7_; clear ho hb hg hat))
      go_roundg k1
      case measure => have := HK1.out; omega
      case rel => exact ⟨(y761), (wrap64 (x4_1 + 1)), (by first | rfl | (simp; done) | (simp [*]; done)), H', ⟨by have := HK1.out; omega⟩, ⟨qN HO763.out⟩, ⟨by (with_reducible repeat (first | apply Kd.V_alloc | apply Kd.V_drewN | apply Kd.V_drew)); exact Kd.V_mono HO_757001.out (fun _ hk => ⟨hk.1.1, ⟨hk.2, hk.1.2⟩⟩)⟩, ⟨by (with_reducible repeat (first | apply Kd.V_alloc | apply Kd.V_drewN | apply Kd.V_drew)); exact Kd.V_mono HO_757002.out (fun _ hk => ⟨hk.1.1, ⟨hk.2, hk.1.2⟩⟩)⟩, ⟨qK BK756.out⟩, ⟨qB1 GE756.out HB.out⟩⟩
     ·rw [if_neg c7] at H
      exact absurd H (by simp)
    ·rw [if_neg c6] at H
     exact absurd H (by simp)
   ·rw [if_neg c5] at H
    have c5b0 : decide (x4_1 < (l0_1.length : Int)) = false := decide_eq_false c5;clear c5;have H' := Aside0.mk H;clear H;have hcz10_0 : wr.cell? ⟨gb756, 0, none⟩ = some (.slice A0_0 l0_0.length c0_0) := (blk_cell BK756.out 0).trans rfl;have hcz10_1 : wr.cell? ⟨gb756, 1, none⟩ = some (.slice A0_1 l0_1.length c0_1) := (blk_cell BK756.out 1).trans rfl;have hcz10_2 : wr.cell? ⟨gb756, 2, none⟩ = some (.slice A0_2 l0_2.length c0_2) := (blk_cell BK756.out 2).trans rfl;have hfz10_0 := blk_frozen BK756.out 0;have hfz10_1 := blk_frozen BK756.out 1;have hfz10_2 := blk_frozen BK756.out 2;go_wp2
    go_loopg [3, 5] k1 (fun kq v3 v5 w' => ∃ (x3_2 : List (List Int)) (x5_2 : Int), v5 = .int .i64 x5_2 ∧ Aside0 (arboristref12_Scopes.l1 kq x3_2 x5_2 l0_0 l0_1 l0_2 = some r) ∧ Aside0 (kq ≤ k1) ∧ Aside0 (Kd.N (Kd.slice 3 (Kd.int .i64)) 23 w' w.heap.size (fun k_ => ((P0_1_ k_ ∨ P0_2_ k_) ∨ w.heap.size ≤ k_) ∧ k_ ≠ gb756) v3 x3_2) ∧ Aside0 (Kd.V k69 69 w' w.heap.size (fun k_ => ((P0_1_ k_ ∨ P0_2_ k_) ∨ w.heap.size ≤ k_) ∧ some k_ ≠ (v3 : Value).ownBlock ∧ k_ ≠ gb756) (.slice A0_1 l0_1.length c0_1) l0_1) ∧ Aside0 (Kd.V k73 73 w' w.heap.size (fun k_ => ((P0_1_ k_ ∨ P0_2_ k_) ∨ w.heap.size ≤ k_) ∧ some k_ ≠ (v3 : Value).ownBlock ∧ k_ ≠ gb756) (.slice A0_2 l0_2.length c0_2) l0_2) ∧ Aside0 (w'.heap[gb756]? = some (.cells #[(.slice A0_0 l0_0.length c0_0), (.slice A0_1 l0_1.length c0_1), (.slice A0_2 l0_2.length c0_2)] 49 (0, 0))) ∧ Aside0 (Below w.heap.size w w'))
    case atStart => exact ⟨(x3_1), (0), (by first | rfl | (simp; done) | (simp [*]; done)), H', ⟨Nat.le_refl _⟩, ⟨qN HO_3.out⟩, ⟨by (with_reducible repeat (first | apply Kd.V_alloc | apply Kd.V_drewN | apply Kd.V_drew)); exact HO_757001.out⟩, ⟨by (with_reducible repeat (first | apply Kd.V_alloc | apply Kd.V_drewN | apply Kd.V_drew)); exact HO_757002.out⟩, ⟨qK BK756.out⟩, ⟨qB1 GE756.out HB.out⟩⟩
    case round =>
     clear H';try clear p2
     try clear c4
     try clear c5
     try clear c5b0
     try clear c6
     try clear c6b0
     try clear p6
     try clear c7
     try clear p7
     try clear q7
     try clear hx7
     try clear hcz10_0
     try clear hcz10_1
     try clear hcz10_2
     try clear hcz8_0
     try clear hcz8_1
     try clear hcz8_2
     try clear hfz10_0
     try clear hfz10_1
     try clear hfz10_2
     try clear hfz8_0
     try clear hfz8_1
     try clear hfz8_2
     try clear hx760_0
     try clear hx760_1
     try clear hx760_2
     try clear hx760_3
     try clear p2
     try clear p760
     try clear q760
     obtain ⟨x3_2, x5_2, rfl, HA, HK2, HO_3, HO_757001, HO_757002, BK756, HB⟩ := hrel;cases gk with
     | zero => exact absurd HA.out (by simp [arboristref12_Scopes.l1])
     | succ k2 =>
      have H := HA.out;clear HA;simp only [arboristref12_Scopes.l1] at H
      by_cases c11 : x5_2 < (l0_2.length : Int)
      ·rw [if_pos c11] at H
       have c11b0 : decide (x5_2 < (l0_2.length : Int)) = true := decide_eq_true c11;clear c11;by_cases c12 : 0 ≤ x5_2
       ·rw [if_pos c12] at H
        have c12b0 : decide (0 ≤ x5_2) = true := decide_eq_true c12;clear c12;by_cases c13 : x3_2.length < 5864062014805
        ·rw [if_pos c13] at H
         have LMc13 := Aside0.mk c13;clear c13;obtain ⟨y765, hy765⟩ : ∃ y_ : List (List Int), y_ = (x3_2 ++ [(rd_T73 l0_2 x5_2).f0]) := ⟨_, rfl⟩;replace H : (arboristref12_Scopes.l1 k2 y765 (wrap64 (x5_2 + 1)) l0_0 l0_1 l0_2) = some r := by first | (rw [hy765]; with_reducible exact H) | (have H2_ := (Option.bind_some _ _).symm.trans H; rw [hy765]; with_reducible exact H2_) | (have H2_ := (Option.bind_some _ _).symm.trans H; with_reducible exact H2_) | with_reducible exact H | (rw [hy765]; exact H) | exact H
         have Ny765 := Aside0.mk hy765;clear hy765;have H' := Aside0.mk H;clear H;have hcz14_0 : wr.cell? ⟨gb756, 0, none⟩ = some (.slice A0_0 l0_0.length c0_0) := (blk_cell BK756.out 0).trans rfl;have hcz14_1 : wr.cell? ⟨gb756, 1, none⟩ = some (.slice A0_1 l0_1.length c0_1) := (blk_cell BK756.out 1).trans rfl;have hcz14_2 : wr.cell? ⟨gb756, 2, none⟩ = some (.slice A0_2 l0_2.length c0_2) := (blk_cell BK756.out 2).trans rfl;have hfz14_0 := blk_frozen BK756.out 0;have hfz14_1 := blk_frozen BK756.out 1;have hfz14_2 := blk_frozen BK756.out 2;have p764 : 0 ≤ (x5_2 : Int) := of_decide_eq_true qA;have q764 : x5_2 < (l0_2.length : Int) := of_decide_eq_true qA;obtain ⟨ad764, A764_0, c764_0, A764_1, c764_1, A764_2, c764_2, e764, hx764_0, hx764_1, hx764_2, hx764_3, hl764_0, hi764_0, hl764_1, hi764_1, hl764_2, hi764_2⟩ := at_T73 (Kd.V_reads' HO_757002.out).2.2 x5_2 p764 q764;cases e764
         obtain ⟨ce764, hce764, hMe764, hcc764⟩ := Kd.V_get HO_757002.out z73 x5_2 p764 (by first | exact q764 | exact of_decide_eq_true qA | (have e_ := (Kd.V_reads' HO_757002.out).1; omega));obtain ⟨ua764_0, uc764_0, ua764_1, uc764_1, ua764_2, uc764_2, rfl, ul764_0, ge764_0, ul764_1, ge764_1, ul764_2, ge764_2⟩ := k73_openF hMe764;have hv764_0 := hcc764 0 _ rfl;rw [Nat.add_zero] at hv764_0
         replace hv764_0 := Option.some.inj (hv764_0.symm.trans hx764_0);injection hv764_0 with hva_ hvn_ hvc_
         rw [hva_] at ge764_0
         rw [hvc_] at ul764_0
         have HL764_0 := Aside0.mk (show Kd.V (Kd.int .i64) 3 _ w.heap.size _ _ ((rd_T73 l0_2 x5_2).f0) from Kd.V_mk ul764_0 ge764_0);clear hva_ hvn_ hvc_ ge764_0 ul764_0;have hv764_1 := hcc764 1 _ rfl;rw [add_field _ _ 1 (by omega)] at hv764_1
         replace hv764_1 := Option.some.inj (hv764_1.symm.trans hx764_1);injection hv764_1 with hva_ hvn_ hvc_
         rw [hva_] at ge764_1
         rw [hvc_] at ul764_1
         have HL764_1 := Aside0.mk (show Kd.V (Kd.slice 3 (Kd.int .i64)) 23 _ w.heap.size _ _ ((rd_T73 l0_2 x5_2).f1) from Kd.V_mk ul764_1 ge764_1);clear hva_ hvn_ hvc_ ge764_1 ul764_1;have hv764_2 := hcc764 2 _ rfl;rw [add_field _ _ 2 (by omega)] at hv764_2
         replace hv764_2 := Option.some.inj (hv764_2.symm.trans hx764_2);injection hv764_2 with hva_ hvn_ hvc_
         rw [hva_] at ge764_2
         rw [hvc_] at ul764_2
         have HL764_2 := Aside0.mk (show Kd.V (Kd.int .i64) 2 _ w.heap.size _ _ ((rd_T73 l0_2 x5_2).f2) from Kd.V_mk ul764_2 ge764_2);clear hva_ hvn_ hvc_ ge764_2 ul764_2;clear hcc764 hce764;have HR764_0 := Aside0.mk hi764_0;have HC764_0 := Aside0.mk hl764_0;clear hi764_0 hl764_0;have HR764_1 := Aside0.mk hi764_1;have HC764_1 := Aside0.mk hl764_1;clear hi764_1 hl764_1;have HR764_2 := Aside0.mk hi764_2;have HC764_2 := Aside0.mk hl764_2;clear hi764_2 hl764_2;replace p764 := eq_true p764;replace q764 := eq_true q764;go_wp2_with (first | ((with_reducible refine gate_builtin (b := .append) (xs := #[.tmp 30, .tmp 37]) rfl ?_); at_builtin; refine Kd.N_append (Kd.slice 3 (Kd.int .i64)) (w0 := w) w.heap.size rfl (.tmp 30) (.tmp 37) 22 23 (.slice none 0 0) 24 rfl Try.underlying22 info23 rfl (by decide) (by omega) u3 x3_2 ((rd_T73 l0_2 x5_2).f0) [.slice A764_0 ((rd_T73 l0_2 x5_2).f0).length c764_0] (fun k_ => ((P0_1_ k_ ∨ P0_2_ k_) ∨ w.heap.size ≤ k_) ∧ k_ ≠ gb756) (fun k_ => ((fun k_ => ((P0_1_ k_ ∨ P0_2_ k_) ∨ w.heap.size ≤ k_) ∧ k_ ≠ gb756)) k_ ∧ some k_ ≠ (u3 : Value).ownBlock) rfl rfl ?aP (fun _ hk => hk) ?aF ?aO ?aB ?aS ?aL ?_; (case aP => exact (Kd.FK_slice_mk (Kd.V_reads' (Kd.V_mono (ok' := (fun k_ => ((fun k_ => ((P0_1_ k_ ∨ P0_2_ k_) ∨ w.heap.size ≤ k_) ∧ k_ ≠ gb756)) k_ ∧ some k_ ≠ (u3 : Value).ownBlock)) (HL764_0.out) (fun k_ hk => ⟨⟨hk.1, hk.2.2⟩, hk.2.1⟩))).2.1 (Kd.V_F (Kd.V_mono (ok' := (fun k_ => ((fun k_ => ((P0_1_ k_ ∨ P0_2_ k_) ∨ w.heap.size ≤ k_) ∧ k_ ≠ gb756)) k_ ∧ some k_ ≠ (u3 : Value).ownBlock)) (HL764_0.out) (fun k_ hk => ⟨⟨hk.1, hk.2.2⟩, hk.2.1⟩))))); (case aB => exact (by repeat (first | (with_reducible first | exact HB.out | apply below_alloc | apply pw_below_drewN | apply below_drew1 | refine below_set ?_ GE756.out) | exact HB.out))); (case aF => exact (fun k_ hk => ⟨(.inr (Nat.le_trans (below_size (by repeat (first | (with_reducible first | exact HB.out | apply below_alloc | apply pw_below_drewN | apply below_drew1 | refine below_set ?_ GE756.out) | exact HB.out))) hk)), Kd.freshB (g := gb756) (o := .cells #[.slice A0_0 l0_0.length c0_0, .slice A0_1 l0_1.length c0_1, .slice (some ad764) l0_2.length c0_2] 49 (0, 0)) (qK BK756.out) k_ hk⟩)); (case aO => exact (qN HO_3.out)); (case aS => exact (below_size (by repeat (first | (with_reducible first | exact HB.out | apply below_alloc | apply pw_below_drewN | apply below_drew1 | refine below_set ?_ GE756.out) | exact HB.out)))); (case aL => have := LMc13.out; omega); intro v766 w15 ho hb hg hat; rw [← Ny765.out] at ho; have n0_ := Aside0.mk (Kd.V_afterv (ok := (fun k_ => ((P0_1_ k_ ∨ P0_2_ k_) ∨ w.heap.size ≤ k_) ∧ k_ ≠ gb756)) (by (with_reducible repeat (first | apply Kd.V_alloc | apply Kd.V_drewN | apply Kd.V_drew)); exact Kd.V_mono HO_757001.out (fun _ hk => ⟨⟨hk.1, hk.2.2⟩, hk.2.1⟩)) hg hat); have n1_ := Aside0.mk (Kd.V_afterv (ok := (fun k_ => ((P0_1_ k_ ∨ P0_2_ k_) ∨ w.heap.size ≤ k_) ∧ k_ ≠ gb756)) (by (with_reducible repeat (first | apply Kd.V_alloc | apply Kd.V_drewN | apply Kd.V_drew)); exact Kd.V_mono HO_757002.out (fun _ hk => ⟨⟨hk.1, hk.2.2⟩, hk.2.1⟩)) hg hat); have n2_ := Aside0.mk (blk_grown (g := gb756) (o := .cells #[.slice A0_0 l0_0.length c0_0, .slice A0_1 l0_1.length c0_1, .slice (some ad764) l0_2.length c0_2] 49 (0, 0)) (qK BK756.out) hg (Kd.N_ne HO_3.out BK756.out (by decide))); have n3_ := Aside0.mk (Kd.V_afterv (ok := (fun k_ => ((P0_1_ k_ ∨ P0_2_ k_) ∨ w.heap.size ≤ k_) ∧ k_ ≠ gb756)) (by (with_reducible repeat (first | apply Kd.V_alloc | apply Kd.V_drewN | apply Kd.V_drew)); exact Kd.V_mono HL764_0.out (fun _ hk => ⟨⟨hk.1, hk.2.2⟩, hk.2.1⟩)) hg hat); have n4_ := Aside0.mk (Kd.V_afterv (ok := (fun k_ => ((P0_1_ k_ ∨ P0_2_ k_) ∨ w.heap.size ≤ k_) ∧ k_ ≠ gb756)) (by (with_reducible repeat (first | apply Kd.V_alloc | apply Kd.V_drewN | apply Kd.V_drew)); exact Kd.V_mono HL764_1.out (fun _ hk => ⟨⟨hk.1, hk.2.2⟩, hk.2.1⟩)) hg hat); have n5_ := Aside0.mk (Kd.V_afterv (ok := (fun k_ => ((P0_1_ k_ ∨ P0_2_ k_) ∨ w.heap.size ≤ k_) ∧ k_ ≠ gb756)) (by (with_reducible repeat (first | apply Kd.V_alloc | apply Kd.V_drewN | apply Kd.V_drew)); exact Kd.V_mono HL764_2.out (fun _ hk => ⟨⟨hk.1, hk.2.2⟩, hk.2.1⟩)) hg hat); have n6_ := Aside0.mk (hb); have n7_ := Aside0.mk (ho); clear HO_757001; clear HO_757002; clear BK756; clear HL764_0; clear HL764_1; clear HL764_2; clear HB; clear HO_3; have HO_757001 := n0_; have HO_757002 := n1_; have BK756 := n2_; have HL764_0 := n3_; have HL764_1 := n4_; have HL764_2 := n5_; have HB := n6_; have HO767 := n7_; clear n0_ n1_ n2_ n3_ n4_ n5_ n6_ n7_; clear ho hb hg hat))
         go_roundg k2
         case measure => have := HK1.out; have := HK2.out; omega
         case rel => exact ⟨(y765), (wrap64 (x5_2 + 1)), (by first | rfl | (simp; done) | (simp [*]; done)), H', ⟨by have := HK1.out; have := HK2.out; omega⟩, ⟨qN HO767.out⟩, ⟨by (with_reducible repeat (first | apply Kd.V_alloc | apply Kd.V_drewN | apply Kd.V_drew)); exact Kd.V_mono HO_757001.out (fun _ hk => ⟨hk.1.1, ⟨hk.2, hk.1.2⟩⟩)⟩, ⟨by (with_reducible repeat (first | apply Kd.V_alloc | apply Kd.V_drewN | apply Kd.V_drew)); exact Kd.V_mono HO_757002.out (fun _ hk => ⟨hk.1.1, ⟨hk.2, hk.1.2⟩⟩)⟩, ⟨qK BK756.out⟩, ⟨qB1 GE756.out HB.out⟩⟩
        ·rw [if_neg c13] at H
         exact absurd H (by simp)
       ·rw [if_neg c12] at H
        exact absurd H (by simp)
      ·rw [if_neg c11] at H
       have c11b0 : decide (x5_2 < (l0_2.length : Int)) = false := decide_eq_false c11;clear c11;obtain rfl := Option.some.inj H;have hcz16_0 : wr.cell? ⟨gb756, 0, none⟩ = some (.slice A0_0 l0_0.length c0_0) := (blk_cell BK756.out 0).trans rfl;have hcz16_1 : wr.cell? ⟨gb756, 1, none⟩ = some (.slice A0_1 l0_1.length c0_1) := (blk_cell BK756.out 1).trans rfl;have hcz16_2 : wr.cell? ⟨gb756, 2, none⟩ = some (.slice A0_2 l0_2.length c0_2) := (blk_cell BK756.out 2).trans rfl;have hfz16_0 := blk_frozen BK756.out 0;have hfz16_1 := blk_frozen BK756.out 1;have hfz16_2 := blk_frozen BK756.out 2;go_wp2
       go_ret
       exact ⟨_, by first | rfl | (simp [errW_none, errW_some] <;> rfl) | (simp [*, errW_none, errW_some] <;> rfl), by (with_reducible repeat (first | apply Kd.N_alloc | apply Kd.N_drewN | apply Kd.N_drew)); exact Kd.N_mono HO_3.out (fun _ hk => hk.1), by repeat (first | (with_reducible first | exact HB.out | apply below_alloc | apply pw_below_drewN | apply below_drew1 | refine below_set ?_ GE756.out) | exact HB.out)⟩
end Go.Proofs.Ytpmfdggbccbfaaa.Pr
namespace Go.Proofs.Ytpmfdggbccbfaaa.Pr
open Go.RowKit Go.Proofs.YtpmfdggbccbfaaaW.PrintWords Go.Proofs.YtpmfdggbccbfaaaW.PrintLast Go.Proofs.YtpmfdggbccbfaaaW.PrintMore
attribute [local go_sem] max2_int min2_int max_two min_two max_three min_three max_four min_four
set_option linter.unusedVariables false
set_option linter.unusedSimpArgs false
/-! ### arboristref09_Copy: function 81 -/
def arboristref09_Copy.l0 : Nat → List (List Bool) → List (List Bool) → Int → Option ((List (List Bool)))
 | 0, _, _, _ => none
 | k + 1, x0, x3, x4 => if x4 < (x0.length : Int) then ((some (([] : List Bool) : List Bool)).bind fun y771 => (if 0 ≤ x4 then (if y771.length + (rd_L8 x0 x4).length < 140737488355328 then (if x3.length < 5864062014805 then (arboristref09_Copy.l0 k x0 (x3 ++ [(y771 ++ (rd_L8 x0 x4))]) (wrap64 (x4 + 1))) else (none)) else (none)) else (none))) else (some x3)
def arboristref09_Copy.f (k : Nat) (l0 : List (List Bool)) : Option ((List (List Bool))) := arboristref09_Copy.l0 k l0 (([] : List (List Bool))) 0
set_option maxHeartbeats 8000000 in
set_option maxRecDepth 100000 in
theorem arboristref09_Copy.calls (k : Nat) (A0 : Option Addr) (c0 : Nat) (l0 : List (List Bool)) (r : List (List Bool)) (w : World) (hr0 : Kd.C (Kd.slice 4 Kd.bool) w A0 l0.length l0) (hc0 : l0.length ≤ c0) (h : arboristref09_Copy.f k l0 = some r) :
  Calls Try.prog 81 #[.slice A0 l0.length c0] w fun e w' => ∃ v0_ : Value, e = .returned (v0_) ∧ Kd.S (Kd.slice 4 Kd.bool) 58 w' w.heap.size (fun _ => True) v0_ r ∧ Below w.heap.size w w' := by
 have HR0 := Aside0.mk hr0;have HC0 := Aside0.mk hc0;clear hr0 hc0;have HB := Aside0.mk (Below.refl w.heap.size w);have H : (arboristref09_Copy.l0 k l0 (([] : List (List Bool))) 0) = some r := h;clear h;obtain ⟨y768, hy768⟩ : ∃ y_ : List (List Bool), y_ = (([] : List (List Bool))) := ⟨_, rfl⟩;replace H : (arboristref09_Copy.l0 k l0 y768 0) = some r := by first | (rw [hy768]; with_reducible exact H) | (have H2_ := (Option.bind_some _ _).symm.trans H; rw [hy768]; with_reducible exact H2_) | (have H2_ := (Option.bind_some _ _).symm.trans H; with_reducible exact H2_) | with_reducible exact H | (rw [hy768]; exact H) | exact H
 have Ny768 := Aside0.mk hy768;clear hy768;have H' := Aside0.mk H;clear H;go_enter Try.func81, Try.ntmps81
 go_wp2_with (first | ((with_reducible refine gate_dst (N := 5) rfl ?_); refine Kd.S_lit (Kd.slice 4 Kd.bool) _ 58 ?hg (N := 5) ?hd (xs := ([] : List (List Bool))) (inner := []) (ok := fun _ => True) (okp := fun _ => True) ?hr ?hp (fun _ hk => hk) trivial (Below.refl _ _) (Nat.le_refl _) (by simp) ?_; (case hd => rfl); (case hg => rfl); (case hr => first | (go_simp; done) | (go_simp; rfl)); (case hp => exact (Reps.none _ _)); intro v769 w2 ho3 hb hg_ hnew_; clear hg_ hnew_; (first | rw [← Ny768.out] at ho3 | (simp only [Int.reduceToNat] at ho3; rw [← Ny768.out] at ho3)); have n0_ := Aside0.mk (Kd.S_lower ho3 (below_size (qB HB.out))); have n1_ := Aside0.mk (below_step (qB HB.out) hb); clear HB; have HO770 := n0_; have HB := n1_; clear n0_ n1_; clear hb ho3))
 go_loopg [3, 4] k (fun kq v3 v4 w' => ∃ (x3_1 : List (List Bool)) (x4_1 : Int), v4 = .int .i64 x4_1 ∧ Aside0 (arboristref09_Copy.l0 kq l0 x3_1 x4_1 = some r) ∧ Aside0 (kq ≤ k) ∧ Aside0 (Kd.S (Kd.slice 4 Kd.bool) 58 w' w.heap.size (fun _ => True) v3 x3_1) ∧ Aside0 (Below w.heap.size w w'))
 case atStart => exact ⟨(y768), (0), (by first | rfl | (simp; done) | (simp [*]; done)), H', ⟨Nat.le_refl _⟩, ⟨qS HO770.out⟩, ⟨qB HB.out⟩⟩
 case round =>
  clear H';try clear p2
  obtain ⟨x3_1, x4_1, rfl, HA, HK1, HO_3, HB⟩ := hrel;cases gk with
  | zero => exact absurd HA.out (by simp [arboristref09_Copy.l0])
  | succ k1 =>
   have H := HA.out;clear HA;simp only [arboristref09_Copy.l0] at H
   by_cases c4 : x4_1 < (l0.length : Int)
   ·rw [if_pos c4] at H
    have c4b0 : decide (x4_1 < (l0.length : Int)) = true := decide_eq_true c4;clear c4;obtain ⟨y771, hy771⟩ : ∃ y_ : List Bool, y_ = (([] : List Bool)) := ⟨_, rfl⟩;replace H : (if 0 ≤ x4_1 then (if y771.length + (rd_L8 l0 x4_1).length < 140737488355328 then (if x3_1.length < 5864062014805 then (arboristref09_Copy.l0 k1 l0 (x3_1 ++ [(y771 ++ (rd_L8 l0 x4_1))]) (wrap64 (x4_1 + 1))) else (none)) else (none)) else (none)) = some r := by first | (rw [hy771]; with_reducible exact H) | (have H2_ := (Option.bind_some _ _).symm.trans H; rw [hy771]; with_reducible exact H2_) | (have H2_ := (Option.bind_some _ _).symm.trans H; with_reducible exact H2_) | with_reducible exact H | (rw [hy771]; exact H) | exact H
    have Ny771 := Aside0.mk hy771;clear hy771;by_cases c5 : 0 ≤ x4_1
    ·rw [if_pos c5] at H
     have c5b0 : decide (0 ≤ x4_1) = true := decide_eq_true c5;clear c5;by_cases c6 : y771.length + (rd_L8 l0 x4_1).length < 140737488355328
     ·rw [if_pos c6] at H
      have LMc6 := Aside0.mk c6;clear c6;obtain ⟨y775, hy775⟩ : ∃ y_ : List Bool, y_ = (y771 ++ (rd_L8 l0 x4_1)) := ⟨_, rfl⟩;replace H : (if x3_1.length < 5864062014805 then (arboristref09_Copy.l0 k1 l0 (x3_1 ++ [y775]) (wrap64 (x4_1 + 1))) else (none)) = some r := by first | (rw [hy775]; with_reducible exact H) | (have H2_ := (Option.bind_some _ _).symm.trans H; rw [hy775]; with_reducible exact H2_) | (have H2_ := (Option.bind_some _ _).symm.trans H; with_reducible exact H2_) | with_reducible exact H | (rw [hy775]; exact H) | exact H
      have Ny775 := Aside0.mk hy775;clear hy775;by_cases c7 : x3_1.length < 5864062014805
      ·rw [if_pos c7] at H
       have LMc7 := Aside0.mk c7;clear c7;obtain ⟨y778, hy778⟩ : ∃ y_ : List (List Bool), y_ = (x3_1 ++ [y775]) := ⟨_, rfl⟩;replace H : (arboristref09_Copy.l0 k1 l0 y778 (wrap64 (x4_1 + 1))) = some r := by first | (rw [hy778]; with_reducible exact H) | (have H2_ := (Option.bind_some _ _).symm.trans H; rw [hy778]; with_reducible exact H2_) | (have H2_ := (Option.bind_some _ _).symm.trans H; with_reducible exact H2_) | with_reducible exact H | (rw [hy778]; exact H) | exact H
       have Ny778 := Aside0.mk hy778;clear hy778;have H' := Aside0.mk H;clear H;go_wp2_with (first | ((with_reducible refine gate_dst (N := 13) rfl ?_); refine Kd.R_lit Kd.bool _ 4 ?hg (N := 13) ?hd (xs := ([] : List Bool)) (inner := []) (ok := fun _ => True) (okp := fun _ => True) ?hr ?hp (fun _ hk => hk) trivial (Below.refl _ _) (Nat.le_refl _) (by simp) ?_; (case hd => rfl); (case hg => rfl); (case hr => first | (go_simp; done) | (go_simp; rfl)); (case hp => exact (Reps.none _ _)); intro v772 w8 ho9 hb hg_ hnew_; clear hg_ hnew_; (first | rw [← Ny771.out] at ho9 | (simp only [Int.reduceToNat] at ho9; rw [← Ny771.out] at ho9)); have n0_ := Aside0.mk (Kd.S_elder' (qS HO_3.out) (Kd.R_base ho9) hb); have n1_ := Aside0.mk (Kd.R_lower ho9 (below_size (qB HB.out))); have n2_ := Aside0.mk (below_step (qB HB.out) hb); clear HO_3; clear HB; have HO_3 := n0_; have HO773 := n1_; have HB := n2_; clear n0_ n1_ n2_; clear hb ho9; have p774 : 0 ≤ (x4_1 : Int) := of_decide_eq_true qA; have q774 : x4_1 < (l0.length : Int) := of_decide_eq_true qA; obtain ⟨ad774, A774_0, c774_0, e774, hx774_0, hl774_0, hi774_0⟩ := at_L8 HR0.out x4_1 p774 q774; cases e774; replace hx774_0 := (HB.out.cell (World.block_lt_of_cell? w _ hx774_0)).trans hx774_0; have HR774_0 := Aside0.mk hi774_0; have HC774_0 := Aside0.mk hl774_0; clear hi774_0 hl774_0; replace p774 := eq_true p774; replace q774 := eq_true q774) | ((with_reducible refine gate_builtin (b := .append) (xs := #[.tmp 13, .tmp 17]) rfl ?_); at_builtin; refine Kd.R_append_rows Kd.bool (w0 := w) w.heap.size rfl (.tmp 13) (.tmp 17) 58 4 (.bool false) 1 rfl Try.underlying58 info4 rfl (by decide) (by omega) v772 y771 (rd_L8 l0 x4_1) _ _ _ (fun _ => True) (fun _ => False) rfl rfl ?aO ?aR (fun _ _ h => h) (fun _ h => h.elim) ?aF ?aB ?aS ?aL ?_; (case aR => repeat (first | exact (Kd.C_below HR774_0.out HB.out) | (with_reducible refine Kd.C_alloc ?_ _) | (with_reducible refine Kd.C_drewN ?_ _) | (with_reducible refine Kd.C_drew ?_))); (case aB => exact (qB HB.out)); (case aF => exact (fun _ _ => trivial)); (case aO => exact (qR HO773.out)); (case aS => exact (below_size (qB HB.out))); (case aL => have := LMc6.out; omega); intro v776 w10 ho hb hg hat; rw [← Ny775.out] at ho; have n0_ := Aside0.mk (Kd.S_after (ok := (fun _ => True)) (qS HO_3.out) hg hat); have n1_ := Aside0.mk (hb); have n2_ := Aside0.mk (ho); clear HO_3; clear HB; clear HO773; have HO_3 := n0_; have HB := n1_; have HO777 := n2_; clear n0_ n1_ n2_; clear ho hb hg hat; obtain ⟨Ao12, co12, eo12⟩ := Kd.R_slice HO777.out; subst eo12) | ((with_reducible refine gate_builtin (b := .append) (xs := #[.tmp 12, .tmp 19]) rfl ?_); at_builtin; refine Kd.S_append (Kd.slice 4 Kd.bool) (w0 := w) w.heap.size rfl (.tmp 12) (.tmp 19) 75 58 (.slice none 0 0) 24 rfl Try.underlying75 info58 rfl (by decide) (by omega) u3 x3_1 y775 [.slice Ao12 y775.length co12] (fun _ => True) (fun k_ => some k_ = (.slice Ao12 y775.length co12 : Value).ownBlock) rfl rfl ?aP (fun k_ hk_ => ((Kd.R_mono (ok' := fun k_ => ((fun _ => True)) k_ ∧ some k_ ≠ (u3 : Value).ownBlock) (Kd.R_apart' (HO777.out) (Kd.S_typed HO_3.out) (by decide)) (fun k_ hk => ⟨trivial, hk.2⟩))).1 k_ hk_.symm) ?aF ?aO ?aB ?aS ?aL ?_; (case aP => exact Kd.M_row (Kd.R_mono (Kd.R_tight rfl (Kd.R_mono (ok' := fun k_ => ((fun _ => True)) k_ ∧ some k_ ≠ (u3 : Value).ownBlock) (Kd.R_apart' (HO777.out) (Kd.S_typed HO_3.out) (by decide)) (fun k_ hk => ⟨trivial, hk.2⟩))) (fun _ h_ => h_))); (case aB => exact (qB HB.out)); (case aF => exact (fun _ _ => trivial)); (case aO => exact (by (with_reducible repeat (first | apply Kd.S_alloc | apply Kd.S_drewN | apply Kd.S_drew)); exact Kd.S_mono HO_3.out (fun k_ hk => ⟨trivial, fun e_ => hk.2 e_⟩))); (case aS => exact (below_size (qB HB.out))); (case aL => have := LMc7.out; omega); intro v779 w11 ho hb hg hat; rw [← Ny778.out] at ho; have n0_ := Aside0.mk (hb); have n1_ := Aside0.mk (ho); clear HB; clear HO_3; clear HO777; have HB := n0_; have HO780 := n1_; clear n0_ n1_; clear ho hb hg hat))
       go_roundg k1
       case measure => have := HK1.out; omega
       case rel => exact ⟨(y778), (wrap64 (x4_1 + 1)), (by first | rfl | (simp; done) | (simp [*]; done)), H', ⟨by have := HK1.out; omega⟩, ⟨qS HO780.out⟩, ⟨qB HB.out⟩⟩
      ·rw [if_neg c7] at H
       exact absurd H (by simp)
     ·rw [if_neg c6] at H
      exact absurd H (by simp)
    ·rw [if_neg c5] at H
     exact absurd H (by simp)
   ·rw [if_neg c4] at H
    have c4b0 : decide (x4_1 < (l0.length : Int)) = false := decide_eq_false c4;clear c4;obtain rfl := Option.some.inj H;go_wp2
    go_ret
    exact ⟨_, by first | rfl | (simp [errW_none, errW_some] <;> rfl) | (simp [*, errW_none, errW_some] <;> rfl), by (with_reducible repeat (first | apply Kd.S_alloc | apply Kd.S_drewN | apply Kd.S_drew)); exact HO_3.out, by repeat (first | (with_reducible first | exact HB.out | apply below_alloc | apply pw_below_drewN | apply below_drew1) | exact HB.out)⟩
/-! ### arboristref08_Neighbors: function 82 -/
mutual
def arboristref08_Neighbors.l0 : Nat → List (List Bool) → Int → List Int → Int → Option (List Int)
 | 0, _, _, _, _ => none
 | k + 1, x0, x1, x5, x6 => if x6 < (x0.length : Int) then (if x1 ≥ 0 then (arboristref08_Neighbors.j1 k x0 x1 x5 x6 (decide (x1 < (x0.length : Int)))) else (arboristref08_Neighbors.j1 k x0 x1 x5 x6 false)) else (arboristref08_Neighbors.j1 k x0 x1 x5 x6 false)
def arboristref08_Neighbors.j1 : Nat → List (List Bool) → Int → List Int → Int → Bool → Option (List Int)
 | 0, _, _, _, _, _ => none
 | k + 1, x0, x1, x5, x6, x21 => if x21 = true then (if 0 ≤ x1 then (if x1 < (x0.length : Int) then (if 0 ≤ x6 then (if x6 < ((rd_L8 x0 x1).length : Int) then (if rdOf false (rd_L8 x0 x1) x6 = true then (if x5.length < 17592186044416 then (arboristref08_Neighbors.l0 k x0 x1 (x5 ++ [x6]) (wrap64 (x6 + 1))) else (none)) else (arboristref08_Neighbors.l0 k x0 x1 x5 (wrap64 (x6 + 1)))) else (none)) else (none)) else (none)) else (none)) else (some x5)
end
def arboristref08_Neighbors.f (k : Nat) (l0 : List (List Bool)) (a1 : Int) : Option (List Int) := arboristref08_Neighbors.l0 k l0 a1 (([] : List Int)) 0
set_option maxHeartbeats 8000000 in
set_option maxRecDepth 100000 in
theorem arboristref08_Neighbors.calls (k : Nat) (A0 : Option Addr) (c0 : Nat) (l0 : List (List Bool)) (a1 : Int) (r : List Int) (w : World) (hr0 : Kd.C (Kd.slice 4 Kd.bool) w A0 l0.length l0) (hc0 : l0.length ≤ c0) (h : arboristref08_Neighbors.f k l0 a1 = some r) :
  Calls Try.prog 82 #[.slice A0 l0.length c0, .int .i64 a1] w fun e w' => ∃ v0_ : Value, e = .returned (v0_) ∧ Kd.R (Kd.int .i64) 3 w' w.heap.size (fun _ => True) v0_ r ∧ Below w.heap.size w w' := by
 have HR0 := Aside0.mk hr0;have HC0 := Aside0.mk hc0;clear hr0 hc0;have HB := Aside0.mk (Below.refl w.heap.size w);have H : (arboristref08_Neighbors.l0 k l0 a1 (([] : List Int)) 0) = some r := h;clear h;obtain ⟨y781, hy781⟩ : ∃ y_ : List Int, y_ = (([] : List Int)) := ⟨_, rfl⟩;replace H : (arboristref08_Neighbors.l0 k l0 a1 y781 0) = some r := by first | (rw [hy781]; with_reducible exact H) | (have H2_ := (Option.bind_some _ _).symm.trans H; rw [hy781]; with_reducible exact H2_) | (have H2_ := (Option.bind_some _ _).symm.trans H; with_reducible exact H2_) | with_reducible exact H | (rw [hy781]; exact H) | exact H
 have Ny781 := Aside0.mk hy781;clear hy781;have H' := Aside0.mk H;clear H;go_enter Try.func82, Try.ntmps82
 go_wp2_with (first | ((with_reducible refine gate_dst (N := 7) rfl ?_); (try (refine gate_guard (by rfl) ?_; dsimp only)); refine Kd.R_lit (Kd.int .i64) _ 3 ?hg (N := 7) ?hd (xs := ([] : List Int)) (inner := []) (ok := fun _ => True) (okp := fun _ => True) ?hr ?hp (fun _ hk => hk) trivial (Below.refl _ _) (Nat.le_refl _) (by simp) ?_; (case hd => rfl); (case hg => rfl); (case hr => first | (go_simp; done) | (go_simp; rfl)); (case hp => exact (Reps.none _ _)); intro v782 w3 ho4 hb hg_ hnew_; clear hg_ hnew_; (first | rw [← Ny781.out] at ho4 | (simp only [Int.reduceToNat] at ho4; rw [← Ny781.out] at ho4)); have n0_ := Aside0.mk (Kd.R_lower ho4 (below_size (qB HB.out))); have n1_ := Aside0.mk (below_step (qB HB.out) hb); clear HB; have HO783 := n0_; have HB := n1_; clear n0_ n1_; clear hb ho4))
 go_loopg [5, 6] k (fun kq v5 v6 w' => ∃ (x5_1 : List Int) (x6_1 : Int), v6 = .int .i64 x6_1 ∧ Aside0 (arboristref08_Neighbors.l0 kq l0 a1 x5_1 x6_1 = some r) ∧ Aside0 (kq ≤ k) ∧ Aside0 (Kd.R (Kd.int .i64) 3 w' w.heap.size (fun _ => True) v5 x5_1) ∧ Aside0 (Below w.heap.size w w'))
 case atStart => exact ⟨(y781), (0), (by first | rfl | (simp; done) | (simp [*]; done)), H', ⟨Nat.le_refl _⟩, ⟨qR HO783.out⟩, ⟨qB HB.out⟩⟩
 case round =>
  clear H';try clear p2
  obtain ⟨x5_1, x6_1, rfl, HA, HK1, HO_5, HB⟩ := hrel;cases gk with
  | zero => exact absurd HA.out (by simp [arboristref08_Neighbors.l0])
  | succ k1 =>
   have H := HA.out;clear HA;simp only [arboristref08_Neighbors.l0] at H
   have HC5 := Aside0.mk H;clear H;go_upto_region 3 with (fail)
   go_cut [21] (fun v21 wc => ∃ (kq : Nat) (x21_4 : Bool), v21 = .bool x21_4 ∧ Aside0 (arboristref08_Neighbors.j1 kq l0 a1 x5_1 x6_1 x21_4 = some r) ∧ Aside0 (kq ≤ k1) ∧ Aside0 (Kd.R (Kd.int .i64) 3 wc w.heap.size (fun _ => True) u5 x5_1) ∧ Aside0 (Below w.heap.size w wc))
   case first =>
    have H := HC5.out;clear HC5;by_cases c6 : x6_1 < (l0.length : Int)
    ·rw [if_pos c6] at H
     have c6b0 : decide (x6_1 < (l0.length : Int)) = true := decide_eq_true c6;clear c6;(first | rw [c6b0] | (simp only [i64_w, i32_w]; rw [c6b0]) | skip);by_cases c7 : a1 ≥ 0
     ·rw [if_pos c7] at H
      have c7b0 : decide (0 ≤ a1) = true := decide_eq_true c7;clear c7;have H' := Aside0.mk H;clear H;go_wp2
      go_meet
      case rel => exact ⟨_, (decide (a1 < (l0.length : Int))), (by first | rfl | (simp; done) | (simp [*]; done)), H', ⟨by have := HK1.out; first | omega | exact Nat.le_refl _⟩, ⟨qR HO_5.out⟩, ⟨qB HB.out⟩⟩
     ·rw [if_neg c7] at H
      have c7b0 : decide (0 ≤ a1) = false := decide_eq_false c7;clear c7;have H' := Aside0.mk H;clear H;go_wp2
      go_meet
      case rel => exact ⟨_, (false), (by first | rfl | (simp; done) | (simp [*]; done)), H', ⟨by have := HK1.out; first | omega | exact Nat.le_refl _⟩, ⟨qR HO_5.out⟩, ⟨qB HB.out⟩⟩
    ·rw [if_neg c6] at H
     have c6b0 : decide (x6_1 < (l0.length : Int)) = false := decide_eq_false c6;clear c6;(first | rw [c6b0] | (simp only [i64_w, i32_w]; rw [c6b0]) | skip);have H' := Aside0.mk H;clear H;go_wp2
     go_meet
     case rel => exact ⟨_, (false), (by first | rfl | (simp; done) | (simp [*]; done)), H', ⟨by have := HK1.out; first | omega | exact Nat.le_refl _⟩, ⟨qR HO_5.out⟩, ⟨qB HB.out⟩⟩
   case rest =>
    clear HC5;try clear p2
    try clear c6
    try clear c6b0
    try clear c7
    try clear c7b0
    try clear p2
    obtain ⟨kq, x21_4, rfl, HA, HJ4, HO_5, HB⟩ := hcut;cases kq with
    | zero => exact absurd HA.out (by simp [arboristref08_Neighbors.j1])
    | succ kj4 =>
     have H := HA.out;clear HA;simp only [arboristref08_Neighbors.j1] at H
     by_cases c8 : x21_4 = true
     ·subst c8;replace H : (if 0 ≤ a1 then (if a1 < (l0.length : Int) then (if 0 ≤ x6_1 then (if x6_1 < ((rd_L8 l0 a1).length : Int) then (if rdOf false (rd_L8 l0 a1) x6_1 = true then (if x5_1.length < 17592186044416 then (arboristref08_Neighbors.l0 kj4 l0 a1 (x5_1 ++ [x6_1]) (wrap64 (x6_1 + 1))) else (none)) else (arboristref08_Neighbors.l0 kj4 l0 a1 x5_1 (wrap64 (x6_1 + 1)))) else (none)) else (none)) else (none)) else (none)) = some r := by rw [if_pos rfl] at H; exact H
      by_cases c9 : 0 ≤ a1
      ·rw [if_pos c9] at H
       have c9b0 : decide (0 ≤ a1) = true := decide_eq_true c9;clear c9;by_cases c10 : a1 < (l0.length : Int)
       ·rw [if_pos c10] at H
        have c10b0 : decide (a1 < (l0.length : Int)) = true := decide_eq_true c10;clear c10;by_cases c11 : 0 ≤ x6_1
        ·rw [if_pos c11] at H
         have c11b0 : decide (0 ≤ x6_1) = true := decide_eq_true c11;clear c11;by_cases c12 : x6_1 < ((rd_L8 l0 a1).length : Int)
         ·rw [if_pos c12] at H
          have c12b0 : decide (x6_1 < ((rd_L8 l0 a1).length : Int)) = true := decide_eq_true c12;clear c12;obtain ⟨bq13, hbq13⟩ : ∃ b_ : Bool, b_ = (rdOf false (rd_L8 l0 a1) x6_1) := ⟨_, rfl⟩;replace H : (if bq13 = true then (if x5_1.length < 17592186044416 then (arboristref08_Neighbors.l0 kj4 l0 a1 (x5_1 ++ [x6_1]) (wrap64 (x6_1 + 1))) else (none)) else (arboristref08_Neighbors.l0 kj4 l0 a1 x5_1 (wrap64 (x6_1 + 1)))) = some r := by rw [← hbq13] at H; exact H
          have Nbq13 := Aside0.mk hbq13;clear hbq13;by_cases c14 : bq13 = true
          ·subst c14;replace H : (if x5_1.length < 17592186044416 then (arboristref08_Neighbors.l0 kj4 l0 a1 (x5_1 ++ [x6_1]) (wrap64 (x6_1 + 1))) else (none)) = some r := by rw [if_pos rfl] at H; exact H
           by_cases c15 : x5_1.length < 17592186044416
           ·rw [if_pos c15] at H
            have LMc15 := Aside0.mk c15;clear c15;obtain ⟨y786, hy786⟩ : ∃ y_ : List Int, y_ = (x5_1 ++ [x6_1]) := ⟨_, rfl⟩;replace H : (arboristref08_Neighbors.l0 kj4 l0 a1 y786 (wrap64 (x6_1 + 1))) = some r := by first | (rw [hy786]; with_reducible exact H) | (have H2_ := (Option.bind_some _ _).symm.trans H; rw [hy786]; with_reducible exact H2_) | (have H2_ := (Option.bind_some _ _).symm.trans H; with_reducible exact H2_) | with_reducible exact H | (rw [hy786]; exact H) | exact H
            have Ny786 := Aside0.mk hy786;clear hy786;have H' := Aside0.mk H;clear H;have p784 : 0 ≤ (a1 : Int) := of_decide_eq_true qA;have q784 : a1 < (l0.length : Int) := of_decide_eq_true qA;obtain ⟨ad784, A784_0, c784_0, e784, hx784_0, hl784_0, hi784_0⟩ := at_L8 HR0.out a1 p784 q784;cases e784
            replace hx784_0 := (HB.out.cell (World.block_lt_of_cell? w _ hx784_0)).trans hx784_0;have HR784_0 := Aside0.mk hi784_0;have HC784_0 := Aside0.mk hl784_0;clear hi784_0 hl784_0;replace p784 := eq_true p784;replace q784 := eq_true q784;have p785 : 0 ≤ (x6_1 : Int) := of_decide_eq_true qA;have q785 : x6_1 < ((rd_L8 l0 a1).length : Int) := of_decide_eq_true qA;obtain ⟨ad785, e785, hx785_0⟩ := Kd.at_bool HR784_0.out x6_1 p785 q785;(try rw [← Nbq13.out] at hx785_0);cases e785
            replace hx785_0 := (HB.out.cell (World.block_lt_of_cell? w _ hx785_0)).trans hx785_0;replace p785 := eq_true p785;replace q785 := eq_true q785;go_wp2_with (first | ((with_reducible refine gate_builtin (b := .append) (xs := #[.tmp 31, .tmp 33]) rfl ?_); (try (refine gate_guard (by rfl) ?_; dsimp only)); at_builtin; refine Kd.R_append (Kd.int .i64) (w0 := w) w.heap.size rfl (.tmp 31) (.tmp 33) 23 3 (.int .i64 0) 8 rfl Try.underlying23 info3 rfl (by decide) (by omega) u5 x5_1 x6_1 [.int .i64 x6_1] (fun _ => True) (fun _ => False) rfl rfl ?aP (fun _ hk => hk.elim) ?aF ?aO ?aB ?aS ?aL ?_; (case aP => exact rfl); (case aB => exact (qB HB.out)); (case aF => exact (fun _ _ => trivial)); (case aO => exact (qR HO_5.out)); (case aS => exact (below_size (qB HB.out))); (case aL => have := LMc15.out; omega); intro v787 w16 ho hb hg hat; rw [← Ny786.out] at ho; have n0_ := Aside0.mk (hb); have n1_ := Aside0.mk (ho); clear HB; clear HO_5; have HB := n0_; have HO788 := n1_; clear n0_ n1_; clear ho hb hg hat))
            go_roundg kj4
            case measure => have := HK1.out; have := HJ4.out; omega
            case rel => exact ⟨(y786), (wrap64 (x6_1 + 1)), (by first | rfl | (simp; done) | (simp [*]; done)), H', ⟨by have := HK1.out; have := HJ4.out; omega⟩, ⟨qR HO788.out⟩, ⟨qB HB.out⟩⟩
           ·rw [if_neg c15] at H
            exact absurd H (by simp)
          ·replace c14 := Bool.eq_false_iff.mpr c14;subst c14;replace H : (arboristref08_Neighbors.l0 kj4 l0 a1 x5_1 (wrap64 (x6_1 + 1))) = some r := by rw [if_neg (show ¬ (false = true) by decide)] at H; exact H
           have H' := Aside0.mk H;clear H;have p784 : 0 ≤ (a1 : Int) := of_decide_eq_true qA;have q784 : a1 < (l0.length : Int) := of_decide_eq_true qA;obtain ⟨ad784, A784_0, c784_0, e784, hx784_0, hl784_0, hi784_0⟩ := at_L8 HR0.out a1 p784 q784;cases e784
           replace hx784_0 := (HB.out.cell (World.block_lt_of_cell? w _ hx784_0)).trans hx784_0;have HR784_0 := Aside0.mk hi784_0;have HC784_0 := Aside0.mk hl784_0;clear hi784_0 hl784_0;replace p784 := eq_true p784;replace q784 := eq_true q784;have p785 : 0 ≤ (x6_1 : Int) := of_decide_eq_true qA;have q785 : x6_1 < ((rd_L8 l0 a1).length : Int) := of_decide_eq_true qA;obtain ⟨ad785, e785, hx785_0⟩ := Kd.at_bool HR784_0.out x6_1 p785 q785;(try rw [← Nbq13.out] at hx785_0);cases e785
           replace hx785_0 := (HB.out.cell (World.block_lt_of_cell? w _ hx785_0)).trans hx785_0;replace p785 := eq_true p785;replace q785 := eq_true q785;go_wp2
           go_roundg kj4
           case measure => have := HK1.out; have := HJ4.out; omega
           case rel => exact ⟨(x5_1), (wrap64 (x6_1 + 1)), (by first | rfl | (simp; done) | (simp [*]; done)), H', ⟨by have := HK1.out; have := HJ4.out; omega⟩, ⟨qR HO_5.out⟩, ⟨qB HB.out⟩⟩
         ·rw [if_neg c12] at H
          exact absurd H (by simp)
        ·rw [if_neg c11] at H
         exact absurd H (by simp)
       ·rw [if_neg c10] at H
        exact absurd H (by simp)
      ·rw [if_neg c9] at H
       exact absurd H (by simp)
     ·replace c8 := Bool.eq_false_iff.mpr c8;subst c8;replace H : (some x5_1) = some r := by rw [if_neg (show ¬ (false = true) by decide)] at H; exact H
      obtain rfl := Option.some.inj H;go_wp2
      go_ret
      exact ⟨_, by first | rfl | (simp [errW_none, errW_some] <;> rfl) | (simp [*, errW_none, errW_some] <;> rfl), by (with_reducible repeat (first | apply Kd.R_alloc | apply Kd.R_drewN | apply Kd.R_drew)); exact HO_5.out, by repeat (first | (with_reducible first | exact HB.out | apply below_alloc | apply pw_below_drewN | apply below_drew1) | exact HB.out)⟩
end Go.Proofs.Ytpmfdggbccbfaaa.Pr
