-- Printed by wip/tools/pp.py over the kit's print.py, several texts in one (wip/tools/mergepr.py); Lean checks it.
import Derived.Test.YtopjffgmpphdbaaDoorPr0
import Derived.Test.YtopjffgmpphdbaaDoorPr16
import Derived.Test.YtopjffgmpphdbaaDoorPr19
import Derived.Test.YtopjffgmpphdbaaDoorPr21
import Derived.Test.YtopjffgmpphdbaaDoorPr17
namespace Go.Proofs.YtopjffgmpphdbaaDoor.Pr
open Go.RowKit Go.Proofs.YtopjffgmpphdbaaDoorW.PrintWords Go.Proofs.YtopjffgmpphdbaaDoorW.PrintLast Go.Proofs.YtopjffgmpphdbaaDoorW.PrintMore
attribute [local go_sem] max2_int min2_int max_two min_two max_three min_three max_four min_four
set_option linter.unusedVariables false
set_option linter.unusedSimpArgs false
/-! ### fill_Filled: function 14 -/
def fill_Filled.f (ws l : List Int) : Option (List Int × Int) := (fill_all.f ws l).bind fun r => if r.2.2 = 0 then (slices_Clone_uint64_uint64.f r.2.1).bind fun t => some (t, 0) else some ([], r.2.2)
set_option maxRecDepth 100000 in
set_option maxHeartbeats 4000000 in
theorem fill_Filled.calls (A0_0 : Option Addr) (c0_0 : Nat) (l0_0 : List Int) (A1 : Option Addr) (c1 : Nat) (l1 : List Int) (r1 : List Int) (r2 : Int) (w : World) (hTb : Tab64 w) (hr0_0 : Kd.C (Kd.int .u64) w A0_0 l0_0.length l0_0) (hc0_0 : l0_0.length ≤ c0_0) (hr1 : Kd.C (Kd.int .i64) w A1 l1.length l1) (hc1 : l1.length ≤ c1) (h : fill_Filled.f l0_0 l1 = some (r1, r2)) :
  Calls Tryd.prog 14 #[.agg #[.slice A0_0 l0_0.length c0_0], .slice A1 l1.length c1] w fun e w' => ∃ v0_ : Value, e = .returned (.tuple #[.agg #[v0_], .int .i64 r2]) ∧ Kd.R (Kd.int .u64) 61 w' w.heap.size (fun _ => True) v0_ r1 ∧ Below w.heap.size w w' := by
 unfold fill_Filled.f at h
 obtain ⟨⟨q1, q2, q3⟩, hq, h⟩ := Option.bind_eq_some_iff.1 h;have HT := Aside0.mk hTb;have HA := Aside0.mk (fun (W : World) (hW : Below w.heap.size w W) => all_walk A0_0 c0_0 l0_0 A1 c1 l1 q1 q2 q3 W (tab_below hTb hW) (Kd.C_below hr0_0 hW) hc0_0 (Kd.C_below hr1 hW) hc1 hq);obtain ⟨n0, hn0⟩ : ∃ n, n = l0_0.length := ⟨_, rfl⟩;obtain ⟨n1, hn1⟩ : ∃ n, n = l1.length := ⟨_, rfl⟩;rw [← hn0, ← hn1] at HA ⊢
 clear hTb hr0_0 hc0_0 hr1 hc1 hq hn0 hn1;by_cases c3 : q3 = 0
 ·subst c3;rw [if_pos rfl] at h
  obtain ⟨t, ht, h⟩ := Option.bind_eq_some_iff.1 h;obtain ⟨rfl, rfl⟩ : t = r1 ∧ 0 = r2 := by simpa using h
  have HCL := Aside0.mk (fun (W : World) {A : Option Addr} {n c : Nat} (hC : Kd.C (Kd.int .u64) W A n q2) (hn : n = q2.length) (hc : n ≤ c) (o : Obj) => (by
   subst hn;exact slices_Clone_uint64_uint64.calls A c q2 t (W.alloc o) (Kd.C_below hC (below_alloc (Below.refl _ _) _)) hc ht : Calls Tryd.prog 33 #[.slice A n c] (W.alloc o) fun e w' => ∃ v0_ : Value, e = .returned v0_ ∧ Kd.R (Kd.int .u64) 61 w' (W.alloc o).heap.size (fun _ => True) v0_ t ∧ Below (W.alloc o).heap.size (W.alloc o) w'))
  clear h ht;go_enter Tryd.func14, Tryd.ntmps14
  go_wp2_with (first | ((with_reducible refine gate_dst (N := 2) rfl ?_); refine box_event ?hg (N := 2) ?hd (cs := #[.slice A0_0 n0 c0_0]) (t := 29) ?hr ?_; (case hd => rfl); (case hg => rfl); (case hr => first | (go_simp; done) | (go_simp; rfl)); intro gb hgb w1 hbox hb; have HB1 := Aside0.mk hb; have HBO := Aside0.mk hbox; have hcga : ∀ o, (w1.alloc o).cell? ⟨gb, 0, none⟩ = some (.slice A0_0 n0 c0_0) := fun o => (blk_cell (cs := #[.slice A0_0 n0 c0_0]) (t := 29) ((Below.heap_alloc w1 o gb (blk_lt HBO.out)).trans HBO.out) 0).trans rfl; clear hgb hbox hb) | (go_at_call 32; refine (HA.out _ (below_alloc HB1.out _)).mono ?_; rintro e w2 ⟨v0, A, n, c, rfl, hS, hC, hn, hc, hb⟩; have HC2 := Aside0.mk hC; have HN2 := Aside0.mk (And.intro hn hc); have HB2 := Aside0.mk (below_then (below_alloc HB1.out (.cells #[.slice none 0 0] 29)) (by have := HB1.out.size; simp; omega) hb); have HR2 := Aside0.mk ((hb.block w1.heap.size (by simp)).trans (blk_new w1 (.cells #[.slice none 0 0] 29))); have hcra : ∀ o, (w2.alloc o).cell? ⟨w1.heap.size, 0, none⟩ = some (.slice none 0 0) := fun o => (blk_cell (cs := #[.slice none 0 0]) (t := 29) ((Below.heap_alloc w2 o _ (blk_lt HR2.out)).trans HR2.out) 0).trans rfl; have hfra : ∀ o, (w2.alloc o).frozen? ⟨w1.heap.size, 0, none⟩ = false := fun o => blk_frozen (cs := #[.slice none 0 0]) (t := 29) ((Below.heap_alloc w2 o _ (blk_lt HR2.out)).trans HR2.out) 0; have HS1 := Aside0.mk HB1.out.size; clear hS hC hn hc hb hcga) | (go_at_call 33; (refine (HCL.out w2 HC2.out HN2.out.1 HN2.out.2 (.cells #[.slice A n c] 29)).mono ?_; rintro e w3 ⟨v3, rfl, ho, hb⟩; have HR3 := Aside0.mk ((hb.block _ (by have := blk_lt HR2.out; simp; omega)).trans ((Below.heap_alloc w2 _ _ (blk_lt HR2.out)).trans HR2.out)); have hcr3 : w3.cell? ⟨w1.heap.size, 0, none⟩ = some (.slice none 0 0) := (blk_cell HR3.out 0).trans rfl; have hfr3 := blk_frozen HR3.out 0; have HB3 := Aside0.mk (below_then (below_alloc HB2.out _) (by have := HB2.out.size; simp; omega) hb); have HO3 := Aside0.mk (Kd.R_lower ho (show w.heap.size ≤ _ by have := HB2.out.size; simp; omega)); obtain ⟨A3, c3, e3⟩ := Kd.R_slice ho; subst e3; clear ho hb hcra hfra)))
  (try simp only [Exit.inBlock, Exit.then]); refine bodyPost_ret (results_ct rfl _ _ w1.heap.size 29 _ (0, 0) _ rfl (blk_put HR3.out 0 _ rfl) Tryd.underlying29 rfl (by kernel_rfl)) rfl ?_
  exact ⟨_, rfl, Kd.R_set HO3.out HR3.out (by decide) _ _, HB3.out.setCell HS1.out _⟩
 ·rw [if_neg c3] at h
  obtain ⟨rfl, rfl⟩ : [] = r1 ∧ q3 = r2 := by simpa using h
  have hb3 : (q3 != (0 : Int)) = true := bne_iff_ne.mpr c3;clear h c3;go_enter Tryd.func14, Tryd.ntmps14
  go_wp2_with (first | ((with_reducible refine gate_dst (N := 2) rfl ?_); refine box_event ?hg (N := 2) ?hd (cs := #[.slice A0_0 n0 c0_0]) (t := 29) ?hr ?_; (case hd => rfl); (case hg => rfl); (case hr => first | (go_simp; done) | (go_simp; rfl)); intro gb hgb w1 hbox hb; have HB1 := Aside0.mk hb; have HBO := Aside0.mk hbox; have hcga : ∀ o, (w1.alloc o).cell? ⟨gb, 0, none⟩ = some (.slice A0_0 n0 c0_0) := fun o => (blk_cell (cs := #[.slice A0_0 n0 c0_0]) (t := 29) ((Below.heap_alloc w1 o gb (blk_lt HBO.out)).trans HBO.out) 0).trans rfl; clear hgb hbox hb) | (go_at_call 32; refine (HA.out _ (below_alloc HB1.out _)).mono ?_; rintro e w2 ⟨v0, A, n, c, rfl, hS, hC, hn, hc, hb⟩; have HC2 := Aside0.mk hC; have HN2 := Aside0.mk (And.intro hn hc); have HB2 := Aside0.mk (below_then (below_alloc HB1.out (.cells #[.slice none 0 0] 29)) (by have := HB1.out.size; simp; omega) hb); have HR2 := Aside0.mk ((hb.block w1.heap.size (by simp)).trans (blk_new w1 (.cells #[.slice none 0 0] 29))); have hcra : ∀ o, (w2.alloc o).cell? ⟨w1.heap.size, 0, none⟩ = some (.slice none 0 0) := fun o => (blk_cell (cs := #[.slice none 0 0]) (t := 29) ((Below.heap_alloc w2 o _ (blk_lt HR2.out)).trans HR2.out) 0).trans rfl; have hfra : ∀ o, (w2.alloc o).frozen? ⟨w1.heap.size, 0, none⟩ = false := fun o => blk_frozen (cs := #[.slice none 0 0]) (t := 29) ((Below.heap_alloc w2 o _ (blk_lt HR2.out)).trans HR2.out) 0; have HS1 := Aside0.mk HB1.out.size; clear hS hC hn hc hb hcga))
  (try simp only [Exit.inBlock, Exit.then]); refine bodyPost_ret (results_ct rfl _ _ w1.heap.size 29 #[.slice none 0 0] (0, 0) _ rfl (blk_put ((Below.heap_alloc w2 _ _ (blk_lt HR2.out)).trans HR2.out) 0 _ rfl) Tryd.underlying29 rfl (by kernel_rfl)) rfl ?_
  exact ⟨_, rfl, Kd.R_nil _ _ _ _ _, (below_alloc HB2.out _).setCell HS1.out _⟩
end Go.Proofs.YtopjffgmpphdbaaDoor.Pr
namespace Go.Proofs.YtopjffgmpphdbaaDoor.Pr
open Go.RowKit Go.Proofs.YtopjffgmpphdbaaDoorW.PrintWords Go.Proofs.YtopjffgmpphdbaaDoorW.PrintLast Go.Proofs.YtopjffgmpphdbaaDoorW.PrintMore
attribute [local go_sem] max2_int min2_int max_two min_two max_three min_three max_four min_four
set_option linter.unusedVariables false
set_option linter.unusedSimpArgs false
/-! ### fill_Bags: function 15 -/
def fill_Bags.f (ws l : List Int) : Option (List (List Int) × Int) := (fill_all.f ws l).bind fun r => some (r.1, r.2.2)
set_option maxRecDepth 100000 in
set_option maxHeartbeats 4000000 in
theorem fill_Bags.calls (A0_0 : Option Addr) (c0_0 : Nat) (l0_0 : List Int) (A1 : Option Addr) (c1 : Nat) (l1 : List Int) (r1 : List (List Int)) (r2 : Int) (w : World) (hTb : Tab64 w) (hr0_0 : Kd.C (Kd.int .u64) w A0_0 l0_0.length l0_0) (hc0_0 : l0_0.length ≤ c0_0) (hr1 : Kd.C (Kd.int .i64) w A1 l1.length l1) (hc1 : l1.length ≤ c1) (h : fill_Bags.f l0_0 l1 = some (r1, r2)) :
  Calls Tryd.prog 15 #[.agg #[.slice A0_0 l0_0.length c0_0], .slice A1 l1.length c1] w fun e w' => ∃ v0_ : Value, e = .returned (.tuple #[v0_, .int .i64 r2]) ∧ Kd.S (Kd.slice 3 (Kd.int .i64)) 23 w' w.heap.size (fun _ => True) v0_ r1 ∧ Below w.heap.size w w' := by
 unfold fill_Bags.f at h
 obtain ⟨⟨q1, q2, q3⟩, hq, h⟩ := Option.bind_eq_some_iff.1 h;obtain ⟨rfl, rfl⟩ : q1 = r1 ∧ q3 = r2 := by simpa using h
 have HT := Aside0.mk hTb;have HA := Aside0.mk (fun (W : World) (hW : Below w.heap.size w W) => all_walk A0_0 c0_0 l0_0 A1 c1 l1 q1 q2 q3 W (tab_below hTb hW) (Kd.C_below hr0_0 hW) hc0_0 (Kd.C_below hr1 hW) hc1 hq);obtain ⟨n0, hn0⟩ : ∃ n, n = l0_0.length := ⟨_, rfl⟩;obtain ⟨n1, hn1⟩ : ∃ n, n = l1.length := ⟨_, rfl⟩;rw [← hn0, ← hn1] at HA ⊢
 clear hTb hr0_0 hc0_0 hr1 hc1 h hq hn0 hn1;go_enter Tryd.func15, Tryd.ntmps15
 go_wp2_with (first
  | ((with_reducible refine gate_dst (N := 2) rfl ?_); refine box_event ?hg (N := 2) ?hd (cs := #[.slice A0_0 n0 c0_0]) (t := 29) ?hr ?_; (case hd => rfl); (case hg => rfl); (case hr => first | (go_simp; done) | (go_simp; rfl)); intro gb hgb w1 hbox hb; have HB1 := Aside0.mk hb; have hcg : w1.cell? ⟨gb, 0, none⟩ = some (.slice A0_0 n0 c0_0) := (blk_cell hbox 0).trans rfl; clear hgb hbox hb)
  | (go_at_call 32; refine (HA.out _ HB1.out).mono ?_; rintro e w2 ⟨v0, A, n, c, rfl, hS, hC, hn, hc, hb⟩; have HS2 := Aside0.mk (Kd.S_lower hS HB1.out.size); have HB2 := Aside0.mk (below_then HB1.out HB1.out.size hb); clear hS hC hn hc hb hcg))
 go_ret2
 exact ⟨_, rfl, Kd.S_alloc HS2.out _, below_alloc HB2.out _⟩
end Go.Proofs.YtopjffgmpphdbaaDoor.Pr
namespace Go.Proofs.YtopjffgmpphdbaaDoor.Pr
open Go.RowKit Go.Proofs.YtopjffgmpphdbaaDoorW.PrintWords Go.Proofs.YtopjffgmpphdbaaDoorW.PrintLast Go.Proofs.YtopjffgmpphdbaaDoorW.PrintMore
attribute [local go_sem] max2_int min2_int max_two min_two max_three min_three max_four min_four
set_option linter.unusedVariables false
set_option linter.unusedSimpArgs false
/-! ### fill_Width: function 16 -/
def fill_Width.l0 : Nat → Int → Int → List (List Int) → Int → Int → Option (Int × Int)
 | 0, _, _, _, _, _ => none
 | k + 1, x7, x8, x17, x18, x19 => if x19 < x18 then (if 0 ≤ x19 then (if x19 < (x17.length : Int) then (fill_Width.l0 k x7 (mx x8 ((rd_L1 x17 x19).length : Int)) x17 x18 (wrap64 (x19 + 1))) else (none)) else (none)) else (if x7 = 0 then (some (wrap64 (x8 - 1), 0)) else (some (0, x7)))
def fill_Width.f (k : Nat) (l0_0 : List Int) (l1 : List Int) : Option (Int × Int) := (fill_Bags.f l0_0 l1).bind fun bt240 => (fill_Width.l0 k bt240.2 0 bt240.1 (bt240.1.length : Int) 0)
theorem fill_Width.mono_l : ∀ k, (∀ y0 y1 y2 y3 y4, LeO (fill_Width.l0 k y0 y1 y2 y3 y4) (fill_Width.l0 (k + 1) y0 y1 y2 y3 y4))
 | 0 => fun _ _ _ _ _ r h => by simp [fill_Width.l0] at h
 | k + 1 => by
  have ih0 := fill_Width.mono_l k;all_goals intros
  all_goals (first | unfold fill_Width.l0)
  all_goals repeat' first
  | (with_reducible first | exact ih0 _ _ _ _ _ | exact LeO.refl _ | exact LeO.none _ | refine LeO.ite ?_ ?_ | refine LeO.bind ?_ (fun _ => ?_))
  | exact ih0 _ _ _ _ _
  | exact LeO.none _
  | refine LeO.ite ?_ ?_
  | refine LeO.bind ?_ (fun _ => ?_)
theorem fill_Width.mono : ∀ a0 a1 k, LeO (fill_Width.f k a0 a1) (fill_Width.f (k + 1) a0 a1) := by
 intro a0 a1 k
 have ih0 := fill_Width.mono_l k;unfold fill_Width.f
 repeat' first
   | (with_reducible first | exact ih0 _ _ _ _ _ | exact LeO.refl _ | exact LeO.none _ | refine LeO.ite ?_ ?_ | refine LeO.bind ?_ (fun _ => ?_))
   | exact ih0 _ _ _ _ _
   | exact LeO.none _
   | refine LeO.ite ?_ ?_
   | refine LeO.bind ?_ (fun _ => ?_)
set_option maxHeartbeats 8000000 in
set_option maxRecDepth 100000 in
theorem fill_Width.calls (k : Nat) (A0_0 : Option Addr) (c0_0 : Nat) (l0_0 : List Int) (A1 : Option Addr) (c1 : Nat) (l1 : List Int) (r1 : Int) (r2 : Int) (w : World) (hTb : Tab64 w) (hr0_0 : Kd.C (Kd.int .u64) w A0_0 l0_0.length l0_0) (hc0_0 : l0_0.length ≤ c0_0) (hr1 : Kd.C (Kd.int .i64) w A1 l1.length l1) (hc1 : l1.length ≤ c1) (h : fill_Width.f k l0_0 l1 = some (r1, r2)) :
  Calls Tryd.prog 16 #[.agg #[.slice A0_0 l0_0.length c0_0], .slice A1 l1.length c1] w fun e w' => e = .returned (.tuple #[.int .i64 r1, .int .i64 r2]) ∧ Below w.heap.size w w' := by
 have HTAB := Aside0.mk hTb;clear hTb;have hu29 := Tryd.underlying29;have HR0_0 := Aside0.mk hr0_0;have HC0_0 := Aside0.mk hc0_0;clear hr0_0 hc0_0;have HR1 := Aside0.mk hr1;have HC1 := Aside0.mk hc1;clear hr1 hc1;have HB := Aside0.mk (Below.refl w.heap.size w);have H : ((fill_Bags.f l0_0 l1).bind fun bt240 => (fill_Width.l0 k bt240.2 0 bt240.1 (bt240.1.length : Int) 0)) = some (r1, r2) := h;clear h;replace H := Option.bind_eq_some_iff.mp H;obtain ⟨⟨t240, t243⟩, A30, H⟩ := H;(try dsimp only at H);have A3 := Aside0.mk A30;clear A30;have H' := Aside0.mk H;clear H;go_enter Tryd.func16, Tryd.ntmps16
 go_wp2_with (first | ((with_reducible refine gate_dst (N := 2) rfl ?_); refine box_event ?hg (N := 2) ?hd (cs := #[.slice A0_0 l0_0.length c0_0]) (t := 29) ?hr ?_; (case hd => rfl); (case hg => rfl); (case hr => first | (go_simp; done) | (go_simp; rfl)); intro gb239 hg w4 hbox hb; have n0_ := Aside0.mk (below_step (qB HB.out) hb); have n1_ := Aside0.mk (hbox); have n2_ := Aside0.mk ((by rw [hg]; exact (below_size (qB HB.out)) : w.heap.size ≤ gb239)); have n3_ := Aside0.mk ((by rw [hg]; exact (below_size (qB HB.out)) : w.heap.size ≤ gb239)); clear HB; have HB := n0_; have BK239 := n1_; have GW239 := n2_; have GE239 := n3_; clear n0_ n1_ n2_ n3_; clear hb hbox hg; have hcz5_0 : w4.cell? ⟨gb239, 0, none⟩ = some (.slice A0_0 l0_0.length c0_0) := (blk_cell BK239.out 0).trans rfl; have hfz5_0 := blk_frozen BK239.out 0) | ((with_reducible refine gate_callee (f := 15) rfl ?_); refine goesL_ (some 14) rfl rfl Tryd.func15 (by kernel_rfl) rfl #[.agg #[.slice A0_0 l0_0.length c0_0], .slice A1 l1.length c1] rfl qM ?_; (with_reducible refine (fill_Bags.calls (hTb := (by first | exact HTAB.out | exact tab_drewN HTAB.out _ | exact tab_below HTAB.out (by repeat (first | (with_reducible first | exact HB.out | apply below_alloc | apply pw_below_drewN | apply below_drew1 | refine below_set ?_ GE239.out) | exact HB.out)))) _ _ l0_0 _ _ l1 t240 t243 _ ?side1 ?side2 ?side3 ?side4 A3.out).mono ?_); (case side1 => repeat (first | exact (Kd.C_below HR0_0.out HB.out) | (with_reducible refine Kd.C_alloc ?_ _) | (with_reducible refine Kd.C_drewN ?_ _) | (with_reducible refine Kd.C_drew ?_))); (case side2 => exact HC0_0.out); (case side3 => repeat (first | exact (Kd.C_below HR1.out HB.out) | (with_reducible refine Kd.C_alloc ?_ _) | (with_reducible refine Kd.C_drewN ?_ _) | (with_reducible refine Kd.C_drew ?_))); (case side4 => exact HC1.out); rintro e w6 ⟨v241, rfl, ho0, hb⟩; refine ⟨_, rfl, ?_⟩; have n0_ := Aside0.mk (Kd.S_lower ho0 (below_size (by repeat (first | (with_reducible first | exact HB.out | apply below_alloc | apply pw_below_drewN | apply below_drew1 | refine below_set ?_ GE239.out) | exact HB.out)))); have n1_ := Aside0.mk (blk_below (g := gb239) (o := .cells #[.slice A0_0 l0_0.length c0_0] 29 (0, 0)) (qK BK239.out) hb); have n2_ := Aside0.mk (below_step (by repeat (first | (with_reducible first | exact HB.out | apply below_alloc | apply pw_below_drewN | apply below_drew1 | refine below_set ?_ GE239.out) | exact HB.out)) hb); clear BK239; clear HB; have HO242 := n0_; have BK239 := n1_; have HB := n2_; clear n0_ n1_ n2_; (try clear hb); (try clear hb2); (try clear hk); (try clear hi); (try clear ho0); obtain ⟨Ao7, co7, eo7⟩ := Kd.S_slice HO242.out; subst eo7))
 go_loopg [8, 19] k (fun kq v8 v19 w' => ∃ (x8_1 : Int) (x19_1 : Int), v8 = .int .i64 x8_1 ∧ v19 = .int .i64 x19_1 ∧ Aside0 (fill_Width.l0 kq t243 x8_1 t240 (t240.length : Int) x19_1 = some (r1, r2)) ∧ Aside0 (kq ≤ k) ∧ Aside0 (Kd.S (Kd.slice 3 (Kd.int .i64)) 23 w' w.heap.size (fun _ => True) (.slice Ao7 t240.length co7) t240) ∧ Aside0 (w'.heap[gb239]? = some (.cells #[(.slice A0_0 l0_0.length c0_0)] 29 (0, 0))) ∧ Aside0 (Below w.heap.size w w'))
 case atStart => exact ⟨(0), (0), (by first | rfl | (simp; done) | (simp [*]; done)), (by first | rfl | (simp; done) | (simp [*]; done)), H', ⟨Nat.le_refl _⟩, ⟨by (with_reducible repeat (first | apply Kd.S_alloc | apply Kd.S_drewN | apply Kd.S_drew)); exact HO242.out⟩, ⟨by (with_reducible repeat (first | refine blk_drewN ?_ _ | refine blk_drew ?_ | refine blk_alloc ?_ _)); exact BK239.out⟩, ⟨by repeat (first | (with_reducible first | exact HB.out | apply below_alloc | apply pw_below_drewN | apply below_drew1 | refine below_set ?_ GE239.out) | exact HB.out)⟩⟩
 case round =>
  clear H';try clear c1
  try clear p2
  try clear hcz5_0
  try clear hfz5_0
  obtain ⟨x8_1, x19_1, rfl, rfl, HA, HK1, HO_17, BK239, HB⟩ := hrel;cases gk with
  | zero => exact absurd HA.out (by simp [fill_Width.l0])
  | succ k1 =>
   have H := HA.out;clear HA;simp only [fill_Width.l0] at H
   by_cases c8 : x19_1 < (t240.length : Int)
   ·rw [if_pos c8] at H
    have c8b0 : decide (x19_1 < (t240.length : Int)) = true := decide_eq_true c8;clear c8;by_cases c9 : 0 ≤ x19_1
    ·rw [if_pos c9] at H
     have c9b0 : decide (0 ≤ x19_1) = true := decide_eq_true c9;clear c9;by_cases c10 : x19_1 < (t240.length : Int)
     ·rw [if_pos c10] at H
      have c10b0 : decide (x19_1 < (t240.length : Int)) = true := decide_eq_true c10;clear c10;obtain ⟨ji11, hji11⟩ : ∃ j_ : Int, (mx x8_1 ((rd_L1 t240 x19_1).length : Int)) = j_ := ⟨_, rfl⟩;replace H : (fill_Width.l0 k1 t243 ji11 t240 (t240.length : Int) (wrap64 (x19_1 + 1))) = some (r1, r2) := by first | (rw [hji11] at H; exact H) | (simp only [hji11] at H ⊢; exact H)
      have hji11_ : (if x8_1 < ((rd_L1 t240 x19_1).length : Int) then ((rd_L1 t240 x19_1).length : Int) else x8_1) = ji11 := hji11;have H' := Aside0.mk H;clear H;have p244 : 0 ≤ (x19_1 : Int) := of_decide_eq_true qA;have q244 : x19_1 < (t240.length : Int) := of_decide_eq_true qA;obtain ⟨ad244, A244_0, c244_0, e244, hx244_0, hl244_0, hi244_0⟩ := at_L1 (Kd.S_reads' HO_17.out).2.2 x19_1 p244 q244;cases e244
      obtain ⟨ce244, hce244, hMe244, hcc244⟩ := Kd.S_get HO_17.out [] x19_1 p244 (by first | exact q244 | exact of_decide_eq_true qA | (have e_ := (Kd.S_reads' HO_17.out).1; omega));obtain ⟨ve244_0, rfl, ge244_0⟩ := hMe244;have hv244_0 := hcc244 0 _ rfl;rw [Nat.add_zero, show ((Kd.slice 3 (Kd.int .i64))).sz = 1 from rfl, Nat.mul_one] at hv244_0
      replace hv244_0 := Option.some.inj (hv244_0.symm.trans hx244_0);rw [hv244_0] at ge244_0
      have HL244_0 := Aside0.mk (show Kd.R (Kd.int .i64) 3 _ _ _ _ (rd_L1 t240 x19_1) from ge244_0);clear hv244_0 ge244_0;clear hcc244 hce244;have HR244_0 := Aside0.mk hi244_0;have HC244_0 := Aside0.mk hl244_0;clear hi244_0 hl244_0;replace p244 := eq_true p244;replace q244 := eq_true q244;go_wp2
      first | go_roundg k1 | (simp only [← hji11]; (try simp only [← hji11] at H'); go_roundg k1)
      case measure => have := HK1.out; omega
      case rel => exact ⟨(ji11), (wrap64 (x19_1 + 1)), (by first | rfl | (simp; done) | (simp only [← hji11] <;> (first | rfl | simp)) | (simp [*]; done)), (by first | rfl | (simp; done) | (simp [*]; done)), H', ⟨by have := HK1.out; omega⟩, ⟨by (with_reducible repeat (first | apply Kd.S_alloc | apply Kd.S_drewN | apply Kd.S_drew)); exact HO_17.out⟩, ⟨by (with_reducible repeat (first | refine blk_drewN ?_ _ | refine blk_drew ?_ | refine blk_alloc ?_ _)); exact BK239.out⟩, ⟨by repeat (first | (with_reducible first | exact HB.out | apply below_alloc | apply pw_below_drewN | apply below_drew1 | refine below_set ?_ GE239.out) | exact HB.out)⟩⟩
     ·rw [if_neg c10] at H
      exact absurd H (by simp)
    ·rw [if_neg c9] at H
     exact absurd H (by simp)
   ·rw [if_neg c8] at H
    have c8b0 : decide (x19_1 < (t240.length : Int)) = false := decide_eq_false c8;clear c8;by_cases c12 : t243 = 0
    ·rw [if_pos c12] at H
     have c12b0 : (t243 == 0) = true := beq_iff_eq.mpr c12;have c12b1 : (t243 != 0) = false := bne_eq_false_iff_eq.mpr c12;clear c12;simp only [Option.some.injEq, Prod.mk.injEq] at H
     obtain ⟨rfl, rfl⟩ := H;go_wp2
     go_ret2
     exact ⟨by first | rfl | (simp [errW_none, errW_some] <;> rfl) | (simp [*, errW_none, errW_some] <;> rfl), by repeat (first | (with_reducible first | exact HB.out | apply below_alloc | apply pw_below_drewN | apply below_drew1 | refine below_set ?_ GE239.out) | exact HB.out)⟩
    ·rw [if_neg c12] at H
     have c12b0 : (t243 == 0) = false := beq_eq_false_iff_ne.mpr c12;have c12b1 : (t243 != 0) = true := bne_iff_ne.mpr c12;simp only [Option.some.injEq, Prod.mk.injEq] at H
     obtain ⟨rfl, rfl⟩ := H;go_wp2
     go_ret2
     exact ⟨by first | rfl | (simp [errW_none, errW_some] <;> rfl) | (simp [*, errW_none, errW_some] <;> rfl), by repeat (first | (with_reducible first | exact HB.out | apply below_alloc | apply pw_below_drewN | apply below_drew1 | refine below_set ?_ GE239.out) | exact HB.out)⟩
end Go.Proofs.YtopjffgmpphdbaaDoor.Pr
namespace Go.Proofs.YtopjffgmpphdbaaDoor.Pr
open Go.RowKit Go.Proofs.YtopjffgmpphdbaaDoorW.PrintWords Go.Proofs.YtopjffgmpphdbaaDoorW.PrintLast Go.Proofs.YtopjffgmpphdbaaDoorW.PrintMore
attribute [local go_sem] max2_int min2_int max_two min_two max_three min_three max_four min_four
set_option linter.unusedVariables false
set_option linter.unusedSimpArgs false
/-! ### graph_Right: function 41 -/
mutual
def graph_Right.l0 : Nat → List Int → Int → Int → List Int → Option (Bool)
 | 0, _, _, _, _ => none
 | k + 1, x12, x13, x14, x246000 => if x14 < x13 then (if 0 ≤ x14 then (if x14 < (x12.length : Int) then (if (shr .u64 (rd x12 x14) (x246000.length : Int)) = 0 then ((graph_list.f (rd x12 x14)).bind fun t247 => (graph_Right.l1 k x14 x12 x13 x14 t247 (t247.length : Int) 0 x246000)) else (some false)) else (none)) else (none)) else (some true)
def graph_Right.l1 : Nat → Int → List Int → Int → Int → List Int → Int → Int → List Int → Option (Bool)
 | 0, _, _, _, _, _, _, _, _ => none
 | k + 1, x3, x12, x13, x14, x26, x27, x28, x246000 => if x28 < x27 then (if 0 ≤ x28 then (if x28 < (x26.length : Int) then (if (rd x26 x28) = x3 then (some false) else (if 0 ≤ (rd x26 x28) then (if (rd x26 x28) < (x246000.length : Int) then (if 0 ≤ x3 then (if (Go.bits .and .u64 (shr .u64 (rd x246000 (rd x26 x28)) x3) 1) = 0 then (some false) else (graph_Right.l1 k x3 x12 x13 x14 x26 x27 (wrap64 (x28 + 1)) x246000)) else (none)) else (none)) else (none))) else (none)) else (none)) else (graph_Right.l0 k x12 x13 (wrap64 (x14 + 1)) x246000)
end
def graph_Right.f (k : Nat) (l0_0 : List Int) : Option (Bool) := if (l0_0.length : Int) > 40 then (some false) else (graph_Right.l0 k l0_0 (l0_0.length : Int) 0 l0_0)
theorem graph_Right.mono_l : ∀ k, (∀ y0 y1 y2 y3, LeO (graph_Right.l0 k y0 y1 y2 y3) (graph_Right.l0 (k + 1) y0 y1 y2 y3)) ∧ (∀ y0 y1 y2 y3 y4 y5 y6 y7, LeO (graph_Right.l1 k y0 y1 y2 y3 y4 y5 y6 y7) (graph_Right.l1 (k + 1) y0 y1 y2 y3 y4 y5 y6 y7))
 | 0 => ⟨fun _ _ _ _ r h => by simp [graph_Right.l0] at h, fun _ _ _ _ _ _ _ _ r h => by simp [graph_Right.l1] at h⟩
 | k + 1 => by
  obtain ⟨ih0, ih1⟩ := graph_Right.mono_l k;refine ⟨?_, ?_⟩;all_goals intros
  all_goals (first | unfold graph_Right.l0 | unfold graph_Right.l1)
  all_goals repeat' first
  | (with_reducible first | exact ih0 _ _ _ _ | exact ih1 _ _ _ _ _ _ _ _ | exact LeO.refl _ | exact LeO.none _ | refine LeO.ite ?_ ?_ | refine LeO.bind ?_ (fun _ => ?_))
  | exact ih0 _ _ _ _
  | exact ih1 _ _ _ _ _ _ _ _
  | exact LeO.none _
  | refine LeO.ite ?_ ?_
  | refine LeO.bind ?_ (fun _ => ?_)
theorem graph_Right.mono : ∀ a0 k, LeO (graph_Right.f k a0) (graph_Right.f (k + 1) a0) := by
 intro a0 k
 obtain ⟨ih0, ih1⟩ := graph_Right.mono_l k;unfold graph_Right.f
 repeat' first
   | (with_reducible first | exact ih0 _ _ _ _ | exact ih1 _ _ _ _ _ _ _ _ | exact LeO.refl _ | exact LeO.none _ | refine LeO.ite ?_ ?_ | refine LeO.bind ?_ (fun _ => ?_))
   | exact ih0 _ _ _ _
   | exact ih1 _ _ _ _ _ _ _ _
   | exact LeO.none _
   | refine LeO.ite ?_ ?_
   | refine LeO.bind ?_ (fun _ => ?_)
set_option maxHeartbeats 8000000 in
set_option maxRecDepth 100000 in
theorem graph_Right.calls (k : Nat) (A0_0 : Option Addr) (c0_0 : Nat) (l0_0 : List Int) (r : Bool) (w : World) (hTb : Tab64 w) (hr0_0 : Kd.C (Kd.int .u64) w A0_0 l0_0.length l0_0) (hc0_0 : l0_0.length ≤ c0_0) (h : graph_Right.f k l0_0 = some r) :
  Calls Tryd.prog 41 #[.agg #[.slice A0_0 l0_0.length c0_0]] w fun e w' => e = .returned (.bool r) ∧ Below w.heap.size w w' := by
 have HTAB := Aside0.mk hTb;clear hTb;have hu29 := Tryd.underlying29;have HR0_0 := Aside0.mk hr0_0;have HC0_0 := Aside0.mk hc0_0;clear hr0_0 hc0_0;have HB := Aside0.mk (Below.refl w.heap.size w);have H : (if (l0_0.length : Int) > 40 then (some false) else (graph_Right.l0 k l0_0 (l0_0.length : Int) 0 l0_0)) = some r := h;clear h;by_cases c2 : (l0_0.length : Int) > 40
 ·rw [if_pos c2] at H
  have c2b0 : decide (40 < (l0_0.length : Int)) = true := decide_eq_true c2;have c2b1 : decide (40 < l0_0.length) = true := decide_eq_true (by omega);clear c2;obtain rfl := Option.some.inj H;go_enter Tryd.func41, Tryd.ntmps41
  go_wp2_with (first | ((with_reducible refine gate_dst (N := 1) rfl ?_); refine box_event ?hg (N := 1) ?hd (cs := #[.slice A0_0 l0_0.length c0_0]) (t := 29) ?hr ?_; (case hd => rfl); (case hg => rfl); (case hr => first | (go_simp; done) | (go_simp; rfl)); intro gb245 hg w3 hbox hb; have n0_ := Aside0.mk (below_step (qB HB.out) hb); have n1_ := Aside0.mk (hbox); have n2_ := Aside0.mk ((by rw [hg]; exact (below_size (qB HB.out)) : w.heap.size ≤ gb245)); have n3_ := Aside0.mk ((by rw [hg]; exact (below_size (qB HB.out)) : w.heap.size ≤ gb245)); clear HB; have HB := n0_; have BK245 := n1_; have GW245 := n2_; have GE245 := n3_; clear n0_ n1_ n2_ n3_; clear hb hbox hg; have hcz4_0 : w3.cell? ⟨gb245, 0, none⟩ = some (.slice A0_0 l0_0.length c0_0) := (blk_cell BK245.out 0).trans rfl; have hfz4_0 := blk_frozen BK245.out 0))
  go_ret
  exact ⟨by first | rfl | (simp [errW_none, errW_some] <;> rfl) | (simp [*, errW_none, errW_some] <;> rfl), by repeat (first | (with_reducible first | exact HB.out | apply below_alloc | apply pw_below_drewN | apply below_drew1 | refine below_set ?_ GE245.out) | exact HB.out)⟩
 ·rw [if_neg c2] at H
  have c2b0 : decide (40 < (l0_0.length : Int)) = false := decide_eq_false c2;have c2b1 : decide (40 < l0_0.length) = false := decide_eq_false (by omega);clear c2;have H' := Aside0.mk H;clear H;go_enter Tryd.func41, Tryd.ntmps41
  go_wp2_with (first | ((with_reducible refine gate_dst (N := 1) rfl ?_); refine box_event ?hg (N := 1) ?hd (cs := #[.slice A0_0 l0_0.length c0_0]) (t := 29) ?hr ?_; (case hd => rfl); (case hg => rfl); (case hr => first | (go_simp; done) | (go_simp; rfl)); intro gb245 hg w5 hbox hb; have n0_ := Aside0.mk (below_step (qB HB.out) hb); have n1_ := Aside0.mk (hbox); have n2_ := Aside0.mk ((by rw [hg]; exact (below_size (qB HB.out)) : w.heap.size ≤ gb245)); have n3_ := Aside0.mk ((by rw [hg]; exact (below_size (qB HB.out)) : w.heap.size ≤ gb245)); clear HB; have HB := n0_; have BK245 := n1_; have GW245 := n2_; have GE245 := n3_; clear n0_ n1_ n2_ n3_; clear hb hbox hg; have hcz6_0 : w5.cell? ⟨gb245, 0, none⟩ = some (.slice A0_0 l0_0.length c0_0) := (blk_cell BK245.out 0).trans rfl; have hfz6_0 := blk_frozen BK245.out 0))
  go_loopg [14] k (fun kq v14 w' => ∃ (x14_1 : Int), v14 = .int .i64 x14_1 ∧ Aside0 (graph_Right.l0 kq l0_0 (l0_0.length : Int) x14_1 l0_0 = some r) ∧ Aside0 (kq ≤ k) ∧ Aside0 (w'.heap[gb245]? = some (.cells #[(.slice A0_0 l0_0.length c0_0)] 29 (0, 0))) ∧ Aside0 (Below w.heap.size w w'))
  case atStart => exact ⟨(0), (by first | rfl | (simp; done) | (simp [*]; done)), H', ⟨Nat.le_refl _⟩, ⟨by (with_reducible repeat (first | refine blk_drewN ?_ _ | refine blk_drew ?_ | refine blk_alloc ?_ _)); exact BK245.out⟩, ⟨by repeat (first | (with_reducible first | exact HB.out | apply below_alloc | apply pw_below_drewN | apply below_drew1 | refine below_set ?_ GE245.out) | exact HB.out)⟩⟩
  case round =>
   clear H';try clear c2
   try clear c2b0
   try clear c2b1
   try clear p2
   try clear c4
   try clear hcz4_0
   try clear hcz6_0
   try clear hfz4_0
   try clear hfz6_0
   obtain ⟨x14_1, rfl, HA, HK1, BK245, HB⟩ := hrel;cases gk with
   | zero => exact absurd HA.out (by simp [graph_Right.l0])
   | succ k1 =>
    have H := HA.out;clear HA;simp only [graph_Right.l0] at H
    by_cases c7 : x14_1 < (l0_0.length : Int)
    ·rw [if_pos c7] at H
     have c7b0 : decide (x14_1 < (l0_0.length : Int)) = true := decide_eq_true c7;clear c7;by_cases c8 : 0 ≤ x14_1
     ·rw [if_pos c8] at H
      have c8b0 : decide (0 ≤ x14_1) = true := decide_eq_true c8;clear c8;by_cases c9 : x14_1 < (l0_0.length : Int)
      ·rw [if_pos c9] at H
       have c9b0 : decide (x14_1 < (l0_0.length : Int)) = true := decide_eq_true c9;clear c9;obtain ⟨ji10, hji10⟩ : ∃ j_ : Int, (shr .u64 (rd l0_0 x14_1) (l0_0.length : Int)) = j_ := ⟨_, rfl⟩;replace H : (if (ji10) = 0 then ((graph_list.f (rd l0_0 x14_1)).bind fun t247 => (graph_Right.l1 k1 x14_1 l0_0 (l0_0.length : Int) x14_1 t247 (t247.length : Int) 0 l0_0)) else (some false)) = some r := by first | (rw [hji10] at H; exact H) | (simp only [hji10] at H ⊢; exact H)
       have hji10_ : ((rd l0_0 x14_1) / 2 ^ min (l0_0.length : Int).toNat 64) = ji10 := hji10;have hji10z : (l0_0.length : Int) ≤ 64 → ((rd l0_0 x14_1) / 2 ^ (l0_0.length : Int).toNat) = ji10 := shr_small hji10;have hji10p : ((rd l0_0 x14_1) / 2 ^ min l0_0.length 64) = ji10 := hji10_;have hji10q : (l0_0.length : Int) ≤ 64 → ((rd l0_0 x14_1) / 2 ^ l0_0.length) = ji10 := hji10z;by_cases c11 : (ji10) = 0
       ·rw [if_pos c11] at H
        have c11b0 : ((ji10) == 0) = true := beq_iff_eq.mpr c11;have c11b1 : ((ji10) != 0) = false := bne_eq_false_iff_eq.mpr c11;clear c11;replace H := Option.bind_eq_some_iff.mp H;obtain ⟨t247, A120, H⟩ := H;(try dsimp only at H);have A12 := Aside0.mk A120;clear A120;have H' := Aside0.mk H;clear H;have p246 : 0 ≤ (x14_1 : Int) := of_decide_eq_true qA;have q246 : x14_1 < (l0_0.length : Int) := of_decide_eq_true qA;obtain ⟨ad246, e246, hx246_0⟩ := Kd.at_int HR0_0.out x14_1 p246 q246;cases e246
        replace hx246_0 := (HB.out.cell (World.block_lt_of_cell? w _ hx246_0)).trans hx246_0;replace p246 := eq_true p246;replace q246 := eq_true q246;have hcz13_0 : wr.cell? ⟨gb245, 0, none⟩ = some (.slice (some ad246) l0_0.length c0_0) := (blk_cell BK245.out 0).trans rfl;have hfz13_0 := blk_frozen BK245.out 0;go_wp2_with (first | ((with_reducible refine gate_callee (f := 57) rfl ?_); refine goesL_ (some 26) rfl rfl Tryd.func57 (by kernel_rfl) rfl #[.int .u64 (rd l0_0 x14_1)] rfl qM ?_; (with_reducible refine (graph_list.calls (hTb := (by first | exact HTAB.out | exact tab_drewN HTAB.out _ | exact tab_below HTAB.out (by repeat (first | (with_reducible first | exact HB.out | apply below_alloc | apply pw_below_drewN | apply below_drew1 | refine below_set ?_ GE245.out) | exact HB.out)))) (rd l0_0 x14_1) t247 _ A12.out).mono ?_); rintro e w14 ⟨v248, rfl, ho0, hb⟩; refine ⟨_, rfl, ?_⟩; have n0_ := Aside0.mk (Kd.R_lower ho0 (below_size (by repeat (first | (with_reducible first | exact HB.out | apply below_alloc | apply pw_below_drewN | apply below_drew1 | refine below_set ?_ GE245.out) | exact HB.out)))); have n1_ := Aside0.mk (blk_below (g := gb245) (o := .cells #[.slice (some ad246) l0_0.length c0_0] 29 (0, 0)) (qK BK245.out) hb); have n2_ := Aside0.mk (below_step (by repeat (first | (with_reducible first | exact HB.out | apply below_alloc | apply pw_below_drewN | apply below_drew1 | refine below_set ?_ GE245.out) | exact HB.out)) hb); clear BK245; clear HB; have HO249 := n0_; have BK245 := n1_; have HB := n2_; clear n0_ n1_ n2_; (try clear hb); (try clear hb2); (try clear hk); (try clear hi); (try clear ho0); obtain ⟨Ao15, co15, eo15⟩ := Kd.R_slice HO249.out; subst eo15))
        go_loopg [28] k1 (fun kq v28 w' => ∃ (x28_2 : Int), v28 = .int .i64 x28_2 ∧ Aside0 (graph_Right.l1 kq x14_1 l0_0 (l0_0.length : Int) x14_1 t247 (t247.length : Int) x28_2 l0_0 = some r) ∧ Aside0 (kq ≤ k1) ∧ Aside0 (Kd.R (Kd.int .i64) 3 w' w.heap.size (fun _ => True) (.slice Ao15 t247.length co15) t247) ∧ Aside0 (w'.heap[gb245]? = some (.cells #[(.slice (some ad246) l0_0.length c0_0)] 29 (0, 0))) ∧ Aside0 (Below w.heap.size w w'))
        case atStart => exact ⟨(0), (by first | rfl | (simp; done) | (simp [*]; done)), H', ⟨Nat.le_refl _⟩, ⟨by (with_reducible repeat (first | apply Kd.R_alloc | apply Kd.R_drewN | apply Kd.R_drew)); exact HO249.out⟩, ⟨by (with_reducible repeat (first | refine blk_drewN ?_ _ | refine blk_drew ?_ | refine blk_alloc ?_ _)); exact BK245.out⟩, ⟨by repeat (first | (with_reducible first | exact HB.out | apply below_alloc | apply pw_below_drewN | apply below_drew1 | refine below_set ?_ GE245.out) | exact HB.out)⟩⟩
        case round =>
         clear H';try clear c1
         try clear c2
         try clear c2b0
         try clear c2b1
         try clear p2
         try clear q2
         try clear hx2
         try clear c4
         try clear c5
         try clear c7
         try clear c7b0
         try clear c8
         try clear c8b0
         try clear c9
         try clear c9b0
         try clear c11
         try clear c11b0
         try clear c11b1
         try clear hcz13_0
         try clear hcz4_0
         try clear hcz6_0
         try clear hfz13_0
         try clear hfz4_0
         try clear hfz6_0
         try clear hx246_0
         try clear p2
         try clear p246
         try clear q246
         obtain ⟨x28_2, rfl, HA, HK2, HO_26, BK245, HB⟩ := hrel;cases gk with
         | zero => exact absurd HA.out (by simp [graph_Right.l1])
         | succ k2 =>
          have H := HA.out;clear HA;simp only [graph_Right.l1] at H
          by_cases c16 : x28_2 < (t247.length : Int)
          ·rw [if_pos c16] at H
           have c16b0 : decide (x28_2 < (t247.length : Int)) = true := decide_eq_true c16;clear c16;by_cases c17 : 0 ≤ x28_2
           ·rw [if_pos c17] at H
            have c17b0 : decide (0 ≤ x28_2) = true := decide_eq_true c17;clear c17;by_cases c18 : x28_2 < (t247.length : Int)
            ·rw [if_pos c18] at H
             have c18b0 : decide (x28_2 < (t247.length : Int)) = true := decide_eq_true c18;clear c18;by_cases c19 : (rd t247 x28_2) = x14_1
             ·rw [if_pos c19] at H
              have c19b0 : ((rd t247 x28_2) == x14_1) = true := beq_iff_eq.mpr c19;have c19b1 : ((rd t247 x28_2) != x14_1) = false := bne_eq_false_iff_eq.mpr c19;clear c19;obtain rfl := Option.some.inj H;have p250 : 0 ≤ (x28_2 : Int) := of_decide_eq_true qA;have q250 : x28_2 < (t247.length : Int) := of_decide_eq_true qA;obtain ⟨ad250, e250, hx250_0⟩ := Kd.at_int (Kd.R_reads' HO_26.out).2.2 x28_2 p250 q250;cases e250
              replace p250 := eq_true p250;replace q250 := eq_true q250;go_wp2
              go_ret
              exact ⟨by first | rfl | (simp [errW_none, errW_some] <;> rfl) | (simp only [← hji10]; first | rfl | (simp [errW_none, errW_some] <;> rfl)) | (simp [*, errW_none, errW_some] <;> rfl), by repeat (first | (with_reducible first | exact HB.out | apply below_alloc | apply pw_below_drewN | apply below_drew1 | refine below_set ?_ GE245.out) | exact HB.out)⟩
             ·rw [if_neg c19] at H
              have c19b0 : ((rd t247 x28_2) == x14_1) = false := beq_eq_false_iff_ne.mpr c19;have c19b1 : ((rd t247 x28_2) != x14_1) = true := bne_iff_ne.mpr c19;by_cases c20 : 0 ≤ (rd t247 x28_2)
              ·rw [if_pos c20] at H
               have c20b0 : decide (0 ≤ (rd t247 x28_2)) = true := decide_eq_true c20;clear c20;by_cases c21 : (rd t247 x28_2) < (l0_0.length : Int)
               ·rw [if_pos c21] at H
                have c21b0 : decide ((rd t247 x28_2) < (l0_0.length : Int)) = true := decide_eq_true c21;clear c21;by_cases c22 : 0 ≤ x14_1
                ·rw [if_pos c22] at H
                 have c22b0 := eq_true c22;have c22b1 : decide (0 ≤ x14_1) = true := decide_eq_true c22;clear c22;obtain ⟨ji23, hji23⟩ : ∃ j_ : Int, (shr .u64 (rd l0_0 (rd t247 x28_2)) x14_1) = j_ := ⟨_, rfl⟩;replace H : (if (Go.bits .and .u64 (ji23) 1) = 0 then (some false) else (graph_Right.l1 k2 x14_1 l0_0 (l0_0.length : Int) x14_1 t247 (t247.length : Int) (wrap64 (x28_2 + 1)) l0_0)) = some r := by first | (rw [hji23] at H; exact H) | (simp only [hji23] at H ⊢; exact H)
                 have hji23_ : ((rd l0_0 (rd t247 x28_2)) / 2 ^ min x14_1.toNat 64) = ji23 := hji23;have hji23z : x14_1 ≤ 64 → ((rd l0_0 (rd t247 x28_2)) / 2 ^ x14_1.toNat) = ji23 := shr_small hji23;by_cases c24 : (Go.bits .and .u64 (ji23) 1) = 0
                 ·rw [if_pos c24] at H
                  have c24b0 : ((Go.bits .and .u64 (ji23) 1) == 0) = true := beq_iff_eq.mpr c24;have c24b1 : ((Go.bits .and .u64 (ji23) 1) != 0) = false := bne_eq_false_iff_eq.mpr c24;clear c24;obtain rfl := Option.some.inj H;have p250 : 0 ≤ (x28_2 : Int) := of_decide_eq_true qA;have q250 : x28_2 < (t247.length : Int) := of_decide_eq_true qA;obtain ⟨ad250, e250, hx250_0⟩ := Kd.at_int (Kd.R_reads' HO_26.out).2.2 x28_2 p250 q250;cases e250
                  replace p250 := eq_true p250;replace q250 := eq_true q250;have hcz25_0 : wr.cell? ⟨gb245, 0, none⟩ = some (.slice (some ad246) l0_0.length c0_0) := (blk_cell BK245.out 0).trans rfl;have hfz25_0 := blk_frozen BK245.out 0;have p251 : 0 ≤ ((rd t247 x28_2) : Int) := of_decide_eq_true qA;have q251 : (rd t247 x28_2) < (l0_0.length : Int) := of_decide_eq_true qA;obtain ⟨ad251, e251, hx251_0⟩ := Kd.at_int HR0_0.out (rd t247 x28_2) p251 q251;obtain rfl : ad246 = ad251 := (by injection e251);replace hx251_0 := (HB.out.cell (World.block_lt_of_cell? w _ hx251_0)).trans hx251_0;replace p251 := eq_true p251;replace q251 := eq_true q251;go_wp2
                  go_ret
                  exact ⟨by first | rfl | (simp [errW_none, errW_some] <;> rfl) | (simp only [← hji10, ← hji23]; first | rfl | (simp [errW_none, errW_some] <;> rfl)) | (simp [*, errW_none, errW_some] <;> rfl), by repeat (first | (with_reducible first | exact HB.out | apply below_alloc | apply pw_below_drewN | apply below_drew1 | refine below_set ?_ GE245.out) | exact HB.out)⟩
                 ·rw [if_neg c24] at H
                  have c24b0 : ((Go.bits .and .u64 (ji23) 1) == 0) = false := beq_eq_false_iff_ne.mpr c24;have c24b1 : ((Go.bits .and .u64 (ji23) 1) != 0) = true := bne_iff_ne.mpr c24;have H' := Aside0.mk H;clear H;have p250 : 0 ≤ (x28_2 : Int) := of_decide_eq_true qA;have q250 : x28_2 < (t247.length : Int) := of_decide_eq_true qA;obtain ⟨ad250, e250, hx250_0⟩ := Kd.at_int (Kd.R_reads' HO_26.out).2.2 x28_2 p250 q250;cases e250
                  replace p250 := eq_true p250;replace q250 := eq_true q250;have hcz26_0 : wr.cell? ⟨gb245, 0, none⟩ = some (.slice (some ad246) l0_0.length c0_0) := (blk_cell BK245.out 0).trans rfl;have hfz26_0 := blk_frozen BK245.out 0;have p251 : 0 ≤ ((rd t247 x28_2) : Int) := of_decide_eq_true qA;have q251 : (rd t247 x28_2) < (l0_0.length : Int) := of_decide_eq_true qA;obtain ⟨ad251, e251, hx251_0⟩ := Kd.at_int HR0_0.out (rd t247 x28_2) p251 q251;obtain rfl : ad246 = ad251 := (by injection e251);replace hx251_0 := (HB.out.cell (World.block_lt_of_cell? w _ hx251_0)).trans hx251_0;replace p251 := eq_true p251;replace q251 := eq_true q251;go_wp2
                  first | go_roundg k2 | (simp only [← hji10, ← hji23]; (try simp only [← hji10, ← hji23] at H'); go_roundg k2)
                  case measure => have := HK1.out; have := HK2.out; omega
                  case rel => exact ⟨(wrap64 (x28_2 + 1)), (by first | rfl | (simp; done) | (simp [*]; done)), H', ⟨by have := HK1.out; have := HK2.out; omega⟩, ⟨by (with_reducible repeat (first | apply Kd.R_alloc | apply Kd.R_drewN | apply Kd.R_drew)); exact HO_26.out⟩, ⟨by (with_reducible repeat (first | refine blk_drewN ?_ _ | refine blk_drew ?_ | refine blk_alloc ?_ _)); exact BK245.out⟩, ⟨by repeat (first | (with_reducible first | exact HB.out | apply below_alloc | apply pw_below_drewN | apply below_drew1 | refine below_set ?_ GE245.out) | exact HB.out)⟩⟩
                ·rw [if_neg c22] at H
                 exact absurd H (by simp)
               ·rw [if_neg c21] at H
                exact absurd H (by simp)
              ·rw [if_neg c20] at H
               exact absurd H (by simp)
            ·rw [if_neg c18] at H
             exact absurd H (by simp)
           ·rw [if_neg c17] at H
            exact absurd H (by simp)
          ·rw [if_neg c16] at H
           have c16b0 : decide (x28_2 < (t247.length : Int)) = false := decide_eq_false c16;clear c16;have H' := Aside0.mk H;clear H;go_wp2
           first | go_roundg k2 | (simp only [← hji10]; (try simp only [← hji10] at H'); go_roundg k2)
           case measure => have := HK1.out; have := HK2.out; omega
           case rel => exact ⟨(wrap64 (x14_1 + 1)), (by first | rfl | (simp; done) | (simp [*]; done)), H', ⟨by have := HK1.out; have := HK2.out; omega⟩, ⟨by (with_reducible repeat (first | refine blk_drewN ?_ _ | refine blk_drew ?_ | refine blk_alloc ?_ _)); exact BK245.out⟩, ⟨by repeat (first | (with_reducible first | exact HB.out | apply below_alloc | apply pw_below_drewN | apply below_drew1 | refine below_set ?_ GE245.out) | exact HB.out)⟩⟩
       ·rw [if_neg c11] at H
        have c11b0 : ((ji10) == 0) = false := beq_eq_false_iff_ne.mpr c11;have c11b1 : ((ji10) != 0) = true := bne_iff_ne.mpr c11;obtain rfl := Option.some.inj H;have p246 : 0 ≤ (x14_1 : Int) := of_decide_eq_true qA;have q246 : x14_1 < (l0_0.length : Int) := of_decide_eq_true qA;obtain ⟨ad246, e246, hx246_0⟩ := Kd.at_int HR0_0.out x14_1 p246 q246;cases e246
        replace hx246_0 := (HB.out.cell (World.block_lt_of_cell? w _ hx246_0)).trans hx246_0;replace p246 := eq_true p246;replace q246 := eq_true q246;have hcz27_0 : wr.cell? ⟨gb245, 0, none⟩ = some (.slice (some ad246) l0_0.length c0_0) := (blk_cell BK245.out 0).trans rfl;have hfz27_0 := blk_frozen BK245.out 0;go_wp2
        go_ret
        exact ⟨by first | rfl | (simp [errW_none, errW_some] <;> rfl) | (simp only [← hji10]; first | rfl | (simp [errW_none, errW_some] <;> rfl)) | (simp [*, errW_none, errW_some] <;> rfl), by repeat (first | (with_reducible first | exact HB.out | apply below_alloc | apply pw_below_drewN | apply below_drew1 | refine below_set ?_ GE245.out) | exact HB.out)⟩
      ·rw [if_neg c9] at H
       exact absurd H (by simp)
     ·rw [if_neg c8] at H
      exact absurd H (by simp)
    ·rw [if_neg c7] at H
     have c7b0 : decide (x14_1 < (l0_0.length : Int)) = false := decide_eq_false c7;clear c7;obtain rfl := Option.some.inj H;go_wp2
     go_ret
     exact ⟨by first | rfl | (simp [errW_none, errW_some] <;> rfl) | (simp [*, errW_none, errW_some] <;> rfl), by repeat (first | (with_reducible first | exact HB.out | apply below_alloc | apply pw_below_drewN | apply below_drew1 | refine below_set ?_ GE245.out) | exact HB.out)⟩
end Go.Proofs.YtopjffgmpphdbaaDoor.Pr
