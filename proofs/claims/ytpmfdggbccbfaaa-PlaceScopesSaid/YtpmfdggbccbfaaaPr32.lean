-- Printed by wip/tools/pp.py over the kit's print.py, several texts in one (wip/tools/mergepr.py); Lean checks it.
import Derived.Test.YtpmfdggbccbfaaaPr0
import Derived.Test.YtpmfdggbccbfaaaPr1
import Derived.Test.YtpmfdggbccbfaaaPr28
namespace Go.Proofs.Ytpmfdggbccbfaaa.Pr
open Go.RowKit Go.Proofs.YtpmfdggbccbfaaaW.PrintWords Go.Proofs.YtpmfdggbccbfaaaW.PrintLast Go.Proofs.YtpmfdggbccbfaaaW.PrintMore
attribute [local go_sem] max2_int min2_int max_two min_two max_three min_three max_four min_four
set_option linter.unusedVariables false
set_option linter.unusedSimpArgs false
/-! ### place_Separator: function 31 -/
def place_Separator.f (l0_0 : List (List Int)) (l0_1 : List Int) (a1 : Int) : Option (List Int) := if a1 < 0 then (some ([] : List Int)) else (if a1 ≥ (l0_0.length : Int) then (some ([] : List Int)) else (if a1 ≥ (l0_1.length : Int) then (some ([] : List Int)) else (if 0 ≤ a1 then (if a1 < (l0_1.length : Int) then (if (rd l0_1 a1) < 0 then (some ([] : List Int)) else (if (rd l0_1 a1) ≥ (l0_0.length : Int) then (some ([] : List Int)) else (if a1 < (l0_0.length : Int) then (if 0 ≤ (rd l0_1 a1) then (if (rd l0_1 a1) < (l0_0.length : Int) then ((tuple_Meet.f (rd_L1 l0_0 a1) (rd_L1 l0_0 (rd l0_1 a1))).bind fun t239 => (some t239)) else (none)) else (none)) else (none)))) else (none)) else (none))))
def place_Separator.T3 : Bool × List (List Nat × List Nat) := (true, [([], []), ([0], [0]), ([], []), ([1, 2], [1, 2]), ([3], [3]), ([], []), ([5], [5]), ([], []), ([7], [7]), ([], []), ([8, 9], [8, 9]), ([10], [10]), ([6, 11], [6, 11]), ([12], [12]), ([4, 13], [4, 13]), ([14, 14, 0, 1, 2, 3, 4, 5, 6, 7, 8, 9, 10, 11, 12, 13, 14], [14])])
def place_Separator.B3 : List Nat := [0, 1, 0, 7, 15, 0, 32, 0, 128, 0, 896, 1920, 4064, 8160, 16383, 32767]
theorem place_Separator.tab3 : rtab .any (opsOf Try.f31 3) = place_Separator.T3 := by kernel_rfl
theorem place_Separator.bits3 : waitsOk place_Separator.T3.2 place_Separator.B3 = true := by kernel_rfl
set_option maxHeartbeats 8000000 in
set_option maxRecDepth 100000 in
theorem place_Separator.calls (A0_0 : Option Addr) (c0_0 : Nat) (l0_0 : List (List Int)) (A0_1 : Option Addr) (c0_1 : Nat) (l0_1 : List Int) (a1 : Int) (r : List Int) (w : World) (hr0_0 : Kd.C (Kd.slice 3 (Kd.int .i64)) w A0_0 l0_0.length l0_0) (hc0_0 : l0_0.length ≤ c0_0) (hr0_1 : Kd.C (Kd.int .i64) w A0_1 l0_1.length l0_1) (hc0_1 : l0_1.length ≤ c0_1) (h : place_Separator.f l0_0 l0_1 a1 = some r) :
  Calls Try.prog 31 #[.agg #[.slice A0_0 l0_0.length c0_0, .slice A0_1 l0_1.length c0_1], .int .i64 a1] w fun e w' => ∃ v0_ : Value, e = .returned (v0_) ∧ Kd.R (Kd.int .i64) 3 w' w.heap.size (fun _ => True) v0_ r ∧ Below w.heap.size w w' := by
 have hu25 := Try.underlying25;have HR0_0 := Aside0.mk hr0_0;have HC0_0 := Aside0.mk hc0_0;clear hr0_0 hc0_0;have HR0_1 := Aside0.mk hr0_1;have HC0_1 := Aside0.mk hc0_1;clear hr0_1 hc0_1;have HB := Aside0.mk (Below.refl w.heap.size w);have H : (if a1 < 0 then (some ([] : List Int)) else (if a1 ≥ (l0_0.length : Int) then (some ([] : List Int)) else (if a1 ≥ (l0_1.length : Int) then (some ([] : List Int)) else (if 0 ≤ a1 then (if a1 < (l0_1.length : Int) then (if (rd l0_1 a1) < 0 then (some ([] : List Int)) else (if (rd l0_1 a1) ≥ (l0_0.length : Int) then (some ([] : List Int)) else (if a1 < (l0_0.length : Int) then (if 0 ≤ (rd l0_1 a1) then (if (rd l0_1 a1) < (l0_0.length : Int) then ((tuple_Meet.f (rd_L1 l0_0 a1) (rd_L1 l0_0 (rd l0_1 a1))).bind fun t239 => (some t239)) else (none)) else (none)) else (none)))) else (none)) else (none))))) = some r := h;clear h;by_cases c3 : a1 < 0
 ·rw [if_pos c3] at H
  have c3b0 : decide (a1 < 0) = true := decide_eq_true c3;clear c3;obtain rfl := Option.some.inj H;go_enter Try.func31, Try.ntmps31
  try go_wp2_with (first | ((with_reducible refine gate_dst (N := 2) rfl ?_); (try (refine gate_guard (by rfl) ?_; dsimp only)); refine box_event ?hg (N := 2) ?hd (cs := #[.slice A0_0 l0_0.length c0_0, .slice A0_1 l0_1.length c0_1]) (t := 25) ?hr ?_; (case hd => rfl); (case hg => rfl); (case hr => first | (go_simp; done) | (go_simp; rfl)); intro gb233 hg w24 hbox hb; have n0_ := Aside0.mk (below_step (qB HB.out) hb); have n1_ := Aside0.mk (hbox); have n2_ := Aside0.mk ((by rw [hg]; exact (below_size (qB HB.out)) : w.heap.size ≤ gb233)); have n3_ := Aside0.mk ((by rw [hg]; exact (below_size (qB HB.out)) : w.heap.size ≤ gb233)); clear HB; have HB := n0_; have BK233 := n1_; have GW233 := n2_; have GE233 := n3_; clear n0_ n1_ n2_ n3_; clear hb hbox hg))
  have hs0 := (blk_cell BK233.out 0).trans rfl;have hs1 := (blk_cell BK233.out 1).trans rfl;go_quiet (fail)
  go_wp2
  go_ret
  exact ⟨_, rfl, Kd.R_nil _ _ _ _ _, by repeat (first | (with_reducible first | exact HB.out | apply below_alloc | apply pw_below_drewN | apply below_drew1) | exact HB.out)⟩
 rw [if_neg c3] at H
 have c3b0 : decide (a1 < 0) = false := decide_eq_false c3;by_cases c6 : a1 ≥ (l0_0.length : Int)
 ·rw [if_pos c6] at H
  have c6b0 : decide ((l0_0.length : Int) ≤ a1) = true := decide_eq_true c6;clear c3 c6;obtain rfl := Option.some.inj H;go_enter Try.func31, Try.ntmps31
  try go_wp2_with (first | ((with_reducible refine gate_dst (N := 2) rfl ?_); (try (refine gate_guard (by rfl) ?_; dsimp only)); refine box_event ?hg (N := 2) ?hd (cs := #[.slice A0_0 l0_0.length c0_0, .slice A0_1 l0_1.length c0_1]) (t := 25) ?hr ?_; (case hd => rfl); (case hg => rfl); (case hr => first | (go_simp; done) | (go_simp; rfl)); intro gb233 hg w24 hbox hb; have n0_ := Aside0.mk (below_step (qB HB.out) hb); have n1_ := Aside0.mk (hbox); have n2_ := Aside0.mk ((by rw [hg]; exact (below_size (qB HB.out)) : w.heap.size ≤ gb233)); have n3_ := Aside0.mk ((by rw [hg]; exact (below_size (qB HB.out)) : w.heap.size ≤ gb233)); clear HB; have HB := n0_; have BK233 := n1_; have GW233 := n2_; have GE233 := n3_; clear n0_ n1_ n2_ n3_; clear hb hbox hg))
  have hs0 := (blk_cell BK233.out 0).trans rfl;have hs1 := (blk_cell BK233.out 1).trans rfl;go_quiet (fail)
  go_wp2
  go_ret
  exact ⟨_, rfl, Kd.R_nil _ _ _ _ _, by repeat (first | (with_reducible first | exact HB.out | apply below_alloc | apply pw_below_drewN | apply below_drew1) | exact HB.out)⟩
 rw [if_neg c6] at H
 have c6b0 : decide ((l0_0.length : Int) ≤ a1) = false := decide_eq_false c6;by_cases c9 : a1 ≥ (l0_1.length : Int)
 ·rw [if_pos c9] at H
  have c9b0 : decide ((l0_1.length : Int) ≤ a1) = true := decide_eq_true c9;clear c3 c6 c9;obtain rfl := Option.some.inj H;go_enter Try.func31, Try.ntmps31
  try go_wp2_with (first | ((with_reducible refine gate_dst (N := 2) rfl ?_); (try (refine gate_guard (by rfl) ?_; dsimp only)); refine box_event ?hg (N := 2) ?hd (cs := #[.slice A0_0 l0_0.length c0_0, .slice A0_1 l0_1.length c0_1]) (t := 25) ?hr ?_; (case hd => rfl); (case hg => rfl); (case hr => first | (go_simp; done) | (go_simp; rfl)); intro gb233 hg w24 hbox hb; have n0_ := Aside0.mk (below_step (qB HB.out) hb); have n1_ := Aside0.mk (hbox); have n2_ := Aside0.mk ((by rw [hg]; exact (below_size (qB HB.out)) : w.heap.size ≤ gb233)); have n3_ := Aside0.mk ((by rw [hg]; exact (below_size (qB HB.out)) : w.heap.size ≤ gb233)); clear HB; have HB := n0_; have BK233 := n1_; have GW233 := n2_; have GE233 := n3_; clear n0_ n1_ n2_ n3_; clear hb hbox hg))
  have hs0 := (blk_cell BK233.out 0).trans rfl;have hs1 := (blk_cell BK233.out 1).trans rfl;go_quiet (fail)
  go_wp2
  go_ret
  exact ⟨_, rfl, Kd.R_nil _ _ _ _ _, by repeat (first | (with_reducible first | exact HB.out | apply below_alloc | apply pw_below_drewN | apply below_drew1) | exact HB.out)⟩
 rw [if_neg c9] at H
 have c9b0 : decide ((l0_1.length : Int) ≤ a1) = false := decide_eq_false c9;have p234 : 0 ≤ (a1 : Int) := by omega
 have q234 : a1 < (l0_1.length : Int) := by omega
 rw [if_pos p234, if_pos q234] at H
 have P234 := Aside0.mk p234;have Q234 := Aside0.mk q234;by_cases c14 : (rd l0_1 a1) < 0
 ·rw [if_pos c14] at H
  have c14b0 : decide ((rd l0_1 a1) < 0) = true := decide_eq_true c14;clear c3 c6 c9 c14 p234 q234;obtain rfl := Option.some.inj H;go_enter Try.func31, Try.ntmps31
  try go_wp2_with (first | ((with_reducible refine gate_dst (N := 2) rfl ?_); (try (refine gate_guard (by rfl) ?_; dsimp only)); refine box_event ?hg (N := 2) ?hd (cs := #[.slice A0_0 l0_0.length c0_0, .slice A0_1 l0_1.length c0_1]) (t := 25) ?hr ?_; (case hd => rfl); (case hg => rfl); (case hr => first | (go_simp; done) | (go_simp; rfl)); intro gb233 hg w24 hbox hb; have n0_ := Aside0.mk (below_step (qB HB.out) hb); have n1_ := Aside0.mk (hbox); have n2_ := Aside0.mk ((by rw [hg]; exact (below_size (qB HB.out)) : w.heap.size ≤ gb233)); have n3_ := Aside0.mk ((by rw [hg]; exact (below_size (qB HB.out)) : w.heap.size ≤ gb233)); clear HB; have HB := n0_; have BK233 := n1_; have GW233 := n2_; have GE233 := n3_; clear n0_ n1_ n2_ n3_; clear hb hbox hg))
  have hs0 := (blk_cell BK233.out 0).trans rfl;have hs1 := (blk_cell BK233.out 1).trans rfl;obtain ⟨ad234, e234, hx234⟩ := Kd.at_int HR0_1.out a1 P234.out Q234.out;cases e234
  replace hx234 := (HB.out.cell (World.block_lt_of_cell? w _ hx234)).trans hx234;have p234 := eq_true P234.out;have q234 := eq_true Q234.out;go_quiet (fail)
  go_wp2
  go_ret
  exact ⟨_, rfl, Kd.R_nil _ _ _ _ _, by repeat (first | (with_reducible first | exact HB.out | apply below_alloc | apply pw_below_drewN | apply below_drew1) | exact HB.out)⟩
 rw [if_neg c14] at H
 have c14b0 : decide ((rd l0_1 a1) < 0) = false := decide_eq_false c14;by_cases c17 : (rd l0_1 a1) ≥ (l0_0.length : Int)
 ·rw [if_pos c17] at H
  have c17b0 : decide ((l0_0.length : Int) ≤ (rd l0_1 a1)) = true := decide_eq_true c17;clear c3 c6 c9 c14 c17 p234 q234;obtain rfl := Option.some.inj H;go_enter Try.func31, Try.ntmps31
  try go_wp2_with (first | ((with_reducible refine gate_dst (N := 2) rfl ?_); (try (refine gate_guard (by rfl) ?_; dsimp only)); refine box_event ?hg (N := 2) ?hd (cs := #[.slice A0_0 l0_0.length c0_0, .slice A0_1 l0_1.length c0_1]) (t := 25) ?hr ?_; (case hd => rfl); (case hg => rfl); (case hr => first | (go_simp; done) | (go_simp; rfl)); intro gb233 hg w24 hbox hb; have n0_ := Aside0.mk (below_step (qB HB.out) hb); have n1_ := Aside0.mk (hbox); have n2_ := Aside0.mk ((by rw [hg]; exact (below_size (qB HB.out)) : w.heap.size ≤ gb233)); have n3_ := Aside0.mk ((by rw [hg]; exact (below_size (qB HB.out)) : w.heap.size ≤ gb233)); clear HB; have HB := n0_; have BK233 := n1_; have GW233 := n2_; have GE233 := n3_; clear n0_ n1_ n2_ n3_; clear hb hbox hg))
  have hs0 := (blk_cell BK233.out 0).trans rfl;have hs1 := (blk_cell BK233.out 1).trans rfl;obtain ⟨ad234, e234, hx234⟩ := Kd.at_int HR0_1.out a1 P234.out Q234.out;cases e234
  replace hx234 := (HB.out.cell (World.block_lt_of_cell? w _ hx234)).trans hx234;have p234 := eq_true P234.out;have q234 := eq_true Q234.out;go_quiet (fail)
  go_wp2
  go_ret
  exact ⟨_, rfl, Kd.R_nil _ _ _ _ _, by repeat (first | (with_reducible first | exact HB.out | apply below_alloc | apply pw_below_drewN | apply below_drew1) | exact HB.out)⟩
 rw [if_neg c17] at H
 have c17b0 : decide ((l0_0.length : Int) ≤ (rd l0_1 a1)) = false := decide_eq_false c17;have q236 : a1 < (l0_0.length : Int) := by omega
 have p238 : 0 ≤ (rd l0_1 a1) := by omega
 have q238 : (rd l0_1 a1) < (l0_0.length : Int) := by omega
 rw [if_pos q236, if_pos p238, if_pos q238] at H
 replace H := Option.bind_eq_some_iff.mp H;obtain ⟨t239, A230, H⟩ := H;replace H : (some t239) = some r := H;have A23 := Aside0.mk A230;clear A230;obtain rfl := Option.some.inj H;have Q236 := Aside0.mk q236;have P238 := Aside0.mk p238;have Q238 := Aside0.mk q238;clear c3 c6 c9 c14 c17 p234 q234 q236 p238 q238;go_enter Try.func31, Try.ntmps31
 try go_wp2_with (first | ((with_reducible refine gate_dst (N := 2) rfl ?_); (try (refine gate_guard (by rfl) ?_; dsimp only)); refine box_event ?hg (N := 2) ?hd (cs := #[.slice A0_0 l0_0.length c0_0, .slice A0_1 l0_1.length c0_1]) (t := 25) ?hr ?_; (case hd => rfl); (case hg => rfl); (case hr => first | (go_simp; done) | (go_simp; rfl)); intro gb233 hg w24 hbox hb; have n0_ := Aside0.mk (below_step (qB HB.out) hb); have n1_ := Aside0.mk (hbox); have n2_ := Aside0.mk ((by rw [hg]; exact (below_size (qB HB.out)) : w.heap.size ≤ gb233)); have n3_ := Aside0.mk ((by rw [hg]; exact (below_size (qB HB.out)) : w.heap.size ≤ gb233)); clear HB; have HB := n0_; have BK233 := n1_; have GW233 := n2_; have GE233 := n3_; clear n0_ n1_ n2_ n3_; clear hb hbox hg))
 have hs0 := (blk_cell BK233.out 0).trans rfl;have hs1 := (blk_cell BK233.out 1).trans rfl;obtain ⟨ad234, e234, hx234⟩ := Kd.at_int HR0_1.out a1 P234.out Q234.out;cases e234
 have hw237_0 := hx234;have hx237_0 := (HB.out.cell (World.block_lt_of_cell? w _ hx234)).trans hx234;clear hx234;obtain ⟨ad236, A236_0, c236_0, e236, hx236_0, hl236_0, hi236_0⟩ := at_L1 HR0_0.out a1 P234.out Q236.out;have hw236_0 := hx236_0;cases e236
 have HR236_0 := Aside0.mk hi236_0;have HC236_0 := Aside0.mk hl236_0;clear hi236_0 hl236_0;obtain ⟨ad238, A238_0, c238_0, e238, hx238_0, hl238_0, hi238_0⟩ := at_L1 HR0_0.out (rd l0_1 a1) P238.out Q238.out;have hw238_0 := hx238_0;obtain rfl : ad236 = ad238 := (by injection e238);have HR238_0 := Aside0.mk hi238_0;have HC238_0 := Aside0.mk hl238_0;clear hi238_0 hl238_0;replace hx236_0 := (HB.out.cell (World.block_lt_of_cell? w _ hx236_0)).trans hx236_0;replace hx238_0 := (HB.out.cell (World.block_lt_of_cell? w _ hx238_0)).trans hx238_0;have p234 := eq_true P234.out;have q234 := eq_true Q234.out;have q236 := eq_true Q236.out;have p238 := eq_true P238.out;have q238 := eq_true Q238.out;go_quiet (fail)
 go_wp2
 have n0_ := Aside0.mk (blk_drew (blk_drewN BK233.out nq));have n1_ := Aside0.mk (below_drew1 (pw_below_drewN HB.out nq));clear BK233 HB hs0 hs1;have BK233 := n0_;have HB := n1_;clear n0_ n1_;replace hx236_0 := (HB.out.cell (World.block_lt_of_cell? w _ hw236_0)).trans hw236_0;replace hx237_0 := (HB.out.cell (World.block_lt_of_cell? w _ hw237_0)).trans hw237_0;replace hx238_0 := (HB.out.cell (World.block_lt_of_cell? w _ hw238_0)).trans hw238_0;refine start_ (n := 16) (S := fun w' => w'.cell? ⟨gb233, 0, none⟩ = some (.slice (some ad236) l0_0.length c0_0) ∧ w'.cell? ⟨gb233, 1, none⟩ = some (.slice (some ad234) l0_1.length c0_1) ∧ w'.cell? (ad236.add (a1).toNat) = some (.slice A236_0 (rd_L1 l0_0 a1).length c236_0) ∧ w'.cell? (ad234.add (a1).toNat) = some (.int .i64 (rd l0_1 a1)) ∧ w'.cell? (ad236.add ((rd l0_1 a1)).toNat) = some (.slice A238_0 (rd_L1 l0_0 (rd l0_1 a1)).length c238_0)) (ds := []) (bs 16 0) (by kernel_rfl) rfl rfl ⟨(blk_cell BK233.out 0).trans rfl, (blk_cell BK233.out 1).trans rfl, ((HB.out.cell (World.block_lt_of_cell? w _ hw236_0)).trans hw236_0), ((HB.out.cell (World.block_lt_of_cell? w _ hw237_0)).trans hw237_0), ((HB.out.cell (World.block_lt_of_cell? w _ hw238_0)).trans hw238_0)⟩ (fun hHeld => ?_); refine with_tabW place_Separator.tab3 place_Separator.bits3 (fun HT_ HW_ => ?_)
 generalize (w24.drewN nq).drew = w26 at BK233 HB HR236_0 HR238_0 hx236_0 hx237_0 hx238_0 hHeld ⊢
 refine qP 0 (some 40) (bs 16 1) HT_.out ?_;refine qP 2 (some 42) (bs 16 5) HT_.out ?_;refine qP 5 (some 45) (bs 16 37) HT_.out ?_;refine qP 7 (some 47) (bs 16 165) HT_.out ?_;refine qP 9 (some 49) (bs 16 677) HT_.out ?_;refine take_ (i := 1) (N := some 41) (v := ?_) (a' := ?_) (bs 16 679) rfl rfl (take_ofW HT_.out HW_.out (by kernel_rfl)) (fun _ _ _ h => h) (Or.inl ⟨by rfl, ?_⟩) hHeld ?_ ?_;rotate_left
 ·rintro w' ⟨s0, s1, s2, s3, s4⟩
  go_simp
  with_reducible rfl
 rotate_left; (simp only [Act.put, List.setIfInBounds_toArray, List.set_cons_zero, List.set_cons_succ, i64_w, i32_w]; rfl)
 refine qP 3 (some 43) (bs 16 687) HT_.out ?_;refine take_ (i := 4) (N := some 44) (v := ?_) (a' := ?_) (bs 16 703) rfl rfl (take_ofW HT_.out HW_.out (by kernel_rfl)) (fun _ _ _ h => h) (Or.inl ⟨by rfl, ?_⟩) hHeld ?_ ?_;rotate_left
 ·rintro w' ⟨s0, s1, s2, s3, s4⟩
  go_simp
  with_reducible rfl
 rotate_left; (simp only [Act.put, List.setIfInBounds_toArray, List.set_cons_zero, List.set_cons_succ, i64_w, i32_w]; rfl)
 refine take_ (i := 6) (N := some 46) (v := ?_) (a' := ?_) (bs 16 767) rfl rfl (take_ofW HT_.out HW_.out (by kernel_rfl)) (fun _ _ _ h => h) (Or.inl ⟨by rfl, ?_⟩) hHeld ?_ ?_;rotate_left
 ·rintro w' ⟨s0, s1, s2, s3, s4⟩
  go_simp
  with_reducible rfl
 rotate_left; (simp only [Act.put, List.setIfInBounds_toArray, List.set_cons_zero, List.set_cons_succ, i64_w, i32_w]; rfl)
 refine take_ (i := 8) (N := some 48) (v := ?_) (a' := ?_) (bs 16 1023) rfl rfl (take_ofW HT_.out HW_.out (by kernel_rfl)) (fun _ _ _ h => h) (Or.inl ⟨by rfl, ?_⟩) hHeld ?_ ?_;rotate_left
 ·rintro w' ⟨s0, s1, s2, s3, s4⟩
  go_simp
  with_reducible rfl
 rotate_left; (simp only [Act.put, List.setIfInBounds_toArray, List.set_cons_zero, List.set_cons_succ, i64_w, i32_w]; rfl)
 refine qP 10 (some 50) (bs 16 2047) HT_.out ?_;refine take_ (i := 11) (N := some 51) (v := ?_) (a' := ?_) (bs 16 4095) rfl rfl (take_ofW HT_.out HW_.out (by kernel_rfl)) (fun _ _ _ h => h) (Or.inl ⟨by rfl, ?_⟩) hHeld ?_ ?_;rotate_left
 ·rintro w' ⟨s0, s1, s2, s3, s4⟩
  go_simp
  with_reducible rfl
 rotate_left; (simp only [Act.put, List.setIfInBounds_toArray, List.set_cons_zero, List.set_cons_succ, i64_w, i32_w]; rfl)
 refine qP 12 (some 52) (bs 16 8191) HT_.out ?_;refine take_ (i := 13) (N := some 53) (v := ?_) (a' := ?_) (bs 16 16383) rfl rfl (take_ofW HT_.out HW_.out (by kernel_rfl)) (fun _ _ _ h => h) (Or.inl ⟨by rfl, ?_⟩) hHeld ?_ ?_;rotate_left
 ·rintro w' ⟨s0, s1, s2, s3, s4⟩
  go_simp
  with_reducible rfl
 rotate_left; (simp only [Act.put, List.setIfInBounds_toArray, List.set_cons_zero, List.set_cons_succ, i64_w, i32_w]; rfl)
 refine one_ (i := 14) (N := some 54) (bs 16 32767) rfl rfl (one_of HT_.out (by kernel_rfl)) (by decide) (fun K hK => ?_);refine goes_ Try.func55 (by kernel_rfl) rfl #[.slice A236_0 (rd_L1 l0_0 a1).length c236_0, .slice A238_0 (rd_L1 l0_0 (rd l0_1 a1)).length c238_0] (by rfl) rfl rfl qM ?_;with_reducible refine (tuple_Meet.calls _ _ (rd_L1 l0_0 a1) _ _ (rd_L1 l0_0 (rd l0_1 a1)) t239 _ ?side1 ?side2 ?side3 ?side4 A23.out).mono ?_
 (case side1 => exact qC (Kd.C_below HR236_0.out HB.out));(case side2 => exact HC236_0.out);(case side3 => exact qC (Kd.C_below HR238_0.out HB.out));(case side4 => exact HC238_0.out);rintro e w27 ⟨v240, rfl, ho0, hb⟩
 refine ⟨_, rfl, ?_⟩;have HO241 := Aside0.mk (Kd.R_lower ho0 (below_size (qB1 GE233.out HB.out)));replace BK233 := Aside0.mk (blk_below (g := gb233) (o := .cells #[.slice (some ad236) l0_0.length c0_0, .slice (some ad234) l0_1.length c0_1] 25 (0, 0)) (qK BK233.out) hb);replace HB := Aside0.mk (below_step (qB1 GE233.out HB.out) hb);(try clear hb);(try clear hb2);(try clear hk);(try clear hi);(try clear ho0);refine hK.out _ _ ⟨(blk_cell BK233.out 0).trans rfl, (blk_cell BK233.out 1).trans rfl, ((HB.out.cell (World.block_lt_of_cell? w _ hw236_0)).trans hw236_0), ((HB.out.cell (World.block_lt_of_cell? w _ hw237_0)).trans hw237_0), ((HB.out.cell (World.block_lt_of_cell? w _ hw238_0)).trans hw238_0)⟩ (fun hHeld => ?_);clear hK K;refine norm_ (a' := ?_) ?_ ?_;rotate_left
 ·show Act.put _ (some 54) _ = _
  simp only [Act.put, List.setIfInBounds_toArray, List.set_cons_zero, List.set_cons_succ, i64_w, i32_w]
  rfl
 refine qP 15 (some 4) (bs 16 65535) HT_.out ?_;refine done_ (done_of HT_.out (by kernel_rfl)) ?_;try go_wp2
 go_ret
 exact ⟨_, by first | rfl | (simp [errW_none, errW_some] <;> rfl) | (simp [*, errW_none, errW_some] <;> rfl), by (with_reducible repeat (first | apply Kd.R_alloc | apply Kd.R_drewN | apply Kd.R_drew)); exact HO241.out, by repeat (first | (with_reducible first | exact HB.out | apply below_alloc | apply pw_below_drewN | apply below_drew1 | refine below_set ?_ GE233.out) | exact HB.out)⟩
end Go.Proofs.Ytpmfdggbccbfaaa.Pr
namespace Go.Proofs.Ytpmfdggbccbfaaa.Pr
open Go.RowKit Go.Proofs.YtpmfdggbccbfaaaW.PrintWords Go.Proofs.YtpmfdggbccbfaaaW.PrintLast Go.Proofs.YtpmfdggbccbfaaaW.PrintMore
attribute [local go_sem] max2_int min2_int max_two min_two max_three min_three max_four min_four
set_option linter.unusedVariables false
set_option linter.unusedSimpArgs false
/-! ### place_Children: function 33 -/
def place_Children.l0 : Nat → Int → List Int → List Int → Int → Int → Option (List Int)
 | 0, _, _, _, _, _ => none
 | k + 1, x1, x4, x8, x9, x10 => if x10 < x9 then (if 0 ≤ x10 then (if x10 < (x8.length : Int) then (if (rd x8 x10) = x1 then (if x1 ≥ 0 then (if x4.length < 17592186044416 then (place_Children.l0 k x1 (x4 ++ [x10]) x8 x9 (wrap64 (x10 + 1))) else (none)) else (place_Children.l0 k x1 x4 x8 x9 (wrap64 (x10 + 1)))) else (place_Children.l0 k x1 x4 x8 x9 (wrap64 (x10 + 1)))) else (none)) else (none)) else (some x4)
def place_Children.f (k : Nat) (l0_0 : List (List Int)) (l0_1 : List Int) (a1 : Int) : Option (List Int) := place_Children.l0 k a1 ([] : List Int) l0_1 (l0_1.length : Int) 0
theorem place_Children.mono_l : ∀ k, (∀ y0 y1 y2 y3 y4, LeO (place_Children.l0 k y0 y1 y2 y3 y4) (place_Children.l0 (k + 1) y0 y1 y2 y3 y4))
 | 0 => fun _ _ _ _ _ r h => by simp [place_Children.l0] at h
 | k + 1 => by
  have ih0 := place_Children.mono_l k;all_goals intros
  all_goals (first | unfold place_Children.l0)
  all_goals repeat' first
  | (with_reducible first | exact ih0 _ _ _ _ _ | exact LeO.refl _ | exact LeO.none _ | refine LeO.ite ?_ ?_ | refine LeO.bind ?_ (fun _ => ?_))
  | exact ih0 _ _ _ _ _
  | exact LeO.none _
  | refine LeO.ite ?_ ?_
  | refine LeO.bind ?_ (fun _ => ?_)
theorem place_Children.mono : ∀ a0 a1 a2 k, LeO (place_Children.f k a0 a1 a2) (place_Children.f (k + 1) a0 a1 a2) := by
 intro a0 a1 a2 k
 have ih0 := place_Children.mono_l k;unfold place_Children.f
 repeat' first
   | (with_reducible first | exact ih0 _ _ _ _ _ | exact LeO.refl _ | exact LeO.none _ | refine LeO.ite ?_ ?_ | refine LeO.bind ?_ (fun _ => ?_))
   | exact ih0 _ _ _ _ _
   | exact LeO.none _
   | refine LeO.ite ?_ ?_
   | refine LeO.bind ?_ (fun _ => ?_)
set_option maxHeartbeats 8000000 in
set_option maxRecDepth 100000 in
theorem place_Children.calls (k : Nat) (A0_0 : Option Addr) (c0_0 : Nat) (l0_0 : List (List Int)) (A0_1 : Option Addr) (c0_1 : Nat) (l0_1 : List Int) (a1 : Int) (r : List Int) (w : World) (hr0_0 : Kd.C (Kd.slice 3 (Kd.int .i64)) w A0_0 l0_0.length l0_0) (hc0_0 : l0_0.length ≤ c0_0) (hr0_1 : Kd.C (Kd.int .i64) w A0_1 l0_1.length l0_1) (hc0_1 : l0_1.length ≤ c0_1) (h : place_Children.f k l0_0 l0_1 a1 = some r) :
  Calls Try.prog 33 #[.agg #[.slice A0_0 l0_0.length c0_0, .slice A0_1 l0_1.length c0_1], .int .i64 a1] w fun e w' => ∃ v0_ : Value, e = .returned (v0_) ∧ Kd.R (Kd.int .i64) 3 w' w.heap.size (fun _ => True) v0_ r ∧ Below w.heap.size w w' := by
 have hu25 := Try.underlying25;have HR0_0 := Aside0.mk hr0_0;have HC0_0 := Aside0.mk hc0_0;clear hr0_0 hc0_0;have HR0_1 := Aside0.mk hr0_1;have HC0_1 := Aside0.mk hc0_1;clear hr0_1 hc0_1;have HB := Aside0.mk (Below.refl w.heap.size w);have H : (place_Children.l0 k a1 ([] : List Int) l0_1 (l0_1.length : Int) 0) = some r := h;clear h;have H' := Aside0.mk H;clear H;go_enter Try.func33, Try.ntmps33
 go_wp2_with (first | ((with_reducible refine gate_dst (N := 2) rfl ?_); refine box_event ?hg (N := 2) ?hd (cs := #[.slice A0_0 l0_0.length c0_0, .slice A0_1 l0_1.length c0_1]) (t := 25) ?hr ?_; (case hd => rfl); (case hg => rfl); (case hr => first | (go_simp; done) | (go_simp; rfl)); intro gb403 hg w3 hbox hb; have n0_ := Aside0.mk (below_step (qB HB.out) hb); have n1_ := Aside0.mk (hbox); have n2_ := Aside0.mk ((by rw [hg]; exact (below_size (qB HB.out)) : w.heap.size ≤ gb403)); have n3_ := Aside0.mk ((by rw [hg]; exact (below_size (qB HB.out)) : w.heap.size ≤ gb403)); clear HB; have HB := n0_; have BK403 := n1_; have GW403 := n2_; have GE403 := n3_; clear n0_ n1_ n2_ n3_; clear hb hbox hg; have hcz4_0 : w3.cell? ⟨gb403, 0, none⟩ = some (.slice A0_0 l0_0.length c0_0) := (blk_cell BK403.out 0).trans rfl; have hcz4_1 : w3.cell? ⟨gb403, 1, none⟩ = some (.slice A0_1 l0_1.length c0_1) := (blk_cell BK403.out 1).trans rfl; have hfz4_0 := blk_frozen BK403.out 0; have hfz4_1 := blk_frozen BK403.out 1))
 go_loopg [4, 10] k (fun kq v4 v10 w' => ∃ (x4_1 : List Int) (x10_1 : Int), v10 = .int .i64 x10_1 ∧ Aside0 (place_Children.l0 kq a1 x4_1 l0_1 (l0_1.length : Int) x10_1 = some r) ∧ Aside0 (kq ≤ k) ∧ Aside0 (Kd.R (Kd.int .i64) 3 w' w.heap.size (fun _ => True) v4 x4_1) ∧ Aside0 (w'.heap[gb403]? = some (.cells #[(.slice A0_0 l0_0.length c0_0), (.slice A0_1 l0_1.length c0_1)] 25 (0, 0))) ∧ Aside0 (Below w.heap.size w w'))
 case atStart => exact ⟨(([] : List Int)), (0), (by first | rfl | (simp; done) | (simp [*]; done)), H', ⟨Nat.le_refl _⟩, ⟨by first | exact Kd.R_nil _ _ _ _ _ | exact Kd.N_nil _ _ _ _ _ | exact Kd.V_nil _ _ _ _ _ | exact Kd.Q_nil _ _ _ _ _ | exact Kd.S_nil _ _ _ _ _⟩, ⟨qK BK403.out⟩, ⟨qB1 GE403.out HB.out⟩⟩
 case round =>
  clear H';try clear p2
  try clear c3
  try clear hcz4_0
  try clear hcz4_1
  try clear hfz4_0
  try clear hfz4_1
  obtain ⟨x4_1, x10_1, rfl, HA, HK1, HO_4, BK403, HB⟩ := hrel;cases gk with
  | zero => exact absurd HA.out (by simp [place_Children.l0])
  | succ k1 =>
   have H := HA.out;clear HA;simp only [place_Children.l0] at H
   by_cases c5 : x10_1 < (l0_1.length : Int)
   ·rw [if_pos c5] at H
    have c5b0 : decide (x10_1 < (l0_1.length : Int)) = true := decide_eq_true c5;clear c5;by_cases c6 : 0 ≤ x10_1
    ·rw [if_pos c6] at H
     have c6b0 : decide (0 ≤ x10_1) = true := decide_eq_true c6;clear c6;by_cases c7 : x10_1 < (l0_1.length : Int)
     ·rw [if_pos c7] at H
      have c7b0 : decide (x10_1 < (l0_1.length : Int)) = true := decide_eq_true c7;clear c7;by_cases c8 : (rd l0_1 x10_1) = a1
      ·rw [if_pos c8] at H
       have c8b0 : ((rd l0_1 x10_1) == a1) = true := beq_iff_eq.mpr c8;have c8b1 : ((rd l0_1 x10_1) != a1) = false := bne_eq_false_iff_eq.mpr c8;clear c8;by_cases c9 : a1 ≥ 0
       ·rw [if_pos c9] at H
        have c9b0 : decide (0 ≤ a1) = true := decide_eq_true c9;clear c9;by_cases c10 : x4_1.length < 17592186044416
        ·rw [if_pos c10] at H
         have LMc10 := Aside0.mk c10;clear c10;obtain ⟨y405, hy405⟩ : ∃ y_ : List Int, y_ = (x4_1 ++ [x10_1]) := ⟨_, rfl⟩;replace H : (place_Children.l0 k1 a1 y405 l0_1 (l0_1.length : Int) (wrap64 (x10_1 + 1))) = some r := by first | (rw [hy405]; with_reducible exact H) | (have H2_ := (Option.bind_some _ _).symm.trans H; rw [hy405]; with_reducible exact H2_) | (have H2_ := (Option.bind_some _ _).symm.trans H; with_reducible exact H2_) | with_reducible exact H | (rw [hy405]; exact H) | exact H
         have Ny405 := Aside0.mk hy405;clear hy405;have H' := Aside0.mk H;clear H;have p404 : 0 ≤ (x10_1 : Int) := of_decide_eq_true qA;have q404 : x10_1 < (l0_1.length : Int) := of_decide_eq_true qA;obtain ⟨ad404, e404, hx404_0⟩ := Kd.at_int HR0_1.out x10_1 p404 q404;cases e404
         replace hx404_0 := (HB.out.cell (World.block_lt_of_cell? w _ hx404_0)).trans hx404_0;replace p404 := eq_true p404;replace q404 := eq_true q404;go_wp2_with (first | ((with_reducible refine gate_builtin (b := .append) (xs := #[.tmp 22, .tmp 24]) rfl ?_); at_builtin; refine Kd.R_append (Kd.int .i64) (w0 := w) w.heap.size rfl (.tmp 22) (.tmp 24) 23 3 (.int .i64 0) 8 rfl Try.underlying23 info3 rfl (by decide) (by omega) u4 x4_1 x10_1 [.int .i64 x10_1] (fun _ => True) (fun _ => False) rfl rfl ?aP (fun _ hk => hk.elim) ?aF ?aO ?aB ?aS ?aL ?_; (case aP => exact rfl); (case aB => exact (by repeat (first | (with_reducible first | exact HB.out | apply below_alloc | apply pw_below_drewN | apply below_drew1 | refine below_set ?_ GE403.out) | exact HB.out))); (case aF => exact (fun _ _ => trivial)); (case aO => exact (qR HO_4.out)); (case aS => exact (below_size (by repeat (first | (with_reducible first | exact HB.out | apply below_alloc | apply pw_below_drewN | apply below_drew1 | refine below_set ?_ GE403.out) | exact HB.out)))); (case aL => have := LMc10.out; omega); intro v406 w11 ho hb hg hat; rw [← Ny405.out] at ho; have n0_ := Aside0.mk (blk_grown (g := gb403) (o := .cells #[.slice A0_0 l0_0.length c0_0, .slice (some ad404) l0_1.length c0_1] 25 (0, 0)) (qK BK403.out) hg (Kd.R_ne HO_4.out BK403.out (by decide))); have n1_ := Aside0.mk (hb); have n2_ := Aside0.mk (ho); clear BK403; clear HB; clear HO_4; have BK403 := n0_; have HB := n1_; have HO407 := n2_; clear n0_ n1_ n2_; clear ho hb hg hat))
         go_roundg k1
         case measure => have := HK1.out; omega
         case rel => exact ⟨(y405), (wrap64 (x10_1 + 1)), (by first | rfl | (simp; done) | (simp [*]; done)), H', ⟨by have := HK1.out; omega⟩, ⟨qR HO407.out⟩, ⟨qK BK403.out⟩, ⟨qB1 GE403.out HB.out⟩⟩
        ·rw [if_neg c10] at H
         exact absurd H (by simp)
       ·rw [if_neg c9] at H
        have c9b0 : decide (0 ≤ a1) = false := decide_eq_false c9;clear c9;have H' := Aside0.mk H;clear H;have p404 : 0 ≤ (x10_1 : Int) := of_decide_eq_true qA;have q404 : x10_1 < (l0_1.length : Int) := of_decide_eq_true qA;obtain ⟨ad404, e404, hx404_0⟩ := Kd.at_int HR0_1.out x10_1 p404 q404;cases e404
        replace hx404_0 := (HB.out.cell (World.block_lt_of_cell? w _ hx404_0)).trans hx404_0;replace p404 := eq_true p404;replace q404 := eq_true q404;go_wp2
        go_roundg k1
        case measure => have := HK1.out; omega
        case rel => exact ⟨(x4_1), (wrap64 (x10_1 + 1)), (by first | rfl | (simp; done) | (simp [*]; done)), H', ⟨by have := HK1.out; omega⟩, ⟨qR HO_4.out⟩, ⟨qK BK403.out⟩, ⟨qB1 GE403.out HB.out⟩⟩
      ·rw [if_neg c8] at H
       have c8b0 : ((rd l0_1 x10_1) == a1) = false := beq_eq_false_iff_ne.mpr c8;have c8b1 : ((rd l0_1 x10_1) != a1) = true := bne_iff_ne.mpr c8;have H' := Aside0.mk H;clear H;have p404 : 0 ≤ (x10_1 : Int) := of_decide_eq_true qA;have q404 : x10_1 < (l0_1.length : Int) := of_decide_eq_true qA;obtain ⟨ad404, e404, hx404_0⟩ := Kd.at_int HR0_1.out x10_1 p404 q404;cases e404
       replace hx404_0 := (HB.out.cell (World.block_lt_of_cell? w _ hx404_0)).trans hx404_0;replace p404 := eq_true p404;replace q404 := eq_true q404;go_wp2
       go_roundg k1
       case measure => have := HK1.out; omega
       case rel => exact ⟨(x4_1), (wrap64 (x10_1 + 1)), (by first | rfl | (simp; done) | (simp [*]; done)), H', ⟨by have := HK1.out; omega⟩, ⟨qR HO_4.out⟩, ⟨qK BK403.out⟩, ⟨qB1 GE403.out HB.out⟩⟩
     ·rw [if_neg c7] at H
      exact absurd H (by simp)
    ·rw [if_neg c6] at H
     exact absurd H (by simp)
   ·rw [if_neg c5] at H
    have c5b0 : decide (x10_1 < (l0_1.length : Int)) = false := decide_eq_false c5;clear c5;obtain rfl := Option.some.inj H;go_wp2
    go_ret
    exact ⟨_, by first | rfl | (simp [errW_none, errW_some] <;> rfl) | (simp [*, errW_none, errW_some] <;> rfl), by (with_reducible repeat (first | apply Kd.R_alloc | apply Kd.R_drewN | apply Kd.R_drew)); exact HO_4.out, by repeat (first | (with_reducible first | exact HB.out | apply below_alloc | apply pw_below_drewN | apply below_drew1 | refine below_set ?_ GE403.out) | exact HB.out)⟩
end Go.Proofs.Ytpmfdggbccbfaaa.Pr
namespace Go.Proofs.Ytpmfdggbccbfaaa.Pr
open Go.RowKit Go.Proofs.YtpmfdggbccbfaaaW.PrintWords Go.Proofs.YtpmfdggbccbfaaaW.PrintLast Go.Proofs.YtpmfdggbccbfaaaW.PrintMore
attribute [local go_sem] max2_int min2_int max_two min_two max_three min_three max_four min_four
set_option linter.unusedVariables false
set_option linter.unusedSimpArgs false
/-! ### slices_Reverse_int_int: function 58 -/
def slices_Reverse_int_int.l0 : Nat → List Int → Int → Int → Option (List Int)
 | 0, _, _, _ => none
 | k + 1, x0, x2, x3 => if x2 < x3 then (if 0 ≤ x3 then (if x3 < (x0.length : Int) then (if 0 ≤ x2 then (if x2 < (x0.length : Int) then (slices_Reverse_int_int.l0 k ((x0.set (x2 : Int).toNat (rd x0 x3)).set (x3 : Int).toNat (rd x0 x2)) (wrap64 (x2 + 1)) (wrap64 (x3 - 1))) else (none)) else (none)) else (none)) else (none)) else (some x0)
def slices_Reverse_int_int.f (k : Nat) (l0 : List Int) : Option (List Int) := slices_Reverse_int_int.l0 k l0 0 (wrap64 ((l0.length : Int) - 1))
theorem slices_Reverse_int_int.mono_l : ∀ k, (∀ y0 y1 y2, LeO (slices_Reverse_int_int.l0 k y0 y1 y2) (slices_Reverse_int_int.l0 (k + 1) y0 y1 y2))
 | 0 => fun _ _ _ r h => by simp [slices_Reverse_int_int.l0] at h
 | k + 1 => by
  have ih0 := slices_Reverse_int_int.mono_l k;all_goals intros
  all_goals (first | unfold slices_Reverse_int_int.l0)
  all_goals repeat' first
  | (with_reducible first | exact ih0 _ _ _ | exact LeO.refl _ | exact LeO.none _ | refine LeO.ite ?_ ?_ | refine LeO.bind ?_ (fun _ => ?_))
  | exact ih0 _ _ _
  | exact LeO.none _
  | refine LeO.ite ?_ ?_
  | refine LeO.bind ?_ (fun _ => ?_)
theorem slices_Reverse_int_int.mono : ∀ a0 k, LeO (slices_Reverse_int_int.f k a0) (slices_Reverse_int_int.f (k + 1) a0) := by
 intro a0 k
 have ih0 := slices_Reverse_int_int.mono_l k;unfold slices_Reverse_int_int.f
 repeat' first
   | (with_reducible first | exact ih0 _ _ _ | exact LeO.refl _ | exact LeO.none _ | refine LeO.ite ?_ ?_ | refine LeO.bind ?_ (fun _ => ?_))
   | exact ih0 _ _ _
   | exact LeO.none _
   | refine LeO.ite ?_ ?_
   | refine LeO.bind ?_ (fun _ => ?_)
def slices_Reverse_int_int.T3 : Bool × List (List Nat × List Nat) := (true, [([], []), ([], []), ([], []), ([], []), ([], []), ([], []), ([4, 5], [4, 5]), ([6], [6]), ([], []), ([], []), ([8, 9], [8, 9]), ([10], [10]), ([0, 1, 0, 1, 4, 5, 6, 7, 11], [0, 1]), ([12, 7, 0, 1, 4, 5, 6, 7, 11], [7, 12]), ([2, 3, 0, 1, 2, 3, 4, 5, 6, 7, 8, 9, 10, 11, 12, 13], [2, 3]), ([14, 11, 13, 0, 1, 2, 3, 4, 5, 6, 7, 8, 9, 10, 11, 12, 13], [11, 14])])
def slices_Reverse_int_int.B3 : List Nat := [0, 0, 0, 0, 0, 0, 48, 112, 0, 0, 768, 1792, 4083, 8179, 16383, 32767]
theorem slices_Reverse_int_int.tab3 : rtab .any (opsOf Try.f58 3) = slices_Reverse_int_int.T3 := by kernel_rfl
theorem slices_Reverse_int_int.bits3 : waitsOk slices_Reverse_int_int.T3.2 slices_Reverse_int_int.B3 = true := by kernel_rfl
set_option maxHeartbeats 8000000 in
set_option maxRecDepth 100000 in
theorem slices_Reverse_int_int.calls (k : Nat) (P0_ : Nat → Prop) (u9000_ : Value) (l0 : List Int) (r : List Int) (w0 w : World) (hB : Below w0.heap.size w0 w) (ho0 : Kd.R (Kd.int .i64) 3 w w0.heap.size P0_ u9000_ l0) (h : slices_Reverse_int_int.f k l0 = some r) :
  Calls Try.prog 58 #[u9000_] w fun e w' => e = .returned (.tuple #[]) ∧ Kd.R (Kd.int .i64) 3 w' w0.heap.size (fun k_ => (P0_ k_ ∨ w.heap.size ≤ k_)) u9000_ r ∧ Below w0.heap.size w0 w' ∧ Kept w w' (fun k_ => P0_ k_) := by
 have HO0 := Aside0.mk (show Kd.R (Kd.int .i64) 3 w w0.heap.size (fun k_ => (P0_ k_ ∨ w.heap.size ≤ k_)) u9000_ l0 from Kd.R_mono ho0 (fun k_ hk => (.inl hk)));have HK := Aside0.mk (Kept.refl w (fun k_ => P0_ k_));have HW0 := Aside0.mk hB.size;have HB := Aside0.mk hB;clear hB;have H : (slices_Reverse_int_int.l0 k l0 0 (wrap64 ((l0.length : Int) - 1))) = some r := h;clear h;have H' := Aside0.mk H;clear H;obtain ⟨Ao2, co2, eo2⟩ := Kd.R_slice HO0.out;subst eo2;go_enter Try.func58, Try.ntmps58
 go_wp2
 go_loopg [2, 3] k (fun kq v2 v3 w' => ∃ (x0_1 : List Int) (x2_1 : Int) (x3_1 : Int), v2 = .int .i64 x2_1 ∧ v3 = .int .i64 x3_1 ∧ Aside0 (slices_Reverse_int_int.l0 kq x0_1 x2_1 x3_1 = some r) ∧ Aside0 (kq ≤ k) ∧ Aside0 (Kd.R (Kd.int .i64) 3 w' w0.heap.size (fun k_ => (P0_ k_ ∨ w.heap.size ≤ k_)) (.slice Ao2 l0.length co2) x0_1) ∧ Aside0 (Kept w w' (fun k_ => P0_ k_)) ∧ Aside0 (Below w0.heap.size w0 w'))
 case atStart => exact ⟨(l0), (0), (wrap64 ((l0.length : Int) - 1)), (by first | rfl | (simp; done) | (simp [*]; done)), (by first | rfl | (simp; done) | (simp [*]; done)), H', ⟨Nat.le_refl _⟩, ⟨qR HO0.out⟩, ⟨by repeat (first | (with_reducible first | exact HK.out | apply Kept.alloc | apply Kept.drewN | apply Kept.drew) | exact HK.out)⟩, ⟨qB HB.out⟩⟩
 case round =>
  clear H';try clear p2
  obtain ⟨x0_1, x2_1, x3_1, rfl, rfl, HA, HK1, HO_0, HK, HB⟩ := hrel;have hl0_1 := (Kd.R_reads' HO_0.out).1;rw [hl0_1] at HO_0
  (try simp only [hl0_1]);cases gk with
  | zero => exact absurd HA.out (by simp [slices_Reverse_int_int.l0])
  | succ k1 =>
   have H := HA.out;clear HA;simp only [slices_Reverse_int_int.l0] at H
   by_cases c3 : x2_1 < x3_1
   ·rw [if_pos c3] at H
    have c3b0 : decide (x2_1 < x3_1) = true := decide_eq_true c3;clear c3;by_cases c4 : 0 ≤ x3_1
    ·rw [if_pos c4] at H
     have c4b0 : decide (0 ≤ x3_1) = true := decide_eq_true c4;clear c4;by_cases c5 : x3_1 < (x0_1.length : Int)
     ·rw [if_pos c5] at H
      have c5b0 : decide (x3_1 < (x0_1.length : Int)) = true := decide_eq_true c5;clear c5;by_cases c6 : 0 ≤ x2_1
      ·rw [if_pos c6] at H
       have c6b0 : decide (0 ≤ x2_1) = true := decide_eq_true c6;clear c6;by_cases c7 : x2_1 < (x0_1.length : Int)
       ·rw [if_pos c7] at H
        have c7b0 : decide (x2_1 < (x0_1.length : Int)) = true := decide_eq_true c7;clear c7;obtain ⟨y410, hy410⟩ : ∃ y_ : List Int, y_ = (x0_1.set (x2_1 : Int).toNat (rd x0_1 x3_1)) := ⟨_, rfl⟩;replace H : (slices_Reverse_int_int.l0 k1 (y410.set (x3_1 : Int).toNat (rd x0_1 x2_1)) (wrap64 (x2_1 + 1)) (wrap64 (x3_1 - 1))) = some r := by first | (rw [hy410]; with_reducible exact H) | (have H2_ := (Option.bind_some _ _).symm.trans H; rw [hy410]; with_reducible exact H2_) | (have H2_ := (Option.bind_some _ _).symm.trans H; with_reducible exact H2_) | with_reducible exact H | (rw [hy410]; exact H) | exact H
        have Ny410 := Aside0.mk hy410;clear hy410;obtain ⟨y411, hy411⟩ : ∃ y_ : List Int, y_ = (y410.set (x3_1 : Int).toNat (rd x0_1 x2_1)) := ⟨_, rfl⟩;replace H : (slices_Reverse_int_int.l0 k1 y411 (wrap64 (x2_1 + 1)) (wrap64 (x3_1 - 1))) = some r := by first | (rw [hy411]; with_reducible exact H) | (have H2_ := (Option.bind_some _ _).symm.trans H; rw [hy411]; with_reducible exact H2_) | (have H2_ := (Option.bind_some _ _).symm.trans H; with_reducible exact H2_) | with_reducible exact H | (rw [hy411]; exact H) | exact H
        have Ny411 := Aside0.mk hy411;clear hy411;have H' := Aside0.mk H;clear H;try go_wp2
        replace HO_0 := Aside0.mk (Kd.R_drew HO_0.out);replace HK := Aside0.mk (Kept.drew HK.out);replace HB := Aside0.mk (below_drew1 HB.out);have p408 : 0 ≤ (x3_1 : Int) := of_decide_eq_true qA;have q408 : x3_1 < (x0_1.length : Int) := of_decide_eq_true qA;obtain ⟨ad408, e408, hx408_0⟩ := Kd.at_int (Kd.R_reads' HO_0.out).2.2 x3_1 p408 q408;cases e408
        replace p408 := eq_true p408;replace q408 := eq_true q408;have p409 : 0 ≤ (x2_1 : Int) := of_decide_eq_true qA;have q409 : x2_1 < (x0_1.length : Int) := of_decide_eq_true qA;obtain ⟨ad409, e409, hx409_0⟩ := Kd.at_int (Kd.R_reads' HO_0.out).2.2 x2_1 p409 q409;obtain rfl : ad408 = ad409 := (by injection e409);replace p409 := eq_true p409;replace q409 := eq_true q409;have p8 : 0 ≤ (x2_1 : Int) := of_decide_eq_true qA;have q8 : (x2_1 : Int) < ((x0_1.length : Int) : Int) := of_decide_eq_true qA;obtain ⟨go8, co8, eo8, gb8, gl8, cl8, HG8⟩ := Kd.R_form HO_0.out (by omega);(first | cases eo8 | (injection eo8 with ea_ en_ ec_; (first | subst ea_ | (injection ea_ with ea_; subst ea_)); subst ec_; clear en_));have GB8 := Aside0.mk gb8;have GG8 := Aside0.mk HG8;clear gb8 gl8 HG8;have HMgo8 := Aside0.mk (show (P0_ go8 ∨ w.heap.size ≤ go8) from (HO_0.out.1 _ rfl));(first | simp only [add_plain] at hx408_0 | skip);(first | simp only [add_plain] at hx409_0 | skip);obtain ⟨hx8_0, hf8_0⟩ := Kd.R_celln 0 HO_0.out (x2_1 : Int) p8 q8;replace p8 := eq_true p8;replace q8 := eq_true q8;have HP11 := Kd.R_putn HO_0.out (x2_1 : Int) (rd x0_1 x3_1);rw [← Ny410.out] at HP11
        have HQ11 := Aside0.mk HP11;clear HP11;have p9 : 0 ≤ (x3_1 : Int) := of_decide_eq_true qA;have q9 : (x3_1 : Int) < ((x0_1.length : Int) : Int) := of_decide_eq_true qA;obtain ⟨hx9_0, hf9_0⟩ := Kd.R_celln 0 HQ11.out (x3_1 : Int) p9 q9;replace p9 := eq_true p9;replace q9 := eq_true q9;have HP12 := Kd.R_putn HQ11.out (x3_1 : Int) (rd x0_1 x2_1);rw [← Ny411.out] at HP12
        have HQ12 := Aside0.mk HP12;clear HP12;refine start_ (n := 16) (S := fun w' => w'.cell? ⟨go8, (x3_1).toNat, none⟩ = some (.int .i64 (rd x0_1 x3_1)) ∧ w'.cell? ⟨go8, (x2_1).toNat, none⟩ = some (.int .i64 (rd x0_1 x2_1))) (ds := [13, 15]) (bs 16 0) (by kernel_rfl) rfl rfl ⟨hx408_0, hx409_0⟩ (fun hHeld => ?_); refine with_tabW slices_Reverse_int_int.tab3 slices_Reverse_int_int.bits3 (fun HT_ HW_ => ?_)
        generalize wr.drew = w10 at HO_0 HK HB GG8 HQ11 HQ12 hf8_0 hf9_0 hx408_0 hx409_0 hx8_0 hx9_0 hHeld ⊢
        refine qP 0 (some 14) (bs 16 1) HT_.out ?_;refine qP 1 (some 15) (bs 16 3) HT_.out ?_;refine qP 2 (some 16) (bs 16 7) HT_.out ?_;refine qP 3 (some 17) (bs 16 15) HT_.out ?_;refine qP 4 (some 18) (bs 16 31) HT_.out ?_;refine qP 5 (some 19) (bs 16 63) HT_.out ?_;refine qP 6 (some 20) (bs 16 127) HT_.out ?_;refine qP 8 (some 22) (bs 16 383) HT_.out ?_;refine qP 9 (some 23) (bs 16 895) HT_.out ?_;refine qP 10 (some 24) (bs 16 1919) HT_.out ?_;refine take_ (i := 7) (N := some 21) (v := ?_) (a' := ?_) (bs 16 2047) rfl rfl (take_ofW HT_.out HW_.out (by kernel_rfl)) (fun _ _ _ h => h) (Or.inl ⟨by rfl, ?_⟩) hHeld ?_ ?_;rotate_left
        ·rintro w' ⟨s0, s1⟩
         go_simp
         with_reducible rfl
        rotate_left; (simp only [Act.put, List.setIfInBounds_toArray, List.set_cons_zero, List.set_cons_succ, i64_w, i32_w]; rfl)
        refine take_ (i := 11) (N := some 25) (v := ?_) (a' := ?_) (bs 16 4095) rfl rfl (take_ofW HT_.out HW_.out (by kernel_rfl)) (fun _ _ _ h => h) (Or.inl ⟨by rfl, ?_⟩) hHeld ?_ ?_;rotate_left
        ·rintro w' ⟨s0, s1⟩
         go_simp
         with_reducible rfl
        rotate_left; (simp only [Act.put, List.setIfInBounds_toArray, List.set_cons_zero, List.set_cons_succ, i64_w, i32_w]; rfl)
        refine qP 12 (some 26) (bs 16 8191) HT_.out ?_;refine last_ (i := 13) (N := none) (bs 16 16383) rfl rfl (one_of HT_.out (by kernel_rfl)) (by decide) (fun K hK => ?_);refine skip_ (w1 := ?_) (by rfl) rfl ?_ ?_;rotate_left
        ·go_simp
         rfl
        refine hK.out _ _ ?_;clear hK K;refine qP 14 (some 27) (bs 16 32767) HT_.out ?_;refine last_ (i := 15) (N := none) (bs 16 65535) rfl rfl (one_of HT_.out (by kernel_rfl)) (by decide) (fun K hK => ?_);refine skip_ (w1 := ?_) (by rfl) rfl ?_ ?_;rotate_left
        ·go_simp
         rfl
        refine hK.out _ _ ?_;clear hK K;refine done_ (done_of HT_.out (by kernel_rfl)) ?_;try go_wp2
        (try simp only [← hl0_1]);go_roundg k1
        case measure => have := HK1.out; omega
        case rel => exact ⟨(y411), (wrap64 (x2_1 + 1)), (wrap64 (x3_1 - 1)), (by first | rfl | (simp; done) | (simp [*]; done)), (by first | rfl | (simp; done) | (simp [*]; done)), H', ⟨by have := HK1.out; omega⟩, ⟨by (try simp only [hl0_1]); (with_reducible repeat (first | apply Kd.R_alloc | apply Kd.R_drewN | apply Kd.R_drew)); exact HQ12.out⟩, ⟨by repeat (first | (with_reducible first | exact HK.out | apply Kept.alloc | apply Kept.drewN | apply Kept.drew | refine Kept.setCell ?_ HMgo8.out _ | refine Kept.setCell ?_ HMgo8.out _) | exact HK.out)⟩, ⟨by repeat (first | (with_reducible first | exact HB.out | apply below_alloc | apply pw_below_drewN | apply below_drew1 | refine below_set ?_ GB8.out | refine below_set ?_ GB8.out) | exact HB.out)⟩⟩
       ·rw [if_neg c7] at H
        exact absurd H (by simp)
      ·rw [if_neg c6] at H
       exact absurd H (by simp)
     ·rw [if_neg c5] at H
      exact absurd H (by simp)
    ·rw [if_neg c4] at H
     exact absurd H (by simp)
   ·rw [if_neg c3] at H
    have c3b0 : decide (x2_1 < x3_1) = false := decide_eq_false c3;clear c3;obtain rfl := Option.some.inj H;go_wp2
    first | go_end0 | ((try simp only [Exit.inBlock, Exit.then]); refine bodyPost_ret (results_none rfl _ _ _) rfl ?_)
    exact ⟨by first | rfl | (simp [errW_none, errW_some] <;> rfl) | (simp [*, errW_none, errW_some] <;> rfl), (by first | exact (qR HO_0.out) | (simp only [hl0_1]; exact (qR HO_0.out))), by repeat (first | (with_reducible first | exact HB.out | apply below_alloc | apply pw_below_drewN | apply below_drew1) | exact HB.out), by repeat (first | (with_reducible first | exact HK.out | apply Kept.alloc | apply Kept.drewN | apply Kept.drew) | exact HK.out)⟩
end Go.Proofs.Ytpmfdggbccbfaaa.Pr
