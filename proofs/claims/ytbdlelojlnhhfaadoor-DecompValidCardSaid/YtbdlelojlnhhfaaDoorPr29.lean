-- Printed by wip/tools/pp.py over the kit's print.py, several texts in one (wip/tools/mergepr.py); Lean checks it.
import Derived.Laws.IdiomCopy
import Derived.Test.YtbdlelojlnhhfaaDoorPr0
import Derived.Test.YtbdlelojlnhhfaaDoorPr1
import Derived.Test.YtbdlelojlnhhfaaDoorPr25
import Derived.RangeFuncRecord
import Derived.Maps.RangeRun
import Derived.MapKept
import Derived.Deep.QuietTactic
import Derived.BigQuiet
import Derived.Test.YtbdlelojlnhhfaaDoorPr15
import Derived.Test.YtbdlelojlnhhfaaDoorPr22
namespace Go.Proofs.YtbdlelojlnhhfaaDoor.Pr
open Go.RowKit Go.Proofs.YtbdlelojlnhhfaaDoorW.PrintWords Go.Proofs.YtbdlelojlnhhfaaDoorW.PrintLast Go.Proofs.YtbdlelojlnhhfaaDoorW.PrintMore
attribute [local go_sem] max2_int min2_int max_two min_two max_three min_three max_four min_four
set_option linter.unusedVariables false
set_option linter.unusedSimpArgs false
/-! ### slices_Repeat_int_int: function 31 -/
set_option linter.unusedSimpArgs false
theorem mul_one_f : ∀ m : Fin 65, bits_Mul.f 1 ((m.val : Nat) : Int) = some (0, ((m.val : Nat) : Int)) := by decide +kernel
theorem R_made1 (W : World) (base e m : Nat) (hb : base ≤ W.heap.size) (hm : m ≤ 9223372036854775807) : (Kd.int .i64).R e (W.alloc (.cells (madeCells #[.int .i64 0] m) e)) base (fun _ => True) (.slice (some ⟨W.heap.size, 0, none⟩) m m) (List.replicate m 0) := by
 have h := own_made W base e .i64 m hb hm;exact Kd.R_of_own (enc := Value.int .i64) (h1 := fun _ => rfl) (by rw [List.length_replicate]; exact h) (fun _ _ => trivial)
section
variable {P : Program} {W : World} {ok : Nat → Prop}
theorem rep_copy {base e m n g : Nat} (t ty : TypeId) (ht : P.underlying t = some (.slice e)) (hinfo : (P.info? e).map (·.size) = some 1) (xs : List Int) (hx : xs.length = m) (HO : (Kd.int .i64).R e W base ok (.slice (some ⟨g, 0, none⟩) m m) xs) (h1n : 1 ≤ n) (hnm : n < m) (c2 c3 : Nat) (ap : Option Addr) (hap : ap = some ⟨g, n, none⟩) :
  ∃ w1, (Builtin.copy_ #[t, t] ty #[.slice ap (m - n) c2, .slice (some ⟨g, 0, none⟩) n c3]).run P W = .ok (goInt ((min n (m - n) : Nat) : Int)) w1 ∧ (Kd.int .i64).R e w1 base ok (.slice (some ⟨g, 0, none⟩) m m) (xs.take n ++ (xs.take (min n (m - n)) ++ xs.drop (n + min n (m - n)))) ∧ W.grownBy w1 (some g) := by
 subst hap;have hown := Kd.own_of_R (enc := Value.int .i64) (h1 := fun _ => rfl) HO;have hC := (Kd.R_reads' HO).2.2;rcases hown.2 with ⟨hv, _⟩ | ⟨g', cap, cur, hv, hb, hh, hnc, hcm, hcs, htake⟩
 ·cases hv
 obtain ⟨e1, e2, e3⟩ := Value.slice.inj hv;obtain rfl : g = g' := by injection e1 with e1; injection e1
 obtain rfl : m = cap := e3;obtain ⟨sg, hsg⟩ : ∃ sg, sg = encs (Value.int .i64) (xs.take (min n (m - n))) := ⟨_, rfl⟩;have hkl : sg.length = min n (m - n) := by rw [hsg, encs_length, List.length_take]; omega
 have hcur : cur.size = m := by omega
 have hcl : cur.toList = encs (Value.int .i64) xs := by
  rw [← htake, List.take_of_length_le (by rw [Array.length_toList]; omega)]
 have hsrc : ∀ j u, sg[j]? = some u → W.cell? ((⟨g, 0, none⟩ : Addr).add j) = some u := by
  intro j u hu
  have hj : j < sg.length := by
   rcases Nat.lt_or_ge j sg.length with h | h
   ·exact h
   ·rw [List.getElem?_eq_none h] at hu; cases hu
  have hu2 : cur.toList[j]? = some u := by
   rw [hcl]
   rw [hsg] at hu
   unfold encs at hu ⊢
   rw [List.getElem?_map, List.getElem?_take_of_lt (by omega)] at hu
   rw [List.getElem?_map]
   exact hu
  rw [add_at, cell_of_row W g _ cur e (0, 0) hh, Nat.zero_add]
  simpa using hu2
 have hr := run_copy_cells (P := P) W t t ty e g n (m - n) c2 ⟨g, 0, none⟩ n c3 sg ht hinfo hkl hsrc (fun j hj => by rw [cell_of_row W g _ cur e (0, 0) hh]; simp <;> omega) (fun j _ => blk_frozen hh _) (by intro u hu; rw [hsg] at hu; simp only [encs, List.mem_map] at hu; obtain ⟨q, _, rfl⟩ := hu; rfl);obtain ⟨cur', h3, h4, h5⟩ := setCells_row sg n W cur hh (by rw [hkl]; omega);obtain ⟨s1, s2, s3, s4⟩ := setCells_same g sg n W
 have hln : (xs.take n ++ (xs.take (min n (m - n)) ++ xs.drop (n + min n (m - n)))).length = m := by
  rw [List.length_append, List.length_append, List.length_take, List.length_take, List.length_drop]
  omega
 refine ⟨_, by rw [hr, hkl], Kd.R_of_own (enc := Value.int .i64) (h1 := fun _ => rfl) ?_ HO.1, ⟨s1, s2, s3, by rw [s4]; exact Nat.le_refl _, fun k _ hk => setCells_far _ _ k (fun he => hk (by rw [he]))⟩⟩;rw [hln]
 refine ⟨by rw [encs_length, hln, Nat.mul_one], .inr ⟨g, m, cur', rfl, hb, h3, by omega, hcm, by rw [h4, hcs], ?_⟩⟩;have hl5 : cur'.toList.length = m := by rw [Array.length_toList, h4]; exact hcur
 rw [List.take_of_length_le (by omega), h5, hcl, hkl, hsg]
 simp only [encs, List.map_append, List.map_take, List.map_drop, List.append_assoc]
end
theorem copy_event {P : Program} {ops : Array Oper} {rest : List Oper} {o : Oper} {a : Act} {Q : Exit → Act → World → Prop} {W w1 : World} (hgd : o.guard = none) (s x : Operand) (t t' : TypeId)
  (ho : o.op = .call { callee := .builtin .copy, args := #[s, x], argTypes := #[t, t'] }) {sv xv r : Value} (hs : a.eval s = sv) (hx : a.eval x = xv) (hr : (Builtin.copy_ #[t, t'] o.type #[sv, xv]).run P W = .ok r w1) (h : wpList P ops Q rest (a.put o.dst r) w1) : wpList P ops Q (o :: rest) a W := by
 refine wpList_plain hgd fun K hK => ?_
 unfold Oper.wp execOp
 simp only [ho, resolve, invoke, builtin, Sem.run_bind, Sem.run_pure, Result.andThen_ok, List.map_toArray, List.map_cons, List.map_nil, hs, hx, hr]
 exact hK _ _ h
theorem copy_step {P : Program} {ops : Array Oper} {o : Oper} {a : Act} {w w1 : World} {K : Act → World → Prop} {Q : Exit → Act → World → Prop} {E : Prop} (hgd : o.guard = none) (s x : Operand) (t t' : TypeId)
  (ho : o.op = .call { callee := .builtin .copy, args := #[s, x], argTypes := #[t, t'] }) {sv xv r : Value} (hs : a.eval s = sv) (hx : a.eval x = xv) (hr : (Builtin.copy_ #[t, t'] o.type #[sv, xv]).run P w = .ok r w1) (hK : K (a.put o.dst r) w1) : if Region.wanted o (yielded ops a.tmps) = true then Oper.wp P o a w K Q else E := by
 rw [if_pos (by simp [Region.wanted, hgd])]
 unfold Oper.wp execOp
 simp only [ho, resolve, invoke, builtin, Sem.run_bind, Sem.run_pure, Result.andThen_ok, List.map_toArray, List.map_cons, List.map_nil, hs, hx, hr]
 exact hK
theorem rep_list (x : Int) (zs : List Int) (m n : Nat) (h1 : n + zs.length = m) : (List.replicate n x ++ zs).take n ++ ((List.replicate n x ++ zs).take (min n (m - n)) ++ (List.replicate n x ++ zs).drop (n + min n (m - n))) = List.replicate (n + min n (m - n)) x ++ zs.drop (min n (m - n)) := by
 have e1 : (List.replicate n x ++ zs).take n = List.replicate n x := by
  rw [List.take_append_of_le_length (by simp), List.take_of_length_le (by simp)]
 have e2 : (List.replicate n x ++ zs).take (min n (m - n)) = List.replicate (min n (m - n)) x := by
  rw [List.take_append_of_le_length (by simp; omega), List.take_replicate]
  congr 1
  omega
 have e3 : (List.replicate n x ++ zs).drop (n + min n (m - n)) = zs.drop (min n (m - n)) := by
  rw [List.drop_append, List.drop_of_length_le (by simp), List.nil_append, List.length_replicate, Nat.add_sub_cancel_left]
 rw [e1, e2, e3, ← List.append_assoc, List.replicate_append_replicate]
set_option maxRecDepth 100000 in
set_option maxHeartbeats 8000000 in
theorem rep_walk (ad : Addr) (c : Nat) (x : Int) (m : Nat) (hm : m ≤ 64) (w : World) (hr : (Kd.int .i64).C w (some ad) 1 [x]) (hc : 1 ≤ c) :
  Calls Tryd.prog 31 #[.slice (some ad) 1 c, .int .i64 (m : Int)] w fun e w' => ∃ v, e = .returned v ∧ Kd.R (Kd.int .i64) 3 w' w.heap.size (fun _ => True) v (List.replicate m x) ∧ Below w.heap.size w w' := by
 have HC := Aside0.mk hr;have HMU := Aside0.mk (mul_one_f ⟨m, by omega⟩);have hmk := print_make (P := Tryd.prog) 23 3 .i64 8 Tryd.underlying23 info3 (by decide) m (by omega);have hneg : decide ((m : Int) < 0) = false := decide_eq_false (by omega);have hw1 : IntKind.u64.wrap (m : Int) = (m : Int) := by unfold IntKind.wrap; simp [IntKind.signed, IntKind.bits]; omega
 clear hr;go_enter Tryd.func31, Tryd.ntmps31
 have HX := Aside0.mk (fun (w1 : World) (hb : Below w.heap.size w w1) => R_made1 w1 w.heap.size 3 m hb.size (by omega));go_wp2_with (first | (go_at_call 45; refine (bits_Mul.calls 1 (m : Int) 0 (m : Int) _ HMU.out).mono ?_; rintro e w1 ⟨rfl, hb⟩; have HB1 := Aside0.mk hb.below; clear hb) | ((with_reducible refine gate_dst (N := 33) rfl ?_); refine Kd.R_copy (enc := Value.int .i64) (h1 := fun _ => rfl) (0 : Int) (w0 := w) w.heap.size rfl (.tmp 31) (.tmp 32) 23 23 3 rfl Tryd.underlying23 (by kernel_rfl) _ (List.replicate m 0) [x] (some ad) 1 c (fun _ => True) rfl rfl (HX.out _ HB1.out) (Kd.C_below HC.out (below_alloc HB1.out _)) (below_alloc HB1.out _) (below_size (below_alloc HB1.out _)) ?_; intro w3 ho hb hg; have HO3 := Aside0.mk ho; have HB3 := Aside0.mk hb; clear ho hb hg))
 obtain ⟨g, hg⟩ : ∃ g, g = w1.heap.size := ⟨_, rfl⟩;rw [← hg] at HO3
 rw [← hg]
 have HS := Aside0.mk (show ∃ (N : Nat) (zs : List Int), (min 1 m) = N ∧ N + zs.length = m ∧ (1 ≤ N ∨ m = 0) ∧ (Kd.int .i64).R 3 w3 w.heap.size (fun _ => True) (.slice (some ⟨g, 0, none⟩) m m) (List.replicate N x ++ zs) by
  refine ⟨_, (List.replicate m (0 : Int)).drop (min 1 m), rfl, by simp; omega, by omega, ?_⟩;have := HO3.out;rcases Nat.eq_zero_or_pos m with h | h
  ·subst h; exact this
  ·rw [List.length_replicate, show min 1 m = 1 by omega] at this
   rw [show min 1 m = 1 by omega]
   exact this)
 obtain ⟨N0, zs0, hN0, hz0, hn0, hr0⟩ := HS.out;(try rw [List.length_replicate]);rw [hN0]
 have HR0 := Aside0.mk hr0;clear hr0 HS HO3 hN0 hg HX HMU;go_loopg [8] m (fun gg s8 wr => ∃ (N : Nat) (zs : List Int), s8 = .int .i64 (N : Int) ∧ N ≤ m ∧ Aside0 (m - N ≤ gg) ∧ Aside0 (N + zs.length = m ∧ (1 ≤ N ∨ m = 0)) ∧ Aside0 ((Kd.int .i64).R 3 wr w.heap.size (fun _ => True) (.slice (some ⟨g, 0, none⟩) m m) (List.replicate N x ++ zs)) ∧ Aside0 (Below w.heap.size w wr))
 case atStart => exact ⟨N0, zs0, rfl, by omega, ⟨by omega⟩, ⟨hz0, hn0⟩, HR0, HB3⟩
 case round =>
  obtain ⟨N, zs, rfl, hNm, HG, HZ, HR, HB⟩ := hrel;by_cases hlt : N < m
  ·have hltz : (N : Int) < (m : Int) := by omega
   have hle : (N : Int) ≤ (m : Int) := by omega
   have h1N : 1 ≤ N := by have := HZ.out.2; omega
   obtain ⟨w4, hcp, hr4, hg4⟩ := rep_copy (P := Tryd.prog) (n := N) 23 3 Tryd.underlying23 (by kernel_rfl) _ (by rw [List.length_append, List.length_replicate]; exact HZ.out.1) (Kd.R_drew HR.out) h1N hlt (m - N) m (if m = N then some ⟨g, 0, none⟩ else some ⟨g, N, none⟩) (if_neg (by omega));rw [rep_list x zs m N HZ.out.1] at hr4
   have HCP := Aside0.mk hcp;have HR4 := Aside0.mk hr4;have HB4 := Aside0.mk ((below_drew HB.out).grown hg4 (below_drew HB.out).size (fun j hj => by obtain rfl := Option.some.inj hj; exact Kd.R_base HR.out _ rfl));clear hcp hr4 hg4;go_wp2
   refine start_ (n := 10) (S := fun w' => True) (ds := []) (bs 10 0) (by kernel_rfl) rfl rfl trivial (fun hHeld => ?_);refine pure_ (i := 0) (N := some 38) (v := ?_) (a' := ?_) (bs 10 1) rfl rfl (by kernel_rfl) (fun _ _ _ h => h) (Or.inl ⟨by rfl, ?_⟩) ?_ ?_;rotate_left; (intro w'; go_simp; with_reducible rfl); rotate_left; (simp only [Act.put, List.setIfInBounds_toArray, List.set_cons_zero, List.set_cons_succ, i64_w, i32_w]; rfl)
   refine pure_ (i := 1) (N := some 39) (v := ?_) (a' := ?_) (bs 10 3) rfl rfl (by kernel_rfl) (fun _ _ _ h => h) (Or.inl ⟨by rfl, ?_⟩) ?_ ?_;rotate_left; (intro w'; go_simp; with_reducible rfl); rotate_left; (simp only [Act.put, List.setIfInBounds_toArray, List.set_cons_zero, List.set_cons_succ, i64_w, i32_w]; rfl)
   refine pure_ (i := 2) (N := some 40) (v := ?_) (a' := ?_) (bs 10 7) rfl rfl (by kernel_rfl) (fun _ _ _ h => h) (Or.inl ⟨by rfl, ?_⟩) ?_ ?_;rotate_left; (intro w'; go_simp; with_reducible rfl); rotate_left; (simp only [Act.put, List.setIfInBounds_toArray, List.set_cons_zero, List.set_cons_succ, i64_w, i32_w]; rfl)
   refine pure_ (i := 3) (N := some 41) (v := ?_) (a' := ?_) (bs 10 15) rfl rfl (by kernel_rfl) (fun _ _ _ h => h) (Or.inl ⟨by rfl, ?_⟩) ?_ ?_;rotate_left; (intro w'; go_simp; with_reducible rfl); rotate_left; (simp only [Act.put, List.setIfInBounds_toArray, List.set_cons_zero, List.set_cons_succ, i64_w, i32_w]; rfl)
   refine pure_ (i := 4) (N := some 42) (v := ?_) (a' := ?_) (bs 10 31) rfl rfl (by kernel_rfl) (fun _ _ _ h => h) (Or.inl ⟨by rfl, ?_⟩) ?_ ?_;rotate_left; (intro w'; go_simp; with_reducible rfl); rotate_left; (simp only [Act.put, List.setIfInBounds_toArray, List.set_cons_zero, List.set_cons_succ, i64_w, i32_w]; rfl)
   refine pure_ (i := 5) (N := some 43) (v := ?_) (a' := ?_) (bs 10 63) rfl rfl (by kernel_rfl) (fun _ _ _ h => h) (Or.inl ⟨by rfl, ?_⟩) ?_ ?_;rotate_left; (intro w'; go_simp; with_reducible rfl); rotate_left; (simp only [Act.put, List.setIfInBounds_toArray, List.set_cons_zero, List.set_cons_succ, i64_w, i32_w]; rfl)
   refine pure_ (i := 6) (N := some 44) (v := ?_) (a' := ?_) (bs 10 127) rfl rfl (by kernel_rfl) (fun _ _ _ h => h) (Or.inl ⟨by rfl, ?_⟩) ?_ ?_;rotate_left; (intro w'; go_simp; with_reducible rfl); rotate_left; (simp only [Act.put, List.setIfInBounds_toArray, List.set_cons_zero, List.set_cons_succ, i64_w, i32_w]; rfl)
   refine one_ (i := 7) (N := some 45) (bs 10 255) rfl rfl (by kernel_rfl) (by decide) (fun K hK => ?_);refine copy_step rfl (.tmp 41) (.tmp 44) 23 23 rfl rfl rfl HCP.out ?_;refine hK.out _ _ trivial (fun hHeld => ?_);clear hK K;refine norm_ (a' := ?_) ?_ ?_;rotate_left
   ·show Act.put _ (some 45) _ = _
    simp only [Act.put, List.setIfInBounds_toArray, List.set_cons_zero, List.set_cons_succ, i64_w, i32_w]
    rfl
   refine pure_ (i := 8) (N := some 46) (v := ?_) (a' := ?_) (bs 10 511) rfl rfl (by kernel_rfl) (fun _ _ _ h => h) (Or.inl ⟨by rfl, ?_⟩) ?_ ?_;rotate_left; (intro w'; go_simp; with_reducible rfl); rotate_left; (simp only [Act.put, List.setIfInBounds_toArray, List.set_cons_zero, List.set_cons_succ, i64_w, i32_w]; rfl)
   refine pure_ (i := 9) (N := some 8) (v := ?_) (a' := ?_) (bs 10 1023) rfl rfl (by kernel_rfl) (fun _ _ _ h => h) (Or.inl ⟨by rfl, ?_⟩) ?_ ?_;rotate_left; (intro w'; go_simp; with_reducible rfl); rotate_left; (simp only [Act.put, List.setIfInBounds_toArray, List.set_cons_zero, List.set_cons_succ, i64_w, i32_w]; rfl)
   refine done_ (by kernel_rfl) ?_;rw [show wrap64 ((N : Int) + ((min N (m - N) : Nat) : Int)) = ((N + min N (m - N) : Nat) : Int) by rw [wrap_id (by omega) (by omega)]; omega]
   go_wp2
   go_roundg (m - (N + min N (m - N)))
   case measure => have := HG.out; omega
   case rel => exact ⟨N + min N (m - N), zs.drop (min N (m - N)), rfl, by omega, ⟨Nat.le_refl _⟩, ⟨by rw [List.length_drop]; have := HZ.out.1; omega, .inl (by omega)⟩, ⟨HR4.out⟩, ⟨HB4.out⟩⟩
  ·have hltz : ¬ (N : Int) < (m : Int) := by omega
   obtain rfl : N = m := by omega
   have hzs : zs = [] := List.eq_nil_of_length_eq_zero (by have := HZ.out.1; omega);subst hzs;go_wp2
   go_ret
   exact ⟨_, rfl, by have := HR.out; rw [List.append_nil] at this; exact this, HB.out⟩
end Go.Proofs.YtbdlelojlnhhfaaDoor.Pr
namespace Go.Proofs.YtbdlelojlnhhfaaDoor.Pr
open Go.RowKit Go.Proofs.YtbdlelojlnhhfaaDoorW.PrintWords Go.Proofs.YtbdlelojlnhhfaaDoorW.PrintLast Go.Proofs.YtbdlelojlnhhfaaDoorW.PrintMore
attribute [local go_sem] max2_int min2_int max_two min_two max_three min_three max_four min_four
set_option linter.unusedVariables false
set_option linter.unusedSimpArgs false
/-! ### tuple_Meet: function 33 -/
def tuple_Meet.f (l0 : List Int) (l1 : List Int) : Option (List Int) := (tuple_merge.f l0 l1 false true false).bind fun t247 => (some t247)
set_option maxHeartbeats 8000000 in
set_option maxRecDepth 100000 in
theorem tuple_Meet.calls (A0 : Option Addr) (c0 : Nat) (l0 : List Int) (A1 : Option Addr) (c1 : Nat) (l1 : List Int) (r : List Int) (w : World) (hr0 : Kd.C (Kd.int .i64) w A0 l0.length l0) (hc0 : l0.length ≤ c0) (hr1 : Kd.C (Kd.int .i64) w A1 l1.length l1) (hc1 : l1.length ≤ c1) (h : tuple_Meet.f l0 l1 = some r) :
  Calls Tryd.prog 33 #[.slice A0 l0.length c0, .slice A1 l1.length c1] w fun e w' => ∃ v0_ : Value, e = .returned (v0_) ∧ Kd.R (Kd.int .i64) 3 w' w.heap.size (fun _ => True) v0_ r ∧ Below w.heap.size w w' := by
 have HR0 := Aside0.mk hr0;have HC0 := Aside0.mk hc0;clear hr0 hc0;have HR1 := Aside0.mk hr1;have HC1 := Aside0.mk hc1;clear hr1 hc1;have HB := Aside0.mk (Below.refl w.heap.size w);have H : ((tuple_merge.f l0 l1 false true false).bind fun t247 => (some t247)) = some r := h;clear h;replace H := Option.bind_eq_some_iff.mp H;obtain ⟨t247, A30, H⟩ := H;replace H : (some t247) = some r := H;have A3 := Aside0.mk A30;clear A30;obtain rfl := Option.some.inj H;go_enter Tryd.func33, Tryd.ntmps33
 go_wp2_with (first | ((with_reducible refine gate_callee (f := 46) rfl ?_); refine goesL_ (some 7) rfl rfl Tryd.func46 (by kernel_rfl) rfl #[.slice A0 l0.length c0, .slice A1 l1.length c1, .bool false, .bool true, .bool false] rfl qM ?_; (with_reducible refine (tuple_merge.calls _ _ l0 _ _ l1 false true false t247 _ ?side1 ?side2 ?side3 ?side4 A3.out).mono ?_); (case side1 => repeat (first | exact HR0.out | (with_reducible refine Kd.C_alloc ?_ _) | (with_reducible refine Kd.C_drewN ?_ _) | (with_reducible refine Kd.C_drew ?_))); (case side2 => exact HC0.out); (case side3 => repeat (first | exact HR1.out | (with_reducible refine Kd.C_alloc ?_ _) | (with_reducible refine Kd.C_drewN ?_ _) | (with_reducible refine Kd.C_drew ?_))); (case side4 => exact HC1.out); rintro e w4 ⟨v248, rfl, ho0, hb⟩; refine ⟨_, rfl, ?_⟩; have n0_ := Aside0.mk (Kd.R_lower ho0 (below_size (qB HB.out))); have n1_ := Aside0.mk (below_step (qB HB.out) hb); clear HB; have HO249 := n0_; have HB := n1_; clear n0_ n1_; (try clear hb); (try clear hb2); (try clear hk); (try clear hi); (try clear ho0)))
 go_ret
 exact ⟨_, by first | rfl | (simp [errW_none, errW_some] <;> rfl) | (simp [*, errW_none, errW_some] <;> rfl), by (with_reducible repeat (first | apply Kd.R_alloc | apply Kd.R_drewN | apply Kd.R_drew)); exact HO249.out, by repeat (first | (with_reducible first | exact HB.out | apply below_alloc | apply pw_below_drewN | apply below_drew1) | exact HB.out)⟩
end Go.Proofs.YtbdlelojlnhhfaaDoor.Pr
namespace Go.Proofs.YtbdlelojlnhhfaaDoor.Pr
open Go.RowKit Go.Proofs.YtbdlelojlnhhfaaDoorW.PrintWords Go.Proofs.YtbdlelojlnhhfaaDoorW.PrintLast Go.Proofs.YtbdlelojlnhhfaaDoorW.PrintMore
attribute [local go_sem] max2_int min2_int max_two min_two max_three min_three max_four min_four
set_option linter.unusedVariables false
set_option linter.unusedSimpArgs false
/-! ### decomp_Build: function 12 -/
set_option linter.unusedSimpArgs false
abbrev Ent := Nat × (Int × Int) × Nat
def linkV (p : Int × Int) : Value := .agg #[.int .i64 p.1, .int .i64 p.2]
def entV (t : Ent) : MapEntry := { key := .int .i64 (t.1 : Int), val := linkV t.2.1, born := t.2.2 }
def lk (es : List Ent) (i : Nat) : Option (Int × Int) := (es.find? fun t => t.1 == i).map (·.2.1)
structure MapL (W : World) (mb : Nat) (es : List Ent) (clock : Nat) : Prop where
 at_ : W.heap[mb]? = some (.map (es.map entV).toArray clock)
 keys : (es.map (·.1)).Nodup
 born : (es.map (·.2.2)).Nodup
 old : ∀ t ∈ es, t.2.2 < clock
theorem find_ents (k : Nat) : ∀ (es : List Ent) (i : Nat), (lk es k = none ∧ (∀ t ∈ es, t.1 ≠ k) ∧ Instr.findNow (.int .i64) (.int .i64 (k : Int)) (es.map entV) i = some none) ∨ ∃ (j : Nat) (t : Ent), es[j]? = some t ∧ t.1 = k ∧ lk es k = some t.2.1 ∧ Instr.findNow (.int .i64) (.int .i64 (k : Int)) (es.map entV) i = some (some (i + j, linkV t.2.1))
 | [], i => .inl ⟨rfl, fun _ h => (by cases h), rfl⟩
 | e :: es, i => by
  have hs : Instr.sameNow (.int .i64) (.int .i64 (k : Int)) (entV e).key = some (decide (k = e.1)) := by
   show (if IntKind.i64 = IntKind.i64 then some ((k : Int) == (e.1 : Int)) else none) = _
   rw [if_pos rfl]
   congr 1
   rw [Bool.eq_iff_iff, beq_iff_eq, decide_eq_true_iff]
   omega
  by_cases c : e.1 = k
  ·refine .inr ⟨0, e, rfl, c, by simp [lk, c], ?_⟩;rw [decide_eq_true c.symm] at hs
   simp only [List.map_cons, Instr.findNow, hs]
   rfl
  ·rw [decide_eq_false (fun h => c h.symm)] at hs
   have hl : lk (e :: es) k = lk es k := by
    unfold lk
    rw [List.find?_cons_of_neg (by simpa using c)]
   rcases find_ents k es (i + 1) with ⟨h1, h2, h3⟩ | ⟨j, t, h1, h2, h3, h4⟩
   ·refine .inl ⟨by rw [hl, h1], fun t ht => ?_, ?_⟩
    ·rcases List.mem_cons.1 ht with rfl | ht
     ·exact c
     ·exact h2 t ht
    ·simp only [List.map_cons, Instr.findNow, hs]
     exact h3
   ·refine .inr ⟨j + 1, t, h1, h2, by rw [hl, h3], ?_⟩;simp only [List.map_cons, Instr.findNow, hs]
    rw [h4]
    congr 3
    omega
section
variable {P : Program} {W : World} {mb clock : Nat} {es : List Ent} {mt kt et : TypeId}
theorem link_get (hm : P.underlying mt = some (.map kt et)) (hk : P.underlying kt = some (.int .i64)) (hz : ∀ w, (zeroValue et).run P w = .ok (linkV (0, 0)) w) (h : MapL W mb es clock) (k : Nat) : (Instr.lookup mt (.map (some mb)) (.int .i64 (k : Int)) false).run P W = .ok (linkV ((lk es k).getD (0, 0))) W := by
 rcases find_ents k es 0 with ⟨h1, _, h3⟩ | ⟨j, t, _, _, h1, h3⟩
 ·simp [Instr.lookup, run_underlying hm, Result.andThen, Go.MapKept.run_getObj_map h.at_, Go.MapKept.run_checkKey hk (k := .int .i64 (k : Int)) (by simp [Go.MapKept.IsKey]), Go.MapKept.run_findKey hk h3, hz, h1]
 ·simp [Instr.lookup, run_underlying hm, Result.andThen, Go.MapKept.run_getObj_map h.at_, Go.MapKept.run_checkKey hk (k := .int .i64 (k : Int)) (by simp [Go.MapKept.IsKey]), Go.MapKept.run_findKey hk h3, h1]
theorem link_get_ok (hm : P.underlying mt = some (.map kt et)) (hk : P.underlying kt = some (.int .i64)) (hz : ∀ w, (zeroValue et).run P w = .ok (linkV (0, 0)) w) (h : MapL W mb es clock) (k : Nat) : (Instr.lookup mt (.map (some mb)) (.int .i64 (k : Int)) true).run P W = .ok (.tuple #[linkV ((lk es k).getD (0, 0)), .bool (lk es k).isSome]) W := by
 rcases find_ents k es 0 with ⟨h1, _, h3⟩ | ⟨j, t, _, _, h1, h3⟩
 ·simp [Instr.lookup, run_underlying hm, Result.andThen, Go.MapKept.run_getObj_map h.at_, Go.MapKept.run_checkKey hk (k := .int .i64 (k : Int)) (by simp [Go.MapKept.IsKey]), Go.MapKept.run_findKey hk h3, hz, h1]
 ·simp [Instr.lookup, run_underlying hm, Result.andThen, Go.MapKept.run_getObj_map h.at_, Go.MapKept.run_checkKey hk (k := .int .i64 (k : Int)) (by simp [Go.MapKept.IsKey]), Go.MapKept.run_findKey hk h3, h1]
theorem putObj_map {o : Obj} (hb : W.heap[mb]? = some o) (o' : Obj) : (W.putObj mb o').heap[mb]? = some o' ∧ W.grownBy (W.putObj mb o') (some mb) := by
 refine ⟨World.putObj_heap_same (blk_lt hb), ⟨rfl, rfl, rfl, by simp [World.putObj], fun i _ hi => World.putObj_heap_other (fun e => hi (by rw [e]))⟩⟩
def putE (k : Nat) (p : Int × Int) (es : List Ent) : List Ent := es.map fun t => if t.1 = k then (t.1, p, t.2.2) else t
theorem lk_put (k : Nat) (p : Int × Int) : ∀ (es : List Ent) (i : Nat), lk (putE k p es) i = if i = k then (lk es i).map (fun _ => p) else lk es i
 | [], i => by unfold lk putE; split <;> rfl
 | e :: es, i => by
  have ih := lk_put k p es i;unfold lk putE at ih ⊢
  rw [List.map_cons, List.find?_cons, List.find?_cons]
  by_cases c : e.1 = k
  ·rw [if_pos c]
   by_cases c2 : e.1 = i
   ·rw [show (e.1 == i) = true by simpa using c2]
    simp [← c, c2]
   ·rw [show (e.1 == i) = false by simpa using c2]
    exact ih
  ·rw [if_neg c]
   by_cases c2 : e.1 = i
   ·rw [show (e.1 == i) = true by simpa using c2, if_neg (fun h => c (c2.trans h))]
   ·rw [show (e.1 == i) = false by simpa using c2]
    exact ih
theorem same_bits (x : Int) : Instr.sameBits 10000 (.int .i64 x) (.int .i64 x) = true := by simp [Instr.sameBits]
/-- a store at a key that is there -/
theorem link_put (hm : P.underlying mt = some (.map kt et)) (hk : P.underlying kt = some (.int .i64)) (h : MapL W mb es clock) (k : Nat) (p : Int × Int) (hin : (lk es k).isSome = true) : ∃ w1, (Instr.mapUpdate mt (.map (some mb)) (.int .i64 (k : Int)) (linkV p)).run P W = .ok () w1 ∧ MapL w1 mb (putE k p es) clock ∧ W.grownBy w1 (some mb) := by
 rcases find_ents k es 0 with ⟨h1, _, h3⟩ | ⟨j, t, ht, htk, h1, h3⟩
 ·rw [h1] at hin; cases hin
 ·have hjl : j < es.length := (List.getElem?_eq_some_iff.1 ht).1
  have hkey : (((es.map entV).toArray[0 + j]?).map (·.key)).getD (.int .i64 (k : Int)) = .int .i64 (k : Int) := by
   rw [Nat.zero_add, List.getElem?_toArray, List.getElem?_map, ht]
   simp [entV, htk]
  have hstay : ∀ W : World, (Instr.keyThatStays ((((es.map entV).toArray[0 + j]?).map (·.key)).getD (.int .i64 (k : Int))) (.int .i64 (k : Int))).run P W = .ok (.int .i64 (k : Int)) W := fun W => by
   rw [hkey]
   simp [Instr.keyThatStays, same_bits]
  have harr : ((es.map entV).toArray.modify (0 + j) fun e => { e with key := .int .i64 (k : Int), val := linkV p }) = ((putE k p es).map entV).toArray := by
   apply Array.ext_getElem?
   intro i
   rw [Nat.zero_add, Array.getElem?_modify, List.getElem?_toArray, List.getElem?_toArray, List.getElem?_map, List.getElem?_map]
   unfold putE
   rw [List.getElem?_map]
   by_cases c : j = i
   ·subst c;rw [if_pos rfl, ht]
    simp [entV, htk]
   ·rw [if_neg c]
    cases hq : es[i]? with
    | none => rfl
    | some u =>
     have hne : u.1 ≠ k := fun e => by
      have hi : i < es.length := (List.getElem?_eq_some_iff.1 hq).1;have a1 : (es.map (·.1))[j]'(by simpa using hjl) = k := by rw [List.getElem_map, (List.getElem?_eq_some_iff.1 ht).2]; exact htk
      have a2 : (es.map (·.1))[i]'(by simpa using hi) = k := by rw [List.getElem_map, (List.getElem?_eq_some_iff.1 hq).2]; exact e
      exact c ((List.getElem_inj h.keys).1 (a1.trans a2.symm))
     simp [hne]
  obtain ⟨g1, g2⟩ := putObj_map h.at_ (.map ((putE k p es).map entV).toArray clock);refine ⟨W.putObj mb (.map ((putE k p es).map entV).toArray clock), ?_, ⟨g1, ?_, ?_, ?_⟩, g2⟩
  ·rw [← harr]
   simp only [Instr.mapUpdate, Sem.run_bind, run_underlying hm, Result.andThen_ok, Go.MapKept.run_getObj_map h.at_, Go.MapKept.run_checkKey hk (k := .int .i64 (k : Int)) (by simp [Go.MapKept.IsKey]), Go.MapKept.run_findKey hk h3, hstay, Go.MapKept.run_setObj_map _ h.at_, World.putObj]
  ·have : (putE k p es).map (·.1) = es.map (·.1) := by
    unfold putE
    rw [List.map_map]
    exact List.map_congr_left (fun t _ => by simp only [Function.comp]; split <;> rfl)
   rw [this]; exact h.keys
  ·have : (putE k p es).map (·.2.2) = es.map (·.2.2) := by
    unfold putE
    rw [List.map_map]
    exact List.map_congr_left (fun t _ => by simp only [Function.comp]; split <;> rfl)
   rw [this]; exact h.born
  ·intro t ht'
   obtain ⟨u, hu, rfl⟩ := List.mem_map.1 ht';have := h.old u hu;split <;> exact this
theorem lk_filter (k : Nat) : ∀ (es : List Ent) (i : Nat), lk (es.filter fun t => t.1 != k) i = if i = k then none else lk es i
 | [], i => by unfold lk; split <;> rfl
 | e :: es, i => by
  have ih := lk_filter k es i;by_cases c : e.1 = k
  ·rw [List.filter_cons_of_neg (by simpa using c), ih]
   by_cases c2 : i = k
   ·rw [if_pos c2, if_pos c2]
   ·rw [if_neg c2, if_neg c2]
    unfold lk
    rw [List.find?_cons_of_neg (by simp only [beq_iff_eq]; omega)]
  ·rw [List.filter_cons_of_pos (by simpa using c)]
   unfold lk at ih ⊢
   rw [List.find?_cons, List.find?_cons]
   by_cases c2 : e.1 = i
   ·rw [show (e.1 == i) = true by simpa using c2, if_neg (fun h => c (c2.trans h))]
   ·rw [show (e.1 == i) = false by simpa using c2]
    exact ih
theorem erase_at (k : Nat) : ∀ (es : List Ent) (j : Nat) (t : Ent), (es.map (·.1)).Nodup → es[j]? = some t → t.1 = k → es.eraseIdx j = es.filter fun t => t.1 != k
 | [], j, t, _, h, _ => by cases h
 | e :: es, 0, t, hd, h, hk => by
  obtain rfl : e = t := Option.some.inj h;have hno := (List.nodup_cons.1 hd).1;rw [List.eraseIdx_cons_zero, List.filter_cons_of_neg (by simpa using hk)]
  refine (List.filter_eq_self.2 (fun u hu => ?_)).symm;simp only [bne_iff_ne]
  intro c
  exact hno (List.mem_map.2 ⟨u, hu, c.trans hk.symm⟩)
 | e :: es, j + 1, t, hd, h, hk => by
  have hne : e.1 ≠ k := fun c => (List.nodup_cons.1 hd).1 (List.mem_map.2 ⟨t, List.mem_of_getElem? h, hk.trans c.symm⟩)
  rw [List.eraseIdx_cons_succ, List.filter_cons_of_pos (by simpa using hne), erase_at k es j t (List.nodup_cons.1 hd).2 h hk]
def delE (k : Nat) (es : List Ent) : List Ent := es.filter fun t => t.1 != k
theorem link_del (hm : P.underlying mt = some (.map kt et)) (hk : P.underlying kt = some (.int .i64)) (h : MapL W mb es clock) (k : Nat) (ty : TypeId) : ∃ w1, (Builtin.delete_ #[mt, kt] ty #[.map (some mb), .int .i64 (k : Int)]).run P W = .ok (.tuple #[]) w1 ∧ MapL w1 mb (delE k es) clock ∧ W.grownBy w1 (some mb) := by
 have hs : (delE k es).Sublist es := List.filter_sublist;rcases find_ents k es 0 with ⟨_, h1, h3⟩ | ⟨j, t, ht, htk, _, h3⟩
 ·obtain ⟨g1, g2⟩ := putObj_map h.at_ (.map (es.map entV).toArray clock);have hf : (delE k es) = es := List.filter_eq_self.2 (fun t ht => by simpa using h1 t ht);refine ⟨W.putObj mb (.map (es.map entV).toArray clock), ?_, by rw [hf]; exact ⟨g1, h.keys, h.born, h.old⟩, g2⟩;simp [Builtin.delete_, run_underlying hm, Result.andThen, Go.MapKept.run_getObj_map h.at_, Go.MapKept.run_checkKey hk (k := .int .i64 (k : Int)) (by simp [Go.MapKept.IsKey]), Go.MapKept.run_findKey hk h3, Go.MapKept.run_setObj_map _ h.at_, World.putObj]
 ·have harr : ((es.map entV).toArray.eraseIdxIfInBounds (0 + j)) = ((delE k es).map entV).toArray := by
   have hjl : j < es.length := (List.getElem?_eq_some_iff.1 ht).1;unfold Array.eraseIdxIfInBounds
   rw [Nat.zero_add, dif_pos (by simpa using hjl)]
   apply Array.ext'
   rw [show delE k es = es.eraseIdx j from (erase_at k es j t h.keys ht htk).symm]
   rw [List.toList_toArray, Array.toList_eraseIdx, List.toList_toArray, List.eraseIdx_eq_take_drop_succ, List.eraseIdx_eq_take_drop_succ, List.map_append, List.map_take, List.map_drop]
  obtain ⟨g1, g2⟩ := putObj_map h.at_ (.map ((delE k es).map entV).toArray clock);refine ⟨W.putObj mb (.map ((delE k es).map entV).toArray clock), ?_, ⟨g1, List.Sublist.nodup (List.Sublist.map (fun t : Ent => t.1) hs) h.keys, List.Sublist.nodup (List.Sublist.map (fun t : Ent => t.2.2) hs) h.born, fun t ht => h.old t (hs.subset ht)⟩, g2⟩;rw [← harr]
  simp [Builtin.delete_, run_underlying hm, Result.andThen, Go.MapKept.run_getObj_map h.at_, Go.MapKept.run_checkKey hk (k := .int .i64 (k : Int)) (by simp [Go.MapKept.IsKey]), Go.MapKept.run_findKey hk h3, Go.MapKept.run_setObj_map _ h.at_, World.putObj]
theorem link_new (hm : P.underlying mt = some (.map kt et)) (hk : P.underlying kt = some (.int .i64)) (h : MapL W mb es clock) (k : Nat) (p : Int × Int) (hno : ∀ t ∈ es, t.1 ≠ k) : ∃ w1, (Instr.mapUpdate mt (.map (some mb)) (.int .i64 (k : Int)) (linkV p)).run P W = .ok () w1 ∧ MapL w1 mb (es ++ [(k, p, clock)]) (clock + 1) ∧ W.grownBy w1 (some mb) := by
 rcases find_ents k es 0 with ⟨h1, _, h3⟩ | ⟨j, t, ht, htk, _, _⟩
 ·have harr : (es.map entV).toArray.push { key := .int .i64 (k : Int), val := linkV p, born := clock } = ((es ++ [(k, p, clock)]).map entV).toArray := by
   rw [List.map_append, List.push_toArray]
   rfl
  obtain ⟨g1, g2⟩ := putObj_map h.at_ (.map ((es ++ [(k, p, clock)]).map entV).toArray (clock + 1));refine ⟨W.putObj mb (.map ((es ++ [(k, p, clock)]).map entV).toArray (clock + 1)), ?_, ⟨g1, ?_, ?_, ?_⟩, g2⟩
  ·rw [← harr]
   simp [Instr.mapUpdate, run_underlying hm, Result.andThen, Go.MapKept.run_getObj_map h.at_, Go.MapKept.run_checkKey hk (k := .int .i64 (k : Int)) (by simp [Go.MapKept.IsKey]), Go.MapKept.run_findKey hk h3, Go.MapKept.run_setObj_map _ h.at_, World.putObj]
  ·rw [List.map_append]
   refine List.nodup_append.2 ⟨h.keys, List.nodup_cons.2 ⟨List.not_mem_nil, List.nodup_nil⟩, fun a ha b hb e => ?_⟩;obtain ⟨t, ht, rfl⟩ := List.mem_map.1 ha;have hb' : b = k := by simpa using hb
   exact hno t ht (e.trans hb')
  ·rw [List.map_append]
   refine List.nodup_append.2 ⟨h.born, List.nodup_cons.2 ⟨List.not_mem_nil, List.nodup_nil⟩, fun a ha b hb e => ?_⟩;obtain ⟨t, ht, rfl⟩ := List.mem_map.1 ha;have hb' : b = clock := by simpa using hb
   have := h.old t ht;omega
  ·intro t ht
   rcases List.mem_append.1 ht with ht | ht
   ·have := h.old t ht; omega
   ·obtain rfl := List.mem_singleton.1 ht; show clock < clock + 1; omega
 ·exact absurd htk (hno t (List.mem_of_getElem? ht))
theorem MapL.grown {w1 : World} {row : Option Nat} (h : MapL W mb es clock) (hg : W.grownBy w1 row) (hr : some mb ≠ row) : MapL w1 mb es clock := ⟨(hg.block _ (blk_lt h.at_) hr).trans h.at_, h.keys, h.born, h.old⟩
theorem born_iff {es : List Ent} (hd : (es.map (·.2.2)).Nodup) {t u : Ent} (ht : t ∈ es) (hu : u ∈ es) (e : t.2.2 = u.2.2) : t = u := by
 obtain ⟨i, hi, rfl⟩ := List.getElem_of_mem ht;obtain ⟨j, hj, rfl⟩ := List.getElem_of_mem hu;have : i = j := (List.getElem_inj (xs := es.map (·.2.2)) (h₀ := by simpa using hi) (h₁ := by simpa using hj) hd).1 (by simpa using e);subst this;rfl
def IterAt (W : World) (mb r clock : Nat) (seen : Array Nat) : Prop := ∃ c0, clock ≤ c0 ∧ W.heap[r]? = some (.mapIter (some mb) clock seen c0)
def unseen (seen : Array Nat) (es : List Ent) : Nat := (es.filter fun t => !seen.contains t.2.2).length
theorem iter_next {r : Nat} {seen : Array Nat} (h : MapL W mb es clock) (hi : IterAt W mb r clock seen) (ty : TypeId) :
  ((∀ t ∈ es, seen.contains t.2.2 = true) ∧ (Instr.next (.pointer (some ⟨r, 0, none⟩)) false ty).run P W = .ok (.tuple #[.bool false]) W) ∨
  ∃ t ∈ es, seen.contains t.2.2 = false ∧ ∃ w1, (Instr.next (.pointer (some ⟨r, 0, none⟩)) false ty).run P W = .ok (.tuple #[.bool true, .int .i64 (t.1 : Int), linkV t.2.1]) w1 ∧ MapL w1 mb es clock ∧ IterAt w1 mb r clock (seen.push t.2.2) ∧ W.grownBy w1 (some r) ∧
   (Instr.entry (.pointer (some ⟨r, 0, none⟩))).run P w1 = .ok (.tuple #[.int .i64 (t.1 : Int), linkV t.2.1]) w1 := by
 obtain ⟨c0, hc, hr⟩ := hi;have hne : r ≠ mb := fun e => by rw [e, h.at_] at hr; cases hr
 have hold : ∀ x ∈ (es.map entV).toArray.toList, x.born < clock := fun x hx => by
  obtain ⟨t, ht, rfl⟩ := List.mem_map.1 (show x ∈ es.map entV from hx);exact h.old t ht
 rcases run_next_at (P := P) W ty r mb clock c0 seen (es.map entV).toArray clock hr h.at_ hold hc with ⟨h0, hrun⟩ | ⟨e, he, w1, hal, hrun⟩
 ·refine .inl ⟨fun t ht => ?_, hrun⟩;exact all_seen _ seen h0 (entV t) (show entV t ∈ es.map entV from List.mem_map.2 ⟨t, ht, rfl⟩)
 ·obtain ⟨hem, hes⟩ := mem_left he;obtain ⟨t, ht, rfl⟩ := List.mem_map.1 (show e ∈ es.map entV from hem);have hr1 : w1.heap[r]? = some (.mapIter (some mb) clock seen c0) := by rcases hal with rfl | rfl <;> exact hr
  have hb1 : w1.heap[mb]? = some (.map (es.map entV).toArray clock) := by rcases hal with rfl | rfl <;> exact h.at_
  have hset := Go.MapKept.heap_set (o' := .mapIter (some mb) clock (seen.push t.2.2) clock) hr1;have hb' : (Go.ChangeMaps.setBlock w1 r (.mapIter (some mb) clock (seen.push t.2.2) clock)).heap[mb]? = some (.map (es.map entV).toArray clock) := (hset.2 mb (fun e1 => hne e1.symm)).trans hb1;refine .inr ⟨t, ht, hes, _, hrun, ⟨hb', h.keys, h.born, h.old⟩, ⟨clock, Nat.le_refl _, hset.1⟩, ?_, ?_⟩
  ·rcases hal with rfl | rfl <;> exact ⟨rfl, rfl, rfl, by simp [Go.ChangeMaps.setBlock], fun i _ hi => hset.2 i (fun e1 => hi (by rw [e1]))⟩
  ·exact run_entry_at _ r mb clock seen (es.map entV).toArray clock (entV t) hset.1 hb' (show entV t ∈ es.map entV from List.mem_map.2 ⟨t, ht, rfl⟩) (by
    have : ((es.map entV).toArray.toList.map (·.born)) = es.map (·.2.2) := by simp [Function.comp_def, entV]
    rw [this]; exact h.born)
theorem range_links (hm : P.underlying mt = some (.map kt et)) (h : MapL W mb es clock) : (Instr.range mt (.map (some mb))).run P W = .ok (.pointer (some ⟨W.heap.size, 0, none⟩)) (W.alloc (.mapIter (some mb) clock #[] clock)) := run_range_map W mt kt et mb _ clock hm h.at_
theorem IterAt.grown {w1 : World} {row : Option Nat} {r : Nat} {seen : Array Nat} (h : IterAt W mb r clock seen) (hg : W.grownBy w1 row) (hr : some r ≠ row) : IterAt w1 mb r clock seen := by
 obtain ⟨c0, h1, h2⟩ := h;exact ⟨c0, h1, (hg.block _ (blk_lt h2) hr).trans h2⟩
end
section
variable {P : Program} {ops : Array Oper} {rest : List Oper} {o : Oper} {a : Act} {Q : Exit → Act → World → Prop} {W w1 : World}
theorem next_event (hgd : o.guard = none) {it : Operand} (ho : o.op = .next it false) {pv r : Value} (hi : a.eval it = pv) (hr : (Instr.next pv false o.type).run P W = .ok r w1) (h : wpList P ops Q rest (a.put o.dst r) w1) : wpList P ops Q (o :: rest) a W := by
 refine wpList_plain hgd fun K hK => ?_
 unfold Oper.wp
 simp [execOp, ho, hi, hr, Result.andThen]
 exact hK _ _ h
theorem entry_event (hgd : o.guard = none) {it : Operand} (ho : o.op = .entry it) {pv r : Value} (hi : a.eval it = pv) (hr : (Instr.entry pv).run P W = .ok r w1) (h : wpList P ops Q rest (a.put o.dst r) w1) : wpList P ops Q (o :: rest) a W := by
 refine wpList_plain hgd fun K hK => ?_
 unfold Oper.wp
 simp [execOp, ho, hi, hr, Result.andThen]
 exact hK _ _ h
theorem range_event (hgd : o.guard = none) {x : Operand} {t : TypeId} (ho : o.op = .range t x) {pv r : Value} (hi : a.eval x = pv) (hr : (Instr.range t pv).run P W = .ok r w1) (h : wpList P ops Q rest (a.put o.dst r) w1) : wpList P ops Q (o :: rest) a W := by
 refine wpList_plain hgd fun K hK => ?_
 unfold Oper.wp
 simp [execOp, ho, hi, hr, Result.andThen]
 exact hK _ _ h
theorem del_event (hgd : o.guard = none) {m x : Operand} {t k : TypeId} (ho : o.op = .call { callee := .builtin .delete, args := #[m, x], argTypes := #[t, k] }) {mv xv : Value} (hm : a.eval m = mv) (hx : a.eval x = xv) (hr : (Builtin.delete_ #[t, k] o.type #[mv, xv]).run P W = .ok (.tuple #[]) w1) (h : wpList P ops Q rest (a.put o.dst (.tuple #[])) w1) : wpList P ops Q (o :: rest) a W := by
 refine wpList_plain hgd fun K hK => ?_
 unfold Oper.wp
 simp [execOp, ho, resolve, invoke, builtin, hm, hx, hr, Result.andThen]
 exact hK _ _ h
theorem lget_event (hgd : o.guard = none) {t : TypeId} {p k : Operand} {ok : Bool} (ho : o.op = .lookup t p k ok) {mv kv val : Value} (hp : a.eval p = mv) (hk : a.eval k = kv) (hr : (Instr.lookup t mv kv ok).run P W = .ok val W) (h : wpList P ops Q rest (a.put o.dst val) W) : wpList P ops Q (o :: rest) a W := by
 refine wpList_plain hgd fun K hK => ?_
 unfold Oper.wp
 simp [execOp, ho, hp, hk, hr, Result.andThen]
 exact hK _ _ h
theorem lgetg_event {t : TypeId} {p k : Operand} {ok : Bool} (ho : o.op = .lookup t p k ok) (hw : Region.wanted o (yielded ops a.tmps) = true) {mv kv val : Value} (hp : a.eval p = mv) (hk : a.eval k = kv) (hr : (Instr.lookup t mv kv ok).run P W = .ok val W) (h : wpList P ops Q rest (a.put o.dst val) W) : wpList P ops Q (o :: rest) a W := by
 refine wpList_step fun K hK => ?_
 simp only [hw, if_true]
 unfold Oper.wp
 simp [execOp, ho, hp, hk, hr, Result.andThen]
 exact hK _ _ h
theorem lput_event (hgd : o.guard = none) {t : TypeId} {p k v : Operand} (ho : o.op = .mapUpdate t p k v) (hN : o.dst = none) {mv kv vv : Value} (hp : a.eval p = mv) (hk : a.eval k = kv) (hv : a.eval v = vv) (hr : (Instr.mapUpdate t mv kv vv).run P W = .ok () w1) (h : wpList P ops Q rest a w1) : wpList P ops Q (o :: rest) a W := by
 have hrun : (execOp a.eval o).run P W = .ok .skip w1 := by simp [execOp, ho, hp, hk, hv, hr, Result.andThen]
 refine wpList_plain hgd fun K hK => ?_
 unfold Oper.wp
 rw [hrun]
 show K (a.put o.dst undef) w1
 rw [hN]
 exact hK _ _ h
theorem lmake_event (hgd : o.guard = none) {t : TypeId} (ho : o.op = .makeMap t none)
  (h : ∀ w1, w1 = W.alloc (.map #[] 0) → wpList P ops Q rest (a.put o.dst (.map (some W.heap.size))) w1) : wpList P ops Q (o :: rest) a W := by
 have hrun : (execOp a.eval o).run P W = .ok (.value (.map (some W.heap.size))) (W.alloc (.map #[] 0)) := by simp [execOp, ho, Instr.makeMap, Result.andThen]
 refine wpList_plain hgd fun K hK => ?_
 unfold Oper.wp
 rw [hrun]
 exact hK _ _ (h _ rfl)
end
def meetN (B : List (List Int)) (i k : Nat) : Int := ((mergeL false true false (B.getD i []) (B.getD k [])).length : Int)
theorem meet_some (s b : List Int) (h : s.length + b.length < 17592186044416) : tuple_Meet.f s b = some (mergeL false true false s b) := by
 simp only [tuple_Meet.f, tuple_merge.f, if_pos h, Option.bind_some]
def updL (B : List (List Int)) (k i : Nat) (l : Int × Int) : Int × Int := if meetN B i k > l.1 ∨ (meetN B i k = l.1 ∧ (k : Int) < l.2) then (meetN B i k, (k : Int)) else l
def updS (B : List (List Int)) (k : Nat) (seen : Array Nat) (es : List Ent) : List Ent := es.map fun t => if seen.contains t.2.2 = true then (t.1, updL B k t.1 t.2.1, t.2.2) else t
theorem updS_keys (B : List (List Int)) (k : Nat) (seen : Array Nat) (es : List Ent) : (updS B k seen es).map (·.1) = es.map (·.1) := by
 unfold updS
 rw [List.map_map]
 exact List.map_congr_left (fun t _ => by simp only [Function.comp]; split <;> rfl)
theorem updS_start (B : List (List Int)) (k : Nat) (es : List Ent) : updS B k #[] es = es := by
 unfold updS
 conv => rhs; rw [← List.map_id es]
 exact List.map_congr_left (fun t _ => by simp)
theorem updS_mem {B : List (List Int)} {k : Nat} {seen : Array Nat} {es : List Ent} {t : Ent} (h : t ∈ updS B k seen es) (hs : seen.contains t.2.2 = false) : t ∈ es := by
 obtain ⟨u, hu, e⟩ := List.mem_map.1 h;by_cases c : seen.contains u.2.2 = true
 ·rw [if_pos c] at e
  subst e;rw [c] at hs
  cases hs
 ·rw [if_neg c] at e
  exact e ▸ hu
theorem updS_push {B : List (List Int)} {k : Nat} {seen : Array Nat} {es : List Ent} (hk : (es.map (·.1)).Nodup) (hb : (es.map (·.2.2)).Nodup) {t : Ent} (ht : t ∈ es) (hs : seen.contains t.2.2 = false) : updS B k (seen.push t.2.2) es = putE t.1 (updL B k t.1 t.2.1) (updS B k seen es) := by
 unfold updS putE
 rw [List.map_map]
 refine List.map_congr_left (fun u hu => ?_);simp only [Function.comp]
 have hp : (seen.push t.2.2).contains u.2.2 = (seen.contains u.2.2 || u.2.2 == t.2.2) := contains_push _ _ _;by_cases c : u = t
 ·subst c;rw [hp, hs]
  simp
 ·have h1 : u.2.2 ≠ t.2.2 := fun e => c (born_iff hb hu ht e)
  have h2 : u.1 ≠ t.1 := fun e => c (by
   obtain ⟨i, hi, rfl⟩ := List.getElem_of_mem hu;obtain ⟨j, hj, rfl⟩ := List.getElem_of_mem ht;have : i = j := (List.getElem_inj (xs := es.map (·.1)) (h₀ := by simpa using hi) (h₁ := by simpa using hj) hk).1 (by simpa using e);subst this;rfl)
  rw [hp, beq_false_of_ne h1, Bool.or_false]
  by_cases c2 : seen.contains u.2.2 = true
  ·rw [if_pos c2, if_neg h2]
  ·rw [if_neg c2, if_neg h2]
theorem putE_same {es : List Ent} (hk : (es.map (·.1)).Nodup) {t : Ent} (ht : t ∈ es) : putE t.1 t.2.1 es = es := by
 unfold putE
 conv => rhs; rw [← List.map_id es]
 refine List.map_congr_left (fun u hu => ?_);by_cases c : u.1 = t.1
 ·obtain ⟨i, hi, rfl⟩ := List.getElem_of_mem hu;obtain ⟨j, hj, rfl⟩ := List.getElem_of_mem ht;have : i = j := (List.getElem_inj (xs := es.map (·.1)) (h₀ := by simpa using hi) (h₁ := by simpa using hj) hk).1 (by simpa using c);subst this;rw [if_pos rfl]
  rfl
 ·rw [if_neg c]; rfl
theorem lk_map (g : Nat → Int × Int → Int × Int) : ∀ (es : List Ent) (i : Nat), lk (es.map fun t => (t.1, g t.1 t.2.1, t.2.2)) i = (lk es i).map (g i)
 | [], i => rfl
 | e :: es, i => by
  have ih := lk_map g es i;unfold lk at ih ⊢
  rw [List.map_cons, List.find?_cons, List.find?_cons]
  by_cases c : e.1 = i
  ·rw [show (e.1 == i) = true by simpa using c]
   simp [c]
  ·rw [show (e.1 == i) = false by simpa using c]
   exact ih
theorem updS_end {B : List (List Int)} {k : Nat} {seen : Array Nat} {es : List Ent} (h : ∀ t ∈ updS B k seen es, seen.contains t.2.2 = true) : updS B k seen es = es.map fun t => (t.1, updL B k t.1 t.2.1, t.2.2) := by
 unfold updS at h ⊢
 refine List.map_congr_left (fun t ht => ?_);by_cases c : seen.contains t.2.2 = true
 ·rw [if_pos c]
 ·have := h _ (List.mem_map.2 ⟨t, ht, rfl⟩);rw [if_neg c] at this
  exact absurd this c
theorem lk_mem {es : List Ent} (hk : (es.map (·.1)).Nodup) {t : Ent} (ht : t ∈ es) : lk es t.1 = some t.2.1 := by
 rcases find_ents t.1 es 0 with ⟨_, h, _⟩ | ⟨j, u, hu, hk2, h, _⟩
 ·exact absurd rfl (h t ht)
 ·rw [h]
  congr 1
  obtain ⟨i, hi, rfl⟩ := List.getElem_of_mem ht;obtain ⟨hj, rfl⟩ := List.getElem?_eq_some_iff.1 hu;have : i = j := (List.getElem_inj (xs := es.map (·.1)) (h₀ := by simpa using hi) (h₁ := by simpa using hj) hk).1 (by simpa using hk2.symm);subst this;rfl
theorem unseen_push {es : List Ent} {seen : Array Nat} {t : Ent} (ht : t ∈ es) (hs : seen.contains t.2.2 = false) : unseen (seen.push t.2.2) es < unseen seen es := by
 unfold unseen
 have hp : ∀ u : Ent, (seen.push t.2.2).contains u.2.2 = (seen.contains u.2.2 || u.2.2 == t.2.2) := fun u => contains_push _ _ _
 have e : (es.filter fun u => !(seen.push t.2.2).contains u.2.2) = (es.filter fun u => !seen.contains u.2.2).filter fun u => !(u.2.2 == t.2.2) := by
  rw [List.filter_filter]
  refine List.filter_congr (fun u _ => ?_);rw [hp u]
  cases seen.contains u.2.2 <;> cases u.2.2 == t.2.2 <;> rfl
 rw [e]
 refine Nat.lt_of_le_of_ne (List.length_filter_le _ _) (fun h => ?_);have := List.length_filter_eq_length_iff.1 h t (List.mem_filter.2 ⟨ht, by rw [hs]; rfl⟩);simp at this
structure CW (w W : World) (lb tb mb r : Nat) (ad : Addr) (n c : Nat) (pv : Value) (B : List (List Int)) (base : Nat) (es : List Ent) (clock : Nat) (seen : Array Nat) : Prop where
 hl : W.heap[lb]? = some (.cells #[.map (some mb)] 59 (0, 0))
 ht : W.heap[tb]? = some (.cells #[.slice (some ad) n c, pv] 28 (0, 0))
 hS : Kd.S (Kd.slice 3 (Kd.int .i64)) 23 W base (fun k => k ≠ mb) (.slice (some ad) n c) B
 hm : MapL W mb es clock
 hi : IterAt W mb r clock seen
 gw : w.grownBy W (some mb)
 hr : w.heap.size ≤ r
section
variable {w W W1 : World} {lb tb mb r n c base clock : Nat} {ad : Addr} {pv : Value} {B : List (List Int)} {es es1 : List Ent} {seen seen1 : Array Nat}
theorem below_grownBy (hb : Below W.heap.size W W1) : W.grownBy W1 none := ⟨hb.os, hb.tape, hb.output, hb.size, fun i hi _ => hb.block i hi⟩
theorem grown_then (h : w.grownBy W (some mb)) {row : Option Nat} (h2 : W.grownBy W1 row) (hr : ∀ j, row = some j → w.heap.size ≤ j ∨ j = mb) : w.grownBy W1 (some mb) := ⟨h2.os.trans h.os, h2.tape.trans h.tape, h2.output.trans h.output, Nat.le_trans h.size h2.size, fun i hi hne => (h2.block i (Nat.lt_of_lt_of_le hi h.size) (fun e => by
 rcases hr i e.symm with h3 | h3
 ·omega
 ·exact hne (by rw [h3]))).trans (h.block i hi hne)⟩
theorem CW.low (h : CW w W lb tb mb r ad n c pv B base es clock seen) (hb : Below W.heap.size W W1) : CW w W1 lb tb mb r ad n c pv B base es clock seen :=
 ⟨(hb.block _ (blk_lt h.hl)).trans h.hl, (hb.block _ (blk_lt h.ht)).trans h.ht, Kd.S_below h.hS hb, h.hm.grown (below_grownBy hb) (by simp), h.hi.grown (below_grownBy hb) (by simp), grown_then h.gw (below_grownBy hb) (fun j hj => by cases hj), h.hr⟩
theorem S_typed_ne {d : Kd (List Int)} {e : Nat} {ok : Nat → Prop} {v : Value} {xs : List (List Int)} (h : Kd.S d e W base ok v xs) {k : Nat} (hk : ∀ cells t, W.heap[k]? ≠ some (.cells cells t (0, 0))) : Kd.S d e W base (fun j => ok j ∧ j ≠ k) v xs := Kd.S_mono (Kd.S_bound h) (fun j hj => ⟨hj.1, fun e => by
 obtain ⟨_, _, _, q, _, cells, hc⟩ := hj;exact hk cells q (e ▸ hc)⟩)
theorem CW.turn (h : CW w W lb tb mb r ad n c pv B base es clock seen) (hm : MapL W1 mb es clock) (hi : IterAt W1 mb r clock seen1) (hg : W.grownBy W1 (some r)) : CW w W1 lb tb mb r ad n c pv B base es clock seen1 := by
 obtain ⟨c0, _, hit⟩ := h.hi
 have h1 : ∀ k o, W.heap[k]? = some o → (∀ a b s d, o ≠ Obj.mapIter a b s d) → W1.heap[k]? = some o := fun k o hk hn => (hg.block k (blk_lt hk) (fun e => by
  rw [Option.some.inj e, hit] at hk
  exact hn _ _ _ _ (Option.some.inj hk).symm)).trans hk
 exact ⟨h1 _ _ h.hl (fun _ _ _ _ e => by cases e), h1 _ _ h.ht (fun _ _ _ _ e => by cases e), Kd.S_mono (Kd.S_grown (S_typed_ne h.hS (k := r) (fun cells t e => by rw [hit] at e; cases e)) hg (fun k hk e => hk.2 (Option.some.inj e))) (fun k hk => hk.1), hm, hi, grown_then h.gw hg (fun j hj => .inl (by have := Option.some.inj hj; have := h.hr; omega)), h.hr⟩
theorem CW.put (h : CW w W lb tb mb r ad n c pv B base es clock seen) (hm : MapL W1 mb es1 clock) (hg : W.grownBy W1 (some mb)) : CW w W1 lb tb mb r ad n c pv B base es1 clock seen := by
 have h1 : ∀ k o, W.heap[k]? = some o → (∀ a b, o ≠ Obj.map a b) → W1.heap[k]? = some o := fun k o hk hn => (hg.block k (blk_lt hk) (fun e => by
  rw [Option.some.inj e, h.hm.at_] at hk
  exact hn _ _ (Option.some.inj hk).symm)).trans hk
 have hne : r ≠ mb := fun e => by
  obtain ⟨c0, _, hit⟩ := h.hi;rw [e, h.hm.at_] at hit
  cases hit
 exact ⟨h1 _ _ h.hl (fun _ _ e => by cases e), h1 _ _ h.ht (fun _ _ e => by cases e), Kd.S_grown h.hS hg (fun k hk e => hk (Option.some.inj e)), hm, h.hi.grown hg (fun e => hne (Option.some.inj e)), grown_then h.gw hg (fun j hj => .inr (Option.some.inj hj).symm), h.hr⟩
end
set_option maxRecDepth 100000 in
set_option maxHeartbeats 8000000 in
theorem comes_walk (lb tb mb : Nat) (ad : Addr) (n c : Nat) (pv : Value) (B : List (List Int)) (hn : n = B.length) (hn2 : n ≤ 64) (base : Nat) (es : List Ent) (clock k : Nat) (hk : k < n) (hes : ∀ t ∈ es, t.1 < n) (hlen : ∀ b ∈ B, b.length ≤ 100000) (w : World)
  (hl : w.heap[lb]? = some (.cells #[.map (some mb)] 59 (0, 0))) (ht : w.heap[tb]? = some (.cells #[.slice (some ad) n c, pv] 28 (0, 0)))
  (hS : Kd.S (Kd.slice 3 (Kd.int .i64)) 23 w base (fun j => j ≠ mb) (.slice (some ad) n c) B) (hm : MapL w mb es clock) :
  Calls Tryd.prog 32 #[.int .i64 (k : Int), .pointer (some ⟨lb, 0, none⟩), .pointer (some ⟨tb, 0, none⟩)] w fun e w' => e = .returned (.tuple #[]) ∧ ∃ es', MapL w' mb es' clock ∧ (∀ i, lk es' i = if i = k then none else (lk es i).map (updL B k i)) ∧ es'.map (·.1) = (delE k es).map (·.1) ∧ w.grownBy w' (some mb) := by
 have HN := Aside0.mk hn;have HLN := Aside0.mk hlen;have HES := Aside0.mk hes;have hcl : w.cell? ⟨lb, 0, none⟩ = some (.map (some mb)) := (blk_cell hl 0).trans rfl;obtain ⟨w1, hd, hm1, hg1⟩ := link_del (P := Tryd.prog) Tryd.underlying59 Tryd.underlying3 hm k 0;have hne : lb ≠ mb := fun e => by rw [e, hm.at_] at hl; cases hl
 have hnt : tb ≠ mb := fun e => by rw [e, hm.at_] at ht; cases ht
 have hl1 : w1.heap[lb]? = some (.cells #[.map (some mb)] 59 (0, 0)) := (hg1.block _ (blk_lt hl) (fun e => hne (Option.some.inj e))).trans hl;have ht1 : w1.heap[tb]? = some (.cells #[.slice (some ad) n c, pv] 28 (0, 0)) := (hg1.block _ (blk_lt ht) (fun e => hnt (Option.some.inj e))).trans ht;have hS1 := Kd.S_grown hS hg1 (fun j hj e => hj (Option.some.inj e));have hr1 := range_links (P := Tryd.prog) Tryd.underlying59 hm1;have hcl1 : w1.cell? ⟨lb, 0, none⟩ = some (.map (some mb)) := (blk_cell hl1 0).trans rfl;obtain ⟨es0, he0⟩ : ∃ es0, es0 = delE k es := ⟨_, rfl⟩;have HE0 := Aside0.mk he0;rw [← he0] at hm1
 have HM1 := Aside0.mk hm1;have hb2 : Below w1.heap.size w1 (w1.alloc (.mapIter (some mb) clock #[] clock)) := below_alloc (Below.refl _ _) _
 have HC := Aside0.mk (show CW w (w1.alloc (.mapIter (some mb) clock #[] clock)) lb tb mb w1.heap.size ad n c pv B base (updS B k #[] es0) clock #[] from by
  rw [updS_start]
  exact ⟨(hb2.block _ (blk_lt hl1)).trans hl1, (hb2.block _ (blk_lt ht1)).trans ht1, Kd.S_below hS1 hb2, hm1.grown (below_grownBy hb2) (by simp), ⟨clock, Nat.le_refl _, blk_new _ _⟩, grown_then hg1 (below_grownBy hb2) (fun j hj => by cases hj), hg1.size⟩)
 obtain ⟨r, hr⟩ : ∃ r, r = w1.heap.size := ⟨_, rfl⟩;rw [← hr] at HC hr1
 obtain ⟨w2, hw2⟩ : ∃ w2, w2 = w1.alloc (.mapIter (some mb) clock #[] clock) := ⟨_, rfl⟩;rw [← hw2] at HC hr1
 have HD := Aside0.mk hd;have HR := Aside0.mk hr1;have hrw : r = w1.heap.size := hr;clear hd hr1 hm1 hg1 hl ht hS hm hS1 hl1 ht1 hb2 hn hlen hes he0 hr hw2 hrw;go_enter Tryd.func32, Tryd.ntmps32
 go_wp2_with (first | ((with_reducible refine gate_ (.call { callee := .builtin .delete, args := #[.tmp 7, .tmp 8], argTypes := #[59, 3] }) rfl ?_); refine del_event rfl rfl rfl rfl HD.out ?_; clear hcl) | ((with_reducible refine gate_dst (N := 10) rfl ?_); refine range_event rfl rfl rfl HR.out ?_; clear hcl1))
 simp only [Act.put, List.setIfInBounds_toArray, List.set_cons_succ, List.set_cons_zero]
 go_loopg [4] (unseen #[] es0) (fun gg s4 wr => ∃ seen, Aside0 (unseen seen es0 ≤ gg) ∧ Aside0 (CW w wr lb tb mb r ad n c pv B base (updS B k seen es0) clock seen))
 case atStart => exact ⟨#[], ⟨Nat.le_refl _⟩, HC⟩
 case round =>
  obtain ⟨seen, HG, HW⟩ := hrel;rcases iter_next (P := Tryd.prog) HW.out.hm HW.out.hi 0 with ⟨hall, hrun⟩ | ⟨⟨i, ⟨l1, l2⟩, b⟩, hmem, hs, w3, hrun, hm3, hi3, hg3, hen⟩
  ·have HRUN := Aside0.mk hrun;have HALL := Aside0.mk hall;clear hrun hall;go_wp2_with ((with_reducible refine gate_dst (N := 11) rfl ?_); refine next_event rfl rfl rfl HRUN.out ?_)
   go_end0
   refine ⟨rfl, _, HW.out.hm, fun j => ?_, ?_, HW.out.gw⟩
   ·rw [updS_end HALL.out, lk_map, HE0.out]
    unfold delE
    rw [lk_filter]
    by_cases q : j = k
    ·rw [if_pos q, if_pos q]; rfl
    ·rw [if_neg q, if_neg q]
   ·rw [updS_keys, HE0.out]
  ·have HRUN := Aside0.mk hrun;have HEN := Aside0.mk hen;unfold linkV at HRUN HEN
   have H3 := Aside0.mk (HW.out.turn hm3 hi3 hg3);have HMEM := Aside0.mk hmem;have HSN := Aside0.mk hs;clear hrun hm3 hi3 hg3 hen hmem hs;go_wp2_with (first | ((with_reducible refine gate_dst (N := 11) rfl ?_); refine next_event rfl rfl rfl HRUN.out ?_) | ((with_reducible refine gate_dst (N := 13) rfl ?_); refine entry_event rfl rfl rfl HEN.out ?_))
   have HB4 := Aside0.mk (below_drew (below_alloc (Below.refl w3.heap.size w3) (.cells #[.int .i64 l1, .int .i64 l2] 61 (0, 0))));have H5 := Aside0.mk (H3.out.low HB4.out);have HX5 := Aside0.mk (show (w3.alloc (.cells #[.int .i64 l1, .int .i64 l2] 61 (0, 0))).drew.heap[w3.heap.size]? = some (.cells #[.int .i64 l1, .int .i64 l2] 61 (0, 0)) from blk_new w3 _);obtain ⟨xb, hxb⟩ : ∃ xb, xb = w3.heap.size := ⟨_, rfl⟩;rw [← hxb] at HX5 ⊢
   have hin : i < B.length := by
    have h1 : i ∈ (updS B k seen es0).map (·.1) := List.mem_map.2 ⟨_, HMEM.out, rfl⟩;rw [updS_keys, HE0.out] at h1
    obtain ⟨t, ht, e⟩ := List.mem_map.1 h1;have := HES.out t (List.mem_filter.1 ht).1;rw [← HN.out]
    omega
   have hkn : k < B.length := by rw [← HN.out]; exact hk
   have hC5 : (Kd.slice 3 (Kd.int .i64)).C (w3.alloc (.cells #[.int .i64 l1, .int .i64 l2] 61 (0, 0))).drew (some ad) B.length B := (Kd.S_reads' H5.out.hS).2.2;have hct := (blk_cell H5.out.ht 0).trans (show #[.slice (some ad) n c, pv][0]? = some (.slice (some ad) n c) from rfl);obtain ⟨ad1, v1, xi, e1, hxi, hxim, hki, hci⟩ := elem_one (d := Kd.slice 3 (Kd.int .i64)) rfl hC5 (Below.refl _ _) i hin;obtain ⟨ad2, v2, xk, e2, hxk, hxkm, hkk, hck⟩ := elem_one (d := Kd.slice 3 (Kd.int .i64)) rfl hC5 (Below.refl _ _) k hkn;obtain rfl : ad = ad1 := by injection e1
   obtain rfl : ad = ad2 := by injection e2
   obtain ⟨Ai, ci, ei, hli, hCi⟩ := hki;obtain ⟨Ak, ck, ek, hlk, hCk⟩ := hkk;obtain rfl : v1 = .slice Ai xi.length ci := by injection ei
   obtain rfl : v2 = .slice Ak xk.length ck := by injection ek
   have hgi : B.getD i [] = xi := by rw [List.getD_eq_getElem?_getD, hxi]; rfl
   have hgk : B.getD k [] = xk := by rw [List.getD_eq_getElem?_getD, hxk]; rfl
   obtain ⟨mm, hmm⟩ : ∃ mm, mm = mergeL false true false xi xk := ⟨_, rfl⟩;have HMM := Aside0.mk (show meetN B i k = (mm.length : Int) by unfold meetN; rw [hgi, hgk, hmm]);have HMC := Aside0.mk (tuple_Meet.calls Ai ci xi Ak ck xk mm _ hCi hli hCk hlk (by rw [hmm]; exact meet_some xi xk (by have h1 := HLN.out xi hxim; have h2 := HLN.out xk hxkm; omega)));have hi64 : (i : Int) < (n : Int) := by have := HN.out; omega
   have hk64 : (k : Int) < (n : Int) := by omega
   have hi0 : (0 : Int) ≤ (i : Int) := by omega
   have hk0 : (0 : Int) ≤ (k : Int) := by omega
   clear e1 e2 ei ek hxi hxk hxim hxkm hgi hgk hmm hCi hCk hC5 hli hlk hxb;refine start_ (n := 13) (S := fun w' => w'.cell? ⟨tb, 0, none⟩ = some (.slice (some ad) n c) ∧ w'.cell? (ad.add i) = some (.slice Ai xi.length ci) ∧ w'.cell? (ad.add k) = some (.slice Ak xk.length ck)) (ds := []) (bs 13 0) (by kernel_rfl) rfl rfl ⟨hct, hci, hck⟩ (fun hHeld => ?_);generalize (w3.alloc (.cells #[.int .i64 l1, .int .i64 l2] 61 (0, 0))).drew = w5 at *
   refine pure_ (i := 0) (N := some 16) (v := ?_) (a' := ?_) (bs 13 1) rfl rfl (by kernel_rfl) (fun _ _ _ h => h) (Or.inl ⟨by rfl, ?_⟩) ?_ ?_;rotate_left; (intro w'; go_simp; with_reducible rfl); rotate_left; (simp only [Act.put, List.setIfInBounds_toArray, List.set_cons_zero, List.set_cons_succ, i64_w, i32_w]; rfl)
   refine pure_ (i := 2) (N := some 18) (v := ?_) (a' := ?_) (bs 13 5) rfl rfl (by kernel_rfl) (fun _ _ _ h => h) (Or.inl ⟨by rfl, ?_⟩) ?_ ?_;rotate_left; (intro w'; go_simp; with_reducible rfl); rotate_left; (simp only [Act.put, List.setIfInBounds_toArray, List.set_cons_zero, List.set_cons_succ, i64_w, i32_w]; rfl)
   refine pure_ (i := 5) (N := some 21) (v := ?_) (a' := ?_) (bs 13 37) rfl rfl (by kernel_rfl) (fun _ _ _ h => h) (Or.inl ⟨by rfl, ?_⟩) ?_ ?_;rotate_left; (intro w'; go_simp; with_reducible rfl); rotate_left; (simp only [Act.put, List.setIfInBounds_toArray, List.set_cons_zero, List.set_cons_succ, i64_w, i32_w]; rfl)
   refine pure_ (i := 7) (N := some 23) (v := ?_) (a' := ?_) (bs 13 165) rfl rfl (by kernel_rfl) (fun _ _ _ h => h) (Or.inl ⟨by rfl, ?_⟩) ?_ ?_;rotate_left; (intro w'; go_simp; with_reducible rfl); rotate_left; (simp only [Act.put, List.setIfInBounds_toArray, List.set_cons_zero, List.set_cons_succ, i64_w, i32_w]; rfl)
   refine take_ (i := 1) (N := some 17) (v := ?_) (a' := ?_) (bs 13 167) rfl rfl (by kernel_rfl) (fun _ _ _ h => h) (Or.inl ⟨by rfl, ?_⟩) hHeld ?_ ?_;rotate_left
   ·rintro w' ⟨s0, s1, s2⟩
    go_simp
    with_reducible rfl
   rotate_left; (simp only [Act.put, List.setIfInBounds_toArray, List.set_cons_zero, List.set_cons_succ, i64_w, i32_w]; rfl)
   refine pure_ (i := 3) (N := some 19) (v := ?_) (a' := ?_) (bs 13 175) rfl rfl (by kernel_rfl) (fun _ _ _ h => h) (Or.inl ⟨by rfl, ?_⟩) ?_ ?_;rotate_left; (intro w'; go_simp; with_reducible rfl); rotate_left; (simp only [Act.put, List.setIfInBounds_toArray, List.set_cons_zero, List.set_cons_succ, i64_w, i32_w]; rfl)
   refine take_ (i := 4) (N := some 20) (v := ?_) (a' := ?_) (bs 13 191) rfl rfl (by kernel_rfl) (fun _ _ _ h => h) (Or.inl ⟨by rfl, ?_⟩) hHeld ?_ ?_;rotate_left
   ·rintro w' ⟨s0, s1, s2⟩
    go_simp
    with_reducible rfl
   rotate_left; (simp only [Act.put, List.setIfInBounds_toArray, List.set_cons_zero, List.set_cons_succ, i64_w, i32_w]; rfl)
   refine take_ (i := 6) (N := some 22) (v := ?_) (a' := ?_) (bs 13 255) rfl rfl (by kernel_rfl) (fun _ _ _ h => h) (Or.inl ⟨by rfl, ?_⟩) hHeld ?_ ?_;rotate_left
   ·rintro w' ⟨s0, s1, s2⟩
    go_simp
    with_reducible rfl
   rotate_left; (simp only [Act.put, List.setIfInBounds_toArray, List.set_cons_zero, List.set_cons_succ, i64_w, i32_w]; rfl)
   refine pure_ (i := 8) (N := some 24) (v := ?_) (a' := ?_) (bs 13 511) rfl rfl (by kernel_rfl) (fun _ _ _ h => h) (Or.inl ⟨by rfl, ?_⟩) ?_ ?_;rotate_left; (intro w'; go_simp; with_reducible rfl); rotate_left; (simp only [Act.put, List.setIfInBounds_toArray, List.set_cons_zero, List.set_cons_succ, i64_w, i32_w]; rfl)
   refine take_ (i := 9) (N := some 25) (v := ?_) (a' := ?_) (bs 13 1023) rfl rfl (by kernel_rfl) (fun _ _ _ h => h) (Or.inl ⟨by rfl, ?_⟩) hHeld ?_ ?_;rotate_left
   ·rintro w' ⟨s0, s1, s2⟩
    go_simp
    with_reducible rfl
   rotate_left; (simp only [Act.put, List.setIfInBounds_toArray, List.set_cons_zero, List.set_cons_succ, i64_w, i32_w]; rfl)
   refine one_ (i := 10) (N := some 26) (bs 13 2047) rfl rfl (by kernel_rfl) (by decide) (fun K hK => ?_);refine goes_ Tryd.func33 (by kernel_rfl) rfl #[.slice Ai xi.length ci, .slice Ak xk.length ck] (by rfl) rfl rfl (by simp only [List.map_toArray, List.map_cons, List.map_nil]; rfl) ?_;refine HMC.out.mono ?_;rintro e w6 ⟨v6, rfl, ho, hb⟩
   obtain ⟨A6, c6, rfl⟩ := Kd.R_slice ho;have H6 := Aside0.mk (H5.out.low hb);have HX6 := Aside0.mk ((hb.block _ (blk_lt HX5.out)).trans HX5.out);refine ⟨_, rfl, ?_⟩;refine hK.out _ _ ⟨(hb.cell (World.block_lt_of_cell? _ _ hHeld.1)).trans hHeld.1, (hb.cell (World.block_lt_of_cell? _ _ hHeld.2.1)).trans hHeld.2.1, (hb.cell (World.block_lt_of_cell? _ _ hHeld.2.2)).trans hHeld.2.2⟩ (fun hHeld => ?_);clear hK K;refine norm_ (a' := ?_) ?_ ?_;rotate_left
   ·show Act.put _ (some 26) _ = _
    simp only [Act.put, List.setIfInBounds_toArray, List.set_cons_zero, List.set_cons_succ, i64_w, i32_w]
    rfl
   refine pure_ (i := 11) (N := some 27) (v := ?_) (a' := ?_) (bs 13 4095) rfl rfl (by kernel_rfl) (fun _ _ _ h => h) (Or.inl ⟨by rfl, ?_⟩) ?_ ?_;rotate_left; (intro w'; go_simp; with_reducible rfl); rotate_left; (simp only [Act.put, List.setIfInBounds_toArray, List.set_cons_zero, List.set_cons_succ, i64_w, i32_w]; rfl)
   refine pure_ (i := 12) (N := some 6) (v := ?_) (a' := ?_) (bs 13 8191) rfl rfl (by kernel_rfl) (fun _ _ _ h => h) (Or.inl ⟨by rfl, ?_⟩) ?_ ?_;rotate_left; (intro w'; go_simp; with_reducible rfl); rotate_left; (simp only [Act.put, List.setIfInBounds_toArray, List.set_cons_zero, List.set_cons_succ, i64_w, i32_w]; rfl)
   refine done_ (by kernel_rfl) ?_;have hx0 : w6.cell? ⟨xb, 0, none⟩ = some (.int .i64 l1) := (blk_cell HX6.out 0).trans rfl;have hx1 : w6.cell? ⟨xb, 1, none⟩ = some (.int .i64 l2) := (blk_cell HX6.out 1).trans rfl;have hcl6 : w6.cell? ⟨lb, 0, none⟩ = some (.map (some mb)) := (blk_cell H6.out.hl 0).trans rfl;have hkeys := H6.out.hm.keys;have hlk := lk_mem hkeys HMEM.out;have hm0 := updS_mem HMEM.out HSN.out;have hpush := updS_push (B := B) (k := k) HM1.out.keys HM1.out.born hm0 HSN.out;have HLESS := Aside0.mk (unseen_push hm0 HSN.out);simp only at hlk hpush
   clear ho hb hct hci hck hHeld HMC;by_cases c1 : l1 < (mm.length : Int)
   ·have d1 : decide (l1 < (mm.length : Int)) = true := decide_eq_true c1;have hupd : updL B k i (l1, l2) = ((mm.length : Int), (k : Int)) := by unfold updL; rw [HMM.out, if_pos (.inl c1)]
    obtain ⟨w7, hput, hm7, hg7⟩ := link_put (P := Tryd.prog) Tryd.underlying59 Tryd.underlying3 H6.out.hm i ((mm.length : Int), (k : Int)) (by rw [hlk]; rfl);have HP := Aside0.mk (show (Instr.mapUpdate 59 (.map (some mb)) (.int .i64 (i : Int)) (.agg #[.int .i64 (mm.length : Int), .int .i64 (k : Int)])).run Tryd.prog w6 = .ok () w7 from hput);have H7 := Aside0.mk (show CW w w7 lb tb mb r ad n c pv B base (updS B k (seen.push b) es0) clock (seen.push b) from by rw [hpush, hupd]; exact H6.out.put hm7 hg7);clear hput hm7 hg7 hlk hm0 hpush hkeys hupd;go_wp2_with (refine lput_event rfl rfl rfl rfl rfl rfl HP.out ?_; clear hcl6 hx0 hx1)
    go_roundg (unseen (seen.push b) es0)
    case measure => have := HLESS.out; have := HG.out; omega
    case rel => exact ⟨seen.push b, ⟨Nat.le_refl _⟩, H7⟩
   ·have d1 : decide (l1 < (mm.length : Int)) = false := decide_eq_false c1;by_cases c2 : (mm.length : Int) = l1
    ·have d2 : ((mm.length : Int) == l1) = true := beq_iff_eq.mpr c2;by_cases c3 : (k : Int) < l2
     ·have d3 : decide ((k : Int) < l2) = true := decide_eq_true c3;have hupd : updL B k i (l1, l2) = ((mm.length : Int), (k : Int)) := by unfold updL; rw [HMM.out, if_pos (.inr ⟨c2, c3⟩)]
      obtain ⟨w7, hput, hm7, hg7⟩ := link_put (P := Tryd.prog) Tryd.underlying59 Tryd.underlying3 H6.out.hm i ((mm.length : Int), (k : Int)) (by rw [hlk]; rfl);clear c2;have HP := Aside0.mk (show (Instr.mapUpdate 59 (.map (some mb)) (.int .i64 (i : Int)) (.agg #[.int .i64 (mm.length : Int), .int .i64 (k : Int)])).run Tryd.prog w6 = .ok () w7 from hput);have H7 := Aside0.mk (show CW w w7 lb tb mb r ad n c pv B base (updS B k (seen.push b) es0) clock (seen.push b) from by rw [hpush, hupd]; exact H6.out.put hm7 hg7);clear hput hm7 hg7 hlk hm0 hpush hkeys hupd;go_wp2_with (refine lput_event rfl rfl rfl rfl rfl rfl HP.out ?_; clear hcl6 hx0 hx1)
      go_roundg (unseen (seen.push b) es0)
      case measure => have := HLESS.out; have := HG.out; omega
      case rel => exact ⟨seen.push b, ⟨Nat.le_refl _⟩, H7⟩
     ·have d3 : decide ((k : Int) < l2) = false := decide_eq_false c3;have hupd : updL B k i (l1, l2) = (l1, l2) := by unfold updL; rw [HMM.out, if_neg (by intro h; rcases h with h | h; exact c1 h; exact c3 h.2)]
      clear c2;have H7 := Aside0.mk (show CW w w6 lb tb mb r ad n c pv B base (updS B k (seen.push b) es0) clock (seen.push b) from by rw [hpush, hupd, putE_same hkeys HMEM.out]; exact H6.out);clear hlk hm0 hpush hkeys hupd;go_wp2
      go_roundg (unseen (seen.push b) es0)
      case measure => have := HLESS.out; have := HG.out; omega
      case rel => exact ⟨seen.push b, ⟨Nat.le_refl _⟩, H7⟩
    ·have d2 : ((mm.length : Int) == l1) = false := beq_false_of_ne c2;have hupd : updL B k i (l1, l2) = (l1, l2) := by unfold updL; rw [HMM.out, if_neg (by intro h; rcases h with h | h; exact c1 h; exact c2 h.1)]
     have H7 := Aside0.mk (show CW w w6 lb tb mb r ad n c pv B base (updS B k (seen.push b) es0) clock (seen.push b) from by rw [hpush, hupd, putE_same hkeys HMEM.out]; exact H6.out);clear hlk hm0 hpush hkeys hupd;go_wp2
     go_roundg (unseen (seen.push b) es0)
     case measure => have := HLESS.out; have := HG.out; omega
     case rel => exact ⟨seen.push b, ⟨Nat.le_refl _⟩, H7⟩
def comesL (B : List (List Int)) (k : Nat) (L : Nat → Option (Int × Int)) : Nat → Option (Int × Int) := fun i => if i = k then none else (L i).map (updL B k i)
def bestGo (L : Nat → Option (Int × Int)) : Nat → Nat → Int → Int
 | 0, _, b => b
 | d + 1, i, b => bestGo L d (i + 1) (match L i with
  | some l => if b = -1 ∨ l.1 > ((L b.toNat).getD (0, 0)).1 then (i : Int) else b
  | none => b)
def primGo (B : List (List Int)) : Nat → (Nat → Option (Int × Int)) → Int → List Int → List Int
 | 0, _, _, par => par
 | d + 1, L, nx, par => primGo B d (comesL B nx.toNat L) (bestGo (comesL B nx.toNat L) B.length 0 (-1)) (par.set nx.toNat ((L nx.toNat).getD (0, 0)).2)
def initL (m : Nat) : Nat → Option (Int × Int) := fun i => if i < m then some (-1, -1) else none
def primL (B : List (List Int)) : List Int := primGo B B.length (initL B.length) 0 (List.replicate B.length (-1))
def decomp_Build.f (ws l : List Int) : Option (List (List Int) × List Int × Int) := (fill_Bags.f ws l).bind fun r => if r.2 = 0 then (if (ownL [] r.1).length ≤ 64 ∧ r.1.length ≤ 100000 ∧ ∀ b ∈ r.1, b.length ≤ 100000 then some (ownL [] r.1, primL (ownL [] r.1), 0) else none) else some ([], [], r.2)
theorem ownL_sub : ∀ (l seen : List (List Int)), ∀ b ∈ ownL seen l, b ∈ l
 | [], _, b, hb => by cases hb
 | c :: l, seen, b, hb => by
  unfold ownL at hb
  split at hb
  ·exact List.mem_cons_of_mem _ (ownL_sub l _ b hb)
  ·rcases List.mem_cons.1 hb with rfl | hb
   ·exact List.mem_cons_self
   ·exact List.mem_cons_of_mem _ (ownL_sub l _ b hb)
structure BW (w W : World) (lb tb mb rb : Nat) (Ao : Option Addr) (m co : Nat) (PA : Option Addr) (pc : Nat) (B : List (List Int)) (par : List Int) (es : List Ent) (clock : Nat) : Prop where
 hl : W.heap[lb]? = some (.cells #[.map (some mb)] 59 (0, 0))
 ht : W.heap[tb]? = some (.cells #[.slice Ao m co, .slice PA m pc] 28 (0, 0))
 hrb : W.heap[rb]? = some (.cells #[.slice none 0 0, .slice none 0 0] 28 (0, 0))
 hS : Kd.S (Kd.slice 3 (Kd.int .i64)) 23 W w.heap.size (fun j => some j ≠ (Value.slice PA m pc).ownBlock) (.slice Ao m co) B
 hP : Kd.R (Kd.int .i64) 3 W w.heap.size (fun _ => True) (.slice PA m pc) par
 hm : MapL W mb es clock
 bel : Below w.heap.size w W
 lo : w.heap.size ≤ lb ∧ w.heap.size ≤ tb ∧ w.heap.size ≤ mb ∧ w.heap.size ≤ rb ∧ tb ≠ rb
section
variable {w W W1 : World} {lb tb mb rb m co pc clock clock1 : Nat} {Ao PA : Option Addr} {B : List (List Int)} {par : List Int} {es es1 : List Ent}
theorem BW.low (h : BW w W lb tb mb rb Ao m co PA pc B par es clock) (hb : Below W.heap.size W W1) : BW w W1 lb tb mb rb Ao m co PA pc B par es clock :=
 ⟨(hb.block _ (blk_lt h.hl)).trans h.hl, (hb.block _ (blk_lt h.ht)).trans h.ht, (hb.block _ (blk_lt h.hrb)).trans h.hrb, Kd.S_below h.hS hb, Kd.R_below h.hP hb, h.hm.grown (below_grownBy hb) (by simp), below_then h.bel h.bel.size hb, h.lo⟩
theorem R_typed_ne {e : Nat} {ok : Nat → Prop} {v : Value} {xs : List Int} (base : Nat) (h : Kd.R (Kd.int .i64) e W base ok v xs) {k : Nat} (hk : ∀ cells t, W.heap[k]? ≠ some (.cells cells t (0, 0))) : Kd.R (Kd.int .i64) e W base (fun j => ok j ∧ j ≠ k) v xs := Kd.R_mono (Kd.R_bound h) (fun j hj => ⟨hj.1, fun e => by
 obtain ⟨_, _, _, q, _, cells, hc⟩ := hj;exact hk cells q (e ▸ hc)⟩)
theorem BW.map (h : BW w W lb tb mb rb Ao m co PA pc B par es clock) (hm : MapL W1 mb es1 clock1) (hg : W.grownBy W1 (some mb)) : BW w W1 lb tb mb rb Ao m co PA pc B par es1 clock1 := by
 have h1 : ∀ k o, W.heap[k]? = some o → (∀ a b, o ≠ Obj.map a b) → W1.heap[k]? = some o := fun k o hk hn => (hg.block k (blk_lt hk) (fun e => by
  rw [Option.some.inj e, h.hm.at_] at hk
  exact hn _ _ (Option.some.inj hk).symm)).trans hk
 have hmn : ∀ cells t, W.heap[mb]? ≠ some (.cells cells t (0, 0)) := fun cells t e => by rw [h.hm.at_] at e; cases e
 exact ⟨h1 _ _ h.hl (fun _ _ e => by cases e), h1 _ _ h.ht (fun _ _ e => by cases e), h1 _ _ h.hrb (fun _ _ e => by cases e), Kd.S_mono (Kd.S_grown (S_typed_ne h.hS hmn) hg (fun k hk e => hk.2 (Option.some.inj e))) (fun k hk => hk.1), Kd.R_mono (Kd.R_step (R_typed_ne _ h.hP hmn) (fun k hk hlt => hg.block k hlt (fun e => hk.2 (Option.some.inj e)))) (fun _ _ => trivial), hm, h.bel.grown hg h.bel.size (fun j hj => by have := Option.some.inj hj; have := h.lo; omega), h.lo⟩
theorem BW.par_put (h : BW w W lb tb mb rb Ao m co PA pc B par es clock) (i : Int) (x : Int) {g : Nat} (hg : PA = some ⟨g, 0, none⟩) : BW w (W.setCell ⟨g, i.toNat, none⟩ (.int .i64 x)) lb tb mb rb Ao m co PA pc B (par.set i.toNat x) es clock := by
 subst hg;obtain ⟨hR, hgr⟩ := Kd.R_putg (enc := Value.int .i64) (h1 := fun _ => rfl) h.hP i x;obtain ⟨cells, hc⟩ := Kd.R_typed h.hP g rfl;have hb := Kd.R_base h.hP g rfl
 have hne : ∀ k o, W.heap[k]? = some o → (∀ c, o ≠ Obj.cells c 3 (0, 0)) → (W.setCell ⟨g, i.toNat, none⟩ (.int .i64 x)).heap[k]? = some o := fun k o hk hn => (hgr.block k (blk_lt hk) (fun e => by
  rw [Option.some.inj e, hc] at hk
  exact hn _ (Option.some.inj hk).symm)).trans hk
 exact ⟨hne _ _ h.hl (fun _ e => by injection e with _ e; cases e), hne _ _ h.ht (fun _ e => by injection e with _ e; cases e), hne _ _ h.hrb (fun _ e => by injection e with _ e; cases e), Kd.S_grown h.hS hgr (fun k hk e => hk e), hR, h.hm.grown hgr (fun e => by
  rw [← Option.some.inj e, h.hm.at_] at hc
  cases hc), h.bel.grown hgr h.bel.size (fun j hj => by have := Option.some.inj hj; omega), h.lo⟩
end
theorem link_len {P : Program} {W : World} {mb clock : Nat} {es : List Ent} {mt kt et : TypeId} (hm : P.underlying mt = some (.map kt et)) (h : MapL W mb es clock) (ty : TypeId) : (Builtin.len_ #[mt] ty #[.map (some mb)]).run P W = .ok (.int .i64 (es.length : Int)) W := by
 simp [Builtin.len_, run_underlying hm, Go.MapKept.run_getObj_map h.at_, Result.andThen, goInt]
theorem llen_event {P : Program} {ops : Array Oper} {rest : List Oper} {o : Oper} {a : Act} {Q : Exit → Act → World → Prop} {W : World} (hgd : o.guard = none) {m : Operand} {t : TypeId} (ho : o.op = .call { callee := .builtin .len, args := #[m], argTypes := #[t] }) {mv r : Value} (hm : a.eval m = mv) (hr : (Builtin.len_ #[t] o.type #[mv]).run P W = .ok r W) (h : wpList P ops Q rest (a.put o.dst r) W) : wpList P ops Q (o :: rest) a W := by
 refine wpList_plain hgd fun K hK => ?_
 unfold Oper.wp
 simp [execOp, ho, resolve, invoke, builtin, hm, hr, Result.andThen]
 exact hK _ _ h
def initE (k : Nat) : List Ent := (List.range k).map fun i => (i, ((-1 : Int), (-1 : Int)), i)
theorem initE_succ (k : Nat) : initE (k + 1) = initE k ++ [(k, ((-1 : Int), (-1 : Int)), k)] := by unfold initE; rw [List.range_succ, List.map_append]; rfl
theorem initE_lt {k : Nat} : ∀ t ∈ initE k, t.1 < k := fun t ht => by
 obtain ⟨i, hi, rfl⟩ := List.mem_map.1 ht;exact List.mem_range.1 hi
theorem lk_append (es fs : List Ent) (i : Nat) : lk (es ++ fs) i = (lk es i).or (lk fs i) := by
 unfold lk
 rw [List.find?_append]
 cases es.find? fun t => t.1 == i <;> rfl
theorem lk_init : ∀ (k i : Nat), lk (initE k) i = initL k i
 | 0, i => rfl
 | k + 1, i => by
  rw [initE_succ, lk_append, lk_init k i]
  unfold initL lk
  by_cases c : i < k
  ·rw [if_pos c, if_pos (by omega)]; rfl
  ·rw [if_neg c]
   by_cases c2 : i = k
   ·rw [if_pos (by omega), List.find?_cons_of_pos (by simp [c2])]; rfl
   ·rw [if_neg (by omega), List.find?_cons_of_neg (by simp only [beq_iff_eq]; omega)]; rfl
def okL (L : Nat → Option (Int × Int)) (b : Int) : Prop := 0 ≤ b ∧ (L b.toNat).isSome = true
def stepB (L : Nat → Option (Int × Int)) (i : Nat) (b : Int) : Int := match L i with
 | some l => if b = -1 ∨ l.1 > ((L b.toNat).getD (0, 0)).1 then (i : Int) else b
 | none => b
theorem bestGo_step (L : Nat → Option (Int × Int)) (d i : Nat) (b : Int) : bestGo L (d + 1) i b = bestGo L d (i + 1) (stepB L i b) := rfl
theorem stepB_ok {L : Nat → Option (Int × Int)} {i : Nat} {b : Int} (h : okL L b) : okL L (stepB L i b) := by
 unfold stepB
 cases hi : L i with
 | none => exact h
 | some l =>
  simp only
  split
  ·exact ⟨by omega, by rw [Int.toNat_natCast, hi]; rfl⟩
  ·exact h
theorem bestGo_ok {L : Nat → Option (Int × Int)} : ∀ (d i : Nat) (b : Int), (okL L b ∨ (b = -1 ∧ ∃ j, i ≤ j ∧ j < i + d ∧ (L j).isSome = true)) → okL L (bestGo L d i b)
 | 0, i, b, h => by
  rcases h with h | ⟨_, j, h1, h2, _⟩
  ·exact h
  ·omega
 | d + 1, i, b, h => by
  rw [bestGo_step]
  refine bestGo_ok d (i + 1) _ ?_;rcases h with h | ⟨rfl, j, h1, h2, h3⟩
  ·exact .inl (stepB_ok h)
  ·by_cases c : j = i
   ·subst c;obtain ⟨l, hl⟩ := Option.isSome_iff_exists.1 h3;refine .inl ?_;unfold stepB
    rw [hl]
    simp only [true_or, if_true]
    exact ⟨by omega, by rw [Int.toNat_natCast, hl]; rfl⟩
   ·cases hi : L i with
    | none =>
     refine .inr ⟨by unfold stepB; rw [hi], j, by omega, by omega, h3⟩
    | some l =>
     refine .inl ?_;unfold stepB
     rw [hi]
     simp only [true_or, if_true]
     exact ⟨by omega, by rw [Int.toNat_natCast, hi]; rfl⟩
theorem lk_some_in {es : List Ent} {i : Nat} (h : (lk es i).isSome = true) : ∃ t ∈ es, t.1 = i := by
 rcases find_ents i es 0 with ⟨h1, _, _⟩ | ⟨j, t, ht, hk, _, _⟩
 ·rw [h1] at h; cases h
 ·exact ⟨t, List.mem_of_getElem? ht, hk⟩
theorem del_len {es : List Ent} (hd : (es.map (·.1)).Nodup) {k : Nat} (h : (lk es k).isSome = true) : (delE k es).length + 1 = es.length := by
 rcases find_ents k es 0 with ⟨h1, _, _⟩ | ⟨j, t, ht, hk, _, _⟩
 ·rw [h1] at h; cases h
 ·have e : delE k es = es.eraseIdx j := (erase_at k es j t hd ht hk).symm;have hj := (List.getElem?_eq_some_iff.1 ht).1;rw [e, List.length_eraseIdx_of_lt hj]
  omega
theorem link_zero (w : World) : (zeroValue 61).run Tryd.prog w = .ok (linkV (0, 0)) w := Tryd.zeroValue61 w
set_option maxRecDepth 100000 in
set_option maxHeartbeats 8000000 in
theorem build_walk (A0 : Option Addr) (c0 : Nat) (l0 : List Int) (A1 : Option Addr) (c1 : Nat) (l1 : List Int) (r1 : List (List Int)) (r2 : List Int) (r3 : Int) (w : World) (hTb : Tab64 w) (hr0 : Kd.C (Kd.int .u64) w A0 l0.length l0) (hc0 : l0.length ≤ c0) (hr1 : Kd.C (Kd.int .i64) w A1 l1.length l1) (hc1 : l1.length ≤ c1) (h : decomp_Build.f l0 l1 = some (r1, r2, r3)) :
  Calls Tryd.prog 12 #[.agg #[.slice A0 l0.length c0], .slice A1 l1.length c1] w fun e w' => ∃ (v0_ v1_ : Value), e = .returned (.tuple #[.agg #[v0_, v1_], .int .i64 r3]) ∧ Kd.S (Kd.slice 3 (Kd.int .i64)) 23 w' w.heap.size (fun k_ => some k_ ≠ v1_.ownBlock) v0_ r1 ∧ Kd.R (Kd.int .i64) 3 w' w.heap.size (fun _ => True) v1_ r2 ∧ Below w.heap.size w w' := by
 have hfd_1 : ∀ (a b : Value) (w : World), (Instr.field 61 (.agg #[a, b]) 1).run Tryd.prog w = .ok b w := fun _ _ _ => by first | rfl | kernel_rfl
 have hfd_0 : ∀ (a b : Value) (w : World), (Instr.field 61 (.agg #[a, b]) 0).run Tryd.prog w = .ok a w := fun _ _ _ => by first | rfl | kernel_rfl
 unfold decomp_Build.f at h
 obtain ⟨⟨bg, er⟩, hq, h⟩ := Option.bind_eq_some_iff.1 h;dsimp only at h
 have HT := Aside0.mk hTb;have HBG := Aside0.mk (fun (W : World) (hW : Below w.heap.size w W) => fill_Bags.calls A0 c0 l0 A1 c1 l1 bg er W (tab_below hTb hW) (Kd.C_below hr0 hW) hc0 (Kd.C_below hr1 hW) hc1 hq);obtain ⟨n0, hn0⟩ : ∃ n, n = l0.length := ⟨_, rfl⟩;obtain ⟨n1, hn1⟩ : ∃ n, n = l1.length := ⟨_, rfl⟩;rw [← hn0, ← hn1] at HBG ⊢
 clear hTb hr0 hr1 hc0 hc1 hq hn0 hn1;by_cases hre : er = 0
 ·rw [if_pos hre] at h
  by_cases hcond : (ownL [] bg).length ≤ 64 ∧ bg.length ≤ 100000 ∧ ∀ b ∈ bg, b.length ≤ 100000
  ·rw [if_pos hcond] at h
   obtain ⟨B, hB⟩ : ∃ B, B = ownL [] bg := ⟨_, rfl⟩;rw [← hB] at h hcond
   obtain ⟨rfl, rfl, rfl⟩ : B = r1 ∧ primL B = r2 ∧ 0 = r3 := by simpa using h
   have d0 : (er != 0) = false := bne_eq_false_iff_eq.mpr hre;have HCO := Aside0.mk hcond;have HOW := Aside0.mk hB;have HBL := Aside0.mk (show ∀ b ∈ B, b.length ≤ 100000 from fun b hb => hcond.2.2 b (ownL_sub bg [] b (hB ▸ hb)));clear h hcond hB hre;go_enter Tryd.func12, Tryd.ntmps12
   go_upto_region 5 with (first
    | ((with_reducible refine gate_dst (N := 2) rfl ?_); refine box_event ?hg (N := 2) ?hd (cs := #[.slice A0 n0 c0]) (t := 34) ?hr ?_; (case hd => rfl); (case hg => rfl); (case hr => first | (go_simp; done) | (go_simp; rfl)); intro gb hgb w1 hbox hb; have HBOX := Aside0.mk hbox; have HB1 := Aside0.mk hb; have hcga : ∀ o, (w1.alloc o).cell? ⟨gb, 0, none⟩ = some (.slice A0 n0 c0) := fun o => (blk_cell (cs := #[.slice A0 n0 c0]) (t := 34) ((Below.heap_alloc w1 o gb (blk_lt HBOX.out)).trans HBOX.out) 0).trans rfl; clear hgb hbox hb)
    | (go_at_call 29; refine (HBG.out _ (below_alloc HB1.out _)).mono ?_; rintro e w2 ⟨v2, rfl, ho, hb⟩; have HB2 := Aside0.mk (below_then (below_alloc HB1.out (.cells #[.slice none 0 0, .slice none 0 0] 28)) (by have := HB1.out.size; simp; omega) hb); have HRB2 := Aside0.mk ((hb.block w1.heap.size (by simp)).trans (blk_new w1 (.cells #[.slice none 0 0, .slice none 0 0] 28))); have HS2 := Aside0.mk (Kd.S_lower ho (by have := HB1.out.size; simp; omega : w.heap.size ≤ _)); obtain ⟨Ab, cb, eb⟩ := Kd.R_slice (Kd.S_R HS2.out); subst eb; clear ho hb hcga)
    | (go_at_call 30; refine (own_walk w.heap.size Ab cb bg w2 HS2.out HB2.out.size HCO.out.2.1 HCO.out.2.2).mono ?_; rintro e w3 ⟨v3, rfl, ho, hb⟩; rw [← HOW.out] at ho; have HS3 := Aside0.mk ho; have HB3 := Aside0.mk (below_then HB2.out HB2.out.size hb); have HRB3 := Aside0.mk ((hb.block _ (blk_lt HRB2.out)).trans HRB2.out); obtain ⟨Ao, co, eo⟩ := Kd.R_slice (Kd.S_R HS3.out); subst eo; clear ho hb))
   have HT4 := Aside0.mk (show (w3.alloc (.cells #[.slice Ao B.length co, .slice none 0 0] 28 (0, 0))).heap[w3.heap.size]? = some (.cells #[.slice Ao B.length co, .slice none 0 0] 28 (0, 0)) from blk_new w3 _);have hb4 : Below w3.heap.size w3 (w3.alloc (.cells #[.slice Ao B.length co, .slice none 0 0] 28 (0, 0))) := below_alloc (Below.refl _ _) _;have HB4 := Aside0.mk (below_then HB3.out HB3.out.size hb4);have HS4 := Aside0.mk (Kd.S_below HS3.out hb4);have HRB4 := Aside0.mk ((hb4.block _ (blk_lt HRB3.out)).trans HRB3.out);have HLT := Aside0.mk (show w.heap.size ≤ w3.heap.size ∧ w.heap.size ≤ w1.heap.size ∧ w1.heap.size < w3.heap.size ∧ w3.heap.size < (w3.alloc (.cells #[.slice Ao B.length co, .slice none 0 0] 28 (0, 0))).heap.size from ⟨HB3.out.size, HB1.out.size, blk_lt HRB3.out, by simp⟩);obtain ⟨tb, htb⟩ : ∃ tb, tb = w3.heap.size := ⟨_, rfl⟩;obtain ⟨rb, hrb⟩ : ∃ rb, rb = w1.heap.size := ⟨_, rfl⟩;obtain ⟨w4, hw4⟩ : ∃ w4, w4 = w3.alloc (.cells #[.slice Ao B.length co, .slice none 0 0] 28 (0, 0)) := ⟨_, rfl⟩;rw [← hw4] at HT4 HB4 HS4 HRB4 HLT ⊢
   rw [← htb] at HT4 HLT ⊢
   rw [← hrb] at HRB4 HLT ⊢
   clear hb4 hw4 htb hrb HS3 HB3 HRB3 HS2 HB2 HRB2 HBOX HB1 HBG;have hcx0 : ∀ o, (w4.alloc o).cell? ⟨tb, 0, none⟩ = some (.slice Ao B.length co) := fun o => (blk_cell ((Below.heap_alloc w4 o tb (blk_lt HT4.out)).trans HT4.out) 0).trans rfl
   go_upto_region 6 with (go_at_call 31; refine (rep_walk ⟨w4.heap.size, 0, none⟩ 1 (-1) B.length HCO.out.1 (w4.alloc (.cells #[.int .i64 (-1)] 3 (0, 0))) (C_new_one w4 (-1) 3) (Nat.le_refl _)).mono ?_; rintro e w5 ⟨v5, rfl, ho, hb⟩; obtain ⟨PA, pc, ep⟩ := Kd.R_slice ho; rw [List.length_replicate] at ep; subst ep; have HR5 := Aside0.mk ho; have hb5 := below_then (below_alloc (Below.refl w4.heap.size w4) (.cells #[.int .i64 (-1)] 3 (0, 0))) (by simp) hb; have HT5 := Aside0.mk ((hb5.block _ (blk_lt HT4.out)).trans HT4.out); have HRB5 := Aside0.mk ((hb5.block _ (blk_lt HRB4.out)).trans HRB4.out); have HB5 := Aside0.mk (below_then HB4.out HB4.out.size hb5); have HS5 := Aside0.mk (Kd.S_elder' HS4.out (fun k hk => by have := Kd.R_base ho k hk; simp at this; omega) hb5); have hct1 : w5.cell? ⟨tb, 1, none⟩ = some (.slice none 0 0) := (blk_cell HT5.out 1).trans rfl; have hft1 := blk_frozen HT5.out 1; clear ho hb hb5 hcx0)
   have HX := Aside0.mk (show Kd.R (Kd.int .i64) 3 w5 w.heap.size (fun _ => True) (.slice PA B.length pc) (List.replicate B.length (-1)) from Kd.R_lower HR5.out (by have := HLT.out; simp; omega));have HS6 := Aside0.mk (show Kd.S (Kd.slice 3 (Kd.int .i64)) 23 (w5.setCell ⟨tb, 1, none⟩ (.slice PA B.length pc)) w.heap.size (fun k => True ∧ some k ≠ (Value.slice PA B.length pc).ownBlock) (.slice Ao B.length co) B from Kd.S_set HS5.out HT5.out (by decide) _ _);have HR6 := Aside0.mk (Kd.R_set HX.out HT5.out (by decide) 1 (.slice PA B.length pc));have HT6 := Aside0.mk (show (w5.setCell ⟨tb, 1, none⟩ (.slice PA B.length pc)).heap[tb]? = some (.cells #[.slice Ao B.length co, .slice PA B.length pc] 28 (0, 0)) from blk_put HT5.out 1 _ rfl);have HRB6 := Aside0.mk (show (w5.setCell ⟨tb, 1, none⟩ (.slice PA B.length pc)).heap[rb]? = some (.cells #[.slice none 0 0, .slice none 0 0] 28 (0, 0)) from (Below.heap_setCell w5 ⟨tb, 1, none⟩ _ rb (by have := HLT.out; show rb ≠ tb; omega)).trans HRB5.out);have HB6 := Aside0.mk (HB5.out.setCell (p := ⟨tb, 1, none⟩) HLT.out.1 (.slice PA B.length pc));obtain ⟨w6, hw6⟩ : ∃ w6, w6 = w5.setCell ⟨tb, 1, none⟩ (.slice PA B.length pc) := ⟨_, rfl⟩;rw [← hw6] at HS6 HR6 HT6 HRB6 HB6 ⊢
   clear hw6 HX HR5 HS5 HT5 HRB5 HB5 hct1 hft1 HS4 HB4 HT4 HRB4;have hct6 : w6.cell? ⟨tb, 0, none⟩ = some (.slice Ao B.length co) := (blk_cell HT6.out 0).trans rfl;go_upto_region 7 with ((with_reducible refine gate_dst (N := 36) rfl ?_); refine lmake_event rfl rfl ?_; intro w7 hw7; have HW7 := Aside0.mk hw7; clear hw7)
   have HLB := Aside0.mk (blk_new w7 (.cells #[.map (some w6.heap.size)] 59 (0, 0)));have hb7 : Below w6.heap.size w6 w7 := by rw [HW7.out]; exact below_alloc (Below.refl _ _) _
   have hmp7 : w7.heap[w6.heap.size]? = some (.map #[] 0) := by rw [HW7.out]; exact blk_new _ _
   have hb8 : Below w6.heap.size w6 (w7.alloc (.cells #[.map (some w6.heap.size)] 59 (0, 0))) := below_alloc hb7 _
   have HB8 := Aside0.mk (show BW w (w7.alloc (.cells #[.map (some w6.heap.size)] 59 (0, 0))) w7.heap.size tb w6.heap.size rb Ao B.length co PA pc B (List.replicate B.length (-1)) (initE 0) 0 from by
    have hs6 := HB6.out.size;have hs7 := hb7.size;exact ⟨HLB.out, (hb8.block _ (blk_lt HT6.out)).trans HT6.out, (hb8.block _ (blk_lt HRB6.out)).trans HRB6.out, Kd.S_mono (Kd.S_below HS6.out hb8) (fun k hk => hk.2), Kd.R_below HR6.out hb8, ⟨(Below.heap_alloc w7 _ _ (blk_lt hmp7)).trans hmp7, List.nodup_nil, List.nodup_nil, fun t ht => by cases ht⟩, below_then HB6.out HB6.out.size hb8, by have := HLT.out; omega⟩)
   have HM64 := Aside0.mk HCO.out.1;obtain ⟨lb, hlb⟩ : ∃ lb, lb = w7.heap.size := ⟨_, rfl⟩;obtain ⟨mb, hmb⟩ : ∃ mb, mb = w6.heap.size := ⟨_, rfl⟩;obtain ⟨w8, hw8⟩ : ∃ w8, w8 = w7.alloc (.cells #[.map (some w6.heap.size)] 59 (0, 0)) := ⟨_, rfl⟩;rw [← hw8, ← hlb, ← hmb] at HB8
   rw [← hw8, ← hlb]
   have hct8 : w8.cell? ⟨tb, 0, none⟩ = some (.slice Ao B.length co) := (blk_cell HB8.out.ht 0).trans rfl;obtain ⟨m, hm⟩ : ∃ m, m = B.length := ⟨_, rfl⟩;have HMB := Aside0.mk hm;rw [← hm] at HB8 HM64 hct8 ⊢
   clear hb7 hmp7 hb8 hw8 hlb hmb hm HLB HW7 HR6 HS6 HT6 HRB6 HB6 hct6;go_wp2
   have hm64 : m ≤ 64 := HM64.out;go_loopg [40] m (fun gg s40 wr => ∃ kk : Nat, s40 = .int .i64 (kk : Int) ∧ kk ≤ m ∧ Aside0 (m - kk ≤ gg) ∧ Aside0 (BW w wr lb tb mb rb Ao m co PA pc B (List.replicate m (-1)) (initE kk) kk))
   case atStart => exact ⟨0, rfl, Nat.zero_le _, ⟨Nat.le_refl _⟩, HB8⟩
   case round =>
    obtain ⟨kk, rfl, hkk, HG, HW⟩ := hrel;have hcl : wr.cell? ⟨lb, 0, none⟩ = some (.map (some mb)) := (blk_cell HW.out.hl 0).trans rfl;by_cases hlt : kk < m
    ·have hltz : (kk : Int) < (m : Int) := by omega
     obtain ⟨w9, hput, hm9, hg9⟩ := link_new (P := Tryd.prog) Tryd.underlying59 Tryd.underlying3 HW.out.hm kk ((-1 : Int), (-1 : Int)) (fun t ht e => by have := initE_lt t ht; omega);rw [← initE_succ] at hm9
     have HP := Aside0.mk (show (Instr.mapUpdate 59 (.map (some mb)) (.int .i64 (kk : Int)) (.agg #[.int .i64 (-1), .int .i64 (-1)])).run Tryd.prog wr = .ok () w9 from hput);have H9 := Aside0.mk (HW.out.map hm9 hg9);clear hput hm9 hg9;go_wp2_with (refine lput_event rfl rfl rfl rfl rfl rfl HP.out ?_; clear hcl)
     go_roundg (m - (kk + 1))
     case measure => have := HG.out; omega
     case rel => exact ⟨kk + 1, by go_num, by omega, ⟨Nat.le_refl _⟩, H9⟩
    ·have hltz : ¬ (kk : Int) < (m : Int) := by omega
     obtain rfl : kk = m := by omega
     go_wp2
     clear hct8 HB8 hcl hlt hkk HG;go_loopg [12] kk (fun gg s12 wr => ∃ (d : Nat) (es : List Ent) (clock : Nat) (L : Nat → Option (Int × Int)) (par : List Int) (nx : Int), s12 = .int .i64 nx ∧ Aside0 (d ≤ gg) ∧ Aside0 (es.length = d) ∧ Aside0 (∀ i, lk es i = L i) ∧ Aside0 (∀ t ∈ es, t.1 < kk) ∧ Aside0 (d = 0 ∨ okL L nx) ∧ Aside0 (BW w wr lb tb mb rb Ao kk co PA pc B par es clock) ∧ Aside0 (primGo B d L nx par = primL B))
     case atStart =>
      refine ⟨kk, initE kk, kk, initL kk, List.replicate kk (-1), 0, rfl, ⟨Nat.le_refl _⟩, ⟨by simp [initE]⟩, ⟨lk_init kk⟩, ⟨initE_lt⟩, ⟨?_⟩, HW, ⟨by unfold primL; rw [← HMB.out]⟩⟩;rcases Nat.eq_zero_or_pos kk with h0 | h0
      ·exact .inl h0
      ·exact .inr ⟨Int.le_refl _, by unfold initL; rw [if_pos (by simpa using h0)]; rfl⟩
     case round =>
      obtain ⟨d, es, clock, L, par, nx, rfl, HD, HE, HL, HK, HX, HW, HP⟩ := hrel;have hcl : wr.cell? ⟨lb, 0, none⟩ = some (.map (some mb)) := (blk_cell HW.out.hl 0).trans rfl;have HLEN := Aside0.mk (link_len (P := Tryd.prog) Tryd.underlying59 HW.out.hm 3);cases d with
      | zero =>
       rw [HE.out] at HLEN
       have hpr : par = primL B := HP.out;have hct0 : wr.cell? ⟨tb, 0, none⟩ = some (.slice Ao kk co) := (blk_cell HW.out.ht 0).trans rfl;have hct1 : wr.cell? ⟨tb, 1, none⟩ = some (.slice PA kk pc) := (blk_cell HW.out.ht 1).trans rfl;have hcr0 : wr.cell? ⟨rb, 0, none⟩ = some (.slice none 0 0) := (blk_cell HW.out.hrb 0).trans rfl;have hcr1 : wr.cell? ⟨rb, 1, none⟩ = some (.slice none 0 0) := (blk_cell HW.out.hrb 1).trans rfl;have hfr0 := blk_frozen HW.out.hrb 0;have hfr1 := blk_frozen HW.out.hrb 1;go_wp2_with ((with_reducible refine gate_dst (N := 49) rfl ?_); refine llen_event rfl rfl rfl HLEN.out ?_)
       (try simp only [Exit.inBlock, Exit.then]);have p1 := blk_put (cs' := #[.slice Ao kk co, .slice none 0 0]) HW.out.hrb 0 (.slice Ao kk co) rfl;have p2 := blk_put (cs' := #[.slice Ao kk co, .slice PA kk pc]) p1 1 (.slice PA kk pc) rfl;refine bodyPost_ret (results_ct rfl _ _ rb 28 #[.slice Ao kk co, .slice PA kk pc] (0, 0) _ rfl p2 Tryd.underlying28 rfl (by kernel_rfl)) rfl ?_;rw [← hpr]
       exact ⟨_, _, rfl, Kd.S_set (Kd.S_set HW.out.hS HW.out.hrb (by decide) _ _) p1 (by decide) _ _, Kd.R_set (Kd.R_set HW.out.hP HW.out.hrb (by decide) _ _) p1 (by decide) _ _, (HW.out.bel.setCell HW.out.lo.2.2.2.1 _).setCell HW.out.lo.2.2.2.1 _⟩
      | succ d =>
       rw [HE.out] at HLEN
       obtain ⟨hx0, hx1⟩ := HX.out.resolve_left (by omega);obtain ⟨k, rfl⟩ := Int.eq_ofNat_of_zero_le hx0;rw [Int.toNat_natCast] at hx1
       obtain ⟨⟨l1', l2'⟩, hLk⟩ := Option.isSome_iff_exists.1 hx1
       have hkm : k < kk := by
        obtain ⟨t, ht, e⟩ := lk_some_in (es := es) (i := k) (by rw [HL.out]; exact hx1);have := HK.out t ht;omega
       have hpos : (0 : Int) < ((d + 1 : Nat) : Int) := by omega
       have hkz : (k : Int) < (kk : Int) := by omega
       have hk0 : (0 : Int) ≤ (k : Int) := by omega
       have hget := link_get (P := Tryd.prog) Tryd.underlying59 Tryd.underlying3 link_zero HW.out.hm k;rw [HL.out, hLk] at hget
       have HGET := Aside0.mk (show (Instr.lookup 59 (.map (some mb)) (.int .i64 (k : Int)) false).run Tryd.prog wr = .ok (.agg #[.int .i64 l1', .int .i64 l2']) wr from hget);clear hget;obtain ⟨pl, hpl⟩ : ∃ pl, pl = par.length := ⟨_, rfl⟩;have hpk : pl = kk := by have := (Kd.R_reads' HW.out.hP).1; omega
       obtain ⟨ad, hPA, _⟩ := Kd.at_int (Kd.R_reads' HW.out.hP).2.2 (k : Int) (by omega) (by omega)
       obtain ⟨g, hg⟩ : ∃ g, ad = ⟨g, 0, none⟩ := by
        have := HW.out.hP;rw [hPA] at this
        exact Kd.R_head this
       rw [hg] at hPA
       have hce := Kd.R_celln (enc := Value.int .i64) (h1 := fun _ => rfl) (0 : Int) (hPA ▸ HW.out.hP) (k : Int) hk0 hkz;have HPUT := Aside0.mk (HW.out.par_put (k : Int) l2' hPA);rw [Int.toNat_natCast] at hce HPUT
       have HPA := Aside0.mk hPA;subst hPA;obtain ⟨hce1, hce2⟩ := hce;have hct1 : wr.cell? ⟨tb, 1, none⟩ = some (.slice (some ⟨g, 0, none⟩) kk pc) := (blk_cell HW.out.ht 1).trans rfl;clear hpl hpk hg;go_upto_region 16 with (first | ((with_reducible refine gate_dst (N := 49) rfl ?_); refine llen_event rfl rfl rfl HLEN.out ?_) | ((with_reducible refine gate_dst (N := 56) rfl ?_); refine lget_event rfl rfl rfl rfl HGET.out ?_))
       have HC10 := Aside0.mk (show ∀ W : World, W = wr.setCell ⟨g, k, none⟩ (.int .i64 l2') → Calls Tryd.prog 32 #[.int .i64 (k : Int), .pointer (some ⟨lb, 0, none⟩), .pointer (some ⟨tb, 0, none⟩)] W fun e w' => e = .returned (.tuple #[]) ∧ ∃ es', BW w w' lb tb mb rb Ao kk co (some ⟨g, 0, none⟩) pc B (par.set k l2') es' clock ∧ (∀ i, lk es' i = comesL B k L i) ∧ (∀ t ∈ es', t.1 < kk) ∧ es'.length = d from by
        rintro W rfl
        have hB := HPUT.out
        obtain ⟨adB, hAo⟩ : ∃ adB, Ao = some adB := by
         obtain ⟨a', _, _, e, _⟩ := elem_one (d := Kd.slice 3 (Kd.int .i64)) rfl (Kd.S_reads' hB.hS).2.2 (Below.refl _ _) k (by rw [← HMB.out]; exact hkm);exact ⟨a', e⟩
        have hmn : ∀ cells t, (wr.setCell ⟨g, k, none⟩ (.int .i64 l2')).heap[mb]? ≠ some (.cells cells t (0, 0)) := fun cells t e => by rw [hB.hm.at_] at e; cases e
        have hkeys := hB.hm.keys;have hin : (lk es k).isSome = true := by rw [HL.out]; exact hx1
        subst hAo;refine (comes_walk lb tb mb adB kk co (.slice (some ⟨g, 0, none⟩) kk pc) B HMB.out hm64 w.heap.size es clock k hkm HK.out HBL.out _ hB.hl hB.ht (Kd.S_mono (S_typed_ne hB.hS hmn) (fun j hj => hj.2)) hB.hm).mono ?_;rintro e w' ⟨rfl, es', hm', hl', hk', hg'⟩
        refine ⟨rfl, es', hB.map hm' hg', fun i => ?_, fun t ht => ?_, ?_⟩
        ·rw [hl', HL.out]; rfl
        ·have : t.1 ∈ (delE k es).map (·.1) := by rw [← hk']; exact List.mem_map.2 ⟨t, ht, rfl⟩
         obtain ⟨u, hu, e⟩ := List.mem_map.1 this;have := HK.out u (List.mem_filter.1 hu).1;omega
        ·have h1 := del_len hkeys hin;have h2 := congrArg List.length hk';rw [List.length_map, List.length_map] at h2
         have := HE.out;omega)
       have HP2 := Aside0.mk (show primGo B d (comesL B k L) (bestGo (comesL B k L) kk 0 (-1)) (par.set k l2') = primL B by
        have := HP.out;rw [primGo, Int.toNat_natCast, hLk, ← HMB.out] at this
        exact this)
       obtain ⟨w10, hw10⟩ : ∃ w10, w10 = wr.setCell ⟨g, k, none⟩ (.int .i64 l2') := ⟨_, rfl⟩;have HC11 := Aside0.mk (HC10.out w10 hw10);rw [← hw10]
       clear hw10 HC10 HPUT hce1 hce2 hct1 hcl HGET HLEN HP HX hx1 hx0 hLk HL HK HE;obtain ⟨L', hL'⟩ : ∃ L', L' = comesL B k L := ⟨_, rfl⟩;rw [← hL'] at HC11 HP2
       clear hL';go_upto_region 17 with (go_at_call 32; refine HC11.out.mono ?_; rintro e w11 ⟨rfl, es', hB', hl', hk', hn'⟩; have H11 := Aside0.mk hB'; have HL2 := Aside0.mk hl'; have HK2 := Aside0.mk hk'; have HE2 := Aside0.mk hn'; clear hB' hl' hk' hn')
       have hct11 : w11.cell? ⟨tb, 0, none⟩ = some (.slice Ao kk co) := (blk_cell H11.out.ht 0).trans rfl;go_wp2
       go_loopg [13, 65] kk (fun gg s13 s65 wi => ∃ (i : Nat) (b : Int), s65 = .int .i64 (i : Int) ∧ s13 = .int .i64 b ∧ i ≤ kk ∧ Aside0 (kk - i ≤ gg) ∧ Aside0 (BW w wi lb tb mb rb Ao kk co (some ⟨g, 0, none⟩) pc B (par.set k l2') es' clock) ∧ Aside0 (bestGo L' (kk - i) i b = bestGo L' kk 0 (-1)) ∧ Aside0 (b = -1 ∨ okL L' b))
       case atStart => exact ⟨0, -1, rfl, rfl, Nat.zero_le _, ⟨Nat.le_refl _⟩, H11, ⟨rfl⟩, ⟨.inl rfl⟩⟩
       case round =>
        obtain ⟨i, b, rfl, rfl, hik, HG, HW, HBG, HOK⟩ := hrel;by_cases hi : i < kk
        ·have hiz : (i : Int) < (kk : Int) := by omega
         have hcl : wr.cell? ⟨lb, 0, none⟩ = some (.map (some mb)) := (blk_cell HW.out.hl 0).trans rfl;have hgo := link_get_ok (P := Tryd.prog) Tryd.underlying59 Tryd.underlying3 link_zero HW.out.hm i;rw [HL2.out] at hgo
         have HWL := Aside0.mk (fun (o : Obj) => HW.out.low (below_alloc (Below.refl wr.heap.size wr) o));cases hLi : L' i with
         | none =>
          rw [hLi] at hgo
          have HGO := Aside0.mk (show (Instr.lookup 59 (.map (some mb)) (.int .i64 (i : Int)) true).run Tryd.prog wr = .ok (.tuple #[.agg #[.int .i64 0, .int .i64 0], .bool false]) wr from hgo);clear hgo;have hst : stepB L' i b = b := by unfold stepB; rw [hLi]
          have H13 := Aside0.mk (HWL.out (.cells #[.int .i64 0, .int .i64 0] 61 (0, 0)));go_wp2_with ((with_reducible refine gate_dst (N := 71) rfl ?_); refine lget_event rfl rfl rfl rfl HGO.out ?_)
          go_roundg (kk - (i + 1))
          case measure => have := HG.out; omega
          case rel => exact ⟨i + 1, b, by go_num, rfl, by omega, ⟨Nat.le_refl _⟩, H13, ⟨by have := HBG.out; rw [show kk - i = (kk - (i + 1)) + 1 by omega, bestGo_step, hst] at this; exact this⟩, ⟨HOK.out⟩⟩
         | some a12 =>
          obtain ⟨a1, a2⟩ := a12;rw [hLi] at hgo
          have HGO := Aside0.mk (show (Instr.lookup 59 (.map (some mb)) (.int .i64 (i : Int)) true).run Tryd.prog wr = .ok (.tuple #[.agg #[.int .i64 a1, .int .i64 a2], .bool true]) wr from hgo);clear hgo;have H13 := Aside0.mk (HWL.out (.cells #[.int .i64 a1, .int .i64 a2] 61 (0, 0)));by_cases hb1 : b = -1
          ·have e1 : (b == -1) = true := beq_iff_eq.mpr hb1;have hst : stepB L' i b = (i : Int) := by unfold stepB; rw [hLi]; simp only [hb1, true_or, if_true]
           have hok : okL L' (i : Int) := ⟨by omega, by rw [Int.toNat_natCast, hLi]; rfl⟩;clear hb1;go_wp2_with ((with_reducible refine gate_dst (N := 71) rfl ?_); refine lget_event rfl rfl rfl rfl HGO.out ?_)
           go_roundg (kk - (i + 1))
           case measure => have := HG.out; omega
           case rel => exact ⟨i + 1, (i : Int), by go_num, rfl, by omega, ⟨Nat.le_refl _⟩, H13, ⟨by have := HBG.out; rw [show kk - i = (kk - (i + 1)) + 1 by omega, bestGo_step, hst] at this; exact this⟩, ⟨.inr hok⟩⟩
          ·have e1 : (b == -1) = false := beq_false_of_ne hb1;have hok := HOK.out.resolve_left hb1;obtain ⟨bn, rfl⟩ := Int.eq_ofNat_of_zero_le hok.1;obtain ⟨⟨q1, q2⟩, hLb⟩ := Option.isSome_iff_exists.1 hok.2;rw [Int.toNat_natCast] at hLb
           have hg2 := link_get (P := Tryd.prog) Tryd.underlying59 Tryd.underlying3 link_zero H13.out.hm bn;rw [HL2.out, hLb] at hg2
           have HG2 := Aside0.mk (show (Instr.lookup 59 (.map (some mb)) (.int .i64 (bn : Int)) false).run Tryd.prog (wr.alloc (.cells #[.int .i64 a1, .int .i64 a2] 61 (0, 0))) = .ok (.agg #[.int .i64 q1, .int .i64 q2]) (wr.alloc (.cells #[.int .i64 a1, .int .i64 a2] 61 (0, 0))) from hg2);clear hg2;have hcl2 : (wr.alloc (.cells #[.int .i64 a1, .int .i64 a2] 61 (0, 0))).cell? ⟨lb, 0, none⟩ = some (.map (some mb)) := (blk_cell H13.out.hl 0).trans rfl;by_cases hq : q1 < a1
           ·have e2 : decide (q1 < a1) = true := decide_eq_true hq;have hst : stepB L' i (bn : Int) = (i : Int) := by unfold stepB; rw [hLi, Int.toNat_natCast, hLb]; simp only [Option.getD_some]; rw [if_pos (.inr hq)]
            have hok2 : okL L' (i : Int) := ⟨by omega, by rw [Int.toNat_natCast, hLi]; rfl⟩;clear hb1 hq;go_wp2_with (first | ((with_reducible refine gate_dst (N := 71) rfl ?_); refine lget_event rfl rfl rfl rfl HGO.out ?_) | ((with_reducible refine gate_dst (N := 83) rfl ?_); refine lgetg_event rfl (by rfl) rfl rfl HG2.out ?_))
            go_roundg (kk - (i + 1))
            case measure => have := HG.out; omega
            case rel => exact ⟨i + 1, (i : Int), by go_num, rfl, by omega, ⟨Nat.le_refl _⟩, H13, ⟨by have := HBG.out; rw [show kk - i = (kk - (i + 1)) + 1 by omega, bestGo_step, hst] at this; exact this⟩, ⟨.inr hok2⟩⟩
           ·have e2 : decide (q1 < a1) = false := decide_eq_false hq;have hst : stepB L' i (bn : Int) = (bn : Int) := by unfold stepB; rw [hLi, Int.toNat_natCast, hLb]; simp only [Option.getD_some]; rw [if_neg (by intro h; rcases h with h | h; exact hb1 h; exact hq h)]
            clear hb1 hq;go_wp2_with (first | ((with_reducible refine gate_dst (N := 71) rfl ?_); refine lget_event rfl rfl rfl rfl HGO.out ?_) | ((with_reducible refine gate_dst (N := 83) rfl ?_); refine lgetg_event rfl (by rfl) rfl rfl HG2.out ?_))
            go_roundg (kk - (i + 1))
            case measure => have := HG.out; omega
            case rel => exact ⟨i + 1, (bn : Int), by go_num, rfl, by omega, ⟨Nat.le_refl _⟩, H13, ⟨by have := HBG.out; rw [show kk - i = (kk - (i + 1)) + 1 by omega, bestGo_step, hst] at this; exact this⟩, ⟨HOK.out⟩⟩
        ·have hiz : ¬ (i : Int) < (kk : Int) := by omega
         obtain rfl : i = kk := by omega
         have HBB := Aside0.mk (show b = bestGo L' i 0 (-1) by have hbb := HBG.out; rw [Nat.sub_self, bestGo] at hbb; exact hbb)
         have HOKB := Aside0.mk (show d = 0 ∨ okL L' b by
          rcases Nat.eq_zero_or_pos d with h0 | h0
          ·exact .inl h0
          ·refine .inr ?_;rw [HBB.out]
           refine bestGo_ok i 0 (-1) (.inr ⟨rfl, ?_⟩);have hl := HE2.out;cases hes : es' with
           | nil => rw [hes] at hl; simp at hl; omega
           | cons t ts =>
            have ht : t ∈ es' := by rw [hes]; exact List.mem_cons_self
            refine ⟨t.1, Nat.zero_le _, by have := HK2.out t ht; omega, ?_⟩;rw [← HL2.out, lk_mem HW.out.hm.keys ht]
            rfl)
         have HPP := Aside0.mk (show primGo B d L' b (par.set k l2') = primL B by rw [HBB.out]; exact HP2.out);clear HBB HBG;go_wp2
         go_roundg d
         case measure => have := HD.out; omega
         case rel => exact ⟨d, es', clock, L', par.set k l2', b, rfl, ⟨Nat.le_refl _⟩, HE2, HL2, HK2, HOKB, HW, HPP⟩
  ·rw [if_neg hcond] at h; cases h
 ·rw [if_neg hre] at h
  obtain ⟨rfl, rfl, rfl⟩ : [] = r1 ∧ [] = r2 ∧ er = r3 := by simpa using h
  have d0 : (er != 0) = true := bne_iff_ne.mpr hre;clear h hre;go_enter Tryd.func12, Tryd.ntmps12
  go_wp2_with (first | ((with_reducible refine gate_dst (N := 2) rfl ?_); refine box_event ?hg (N := 2) ?hd (cs := #[.slice A0 n0 c0]) (t := 34) ?hr ?_; (case hd => rfl); (case hg => rfl); (case hr => first | (go_simp; done) | (go_simp; rfl)); intro gb hgb w1 hbox hb; have HBOX := Aside0.mk hbox; have HB1 := Aside0.mk hb; have hcga : ∀ o, (w1.alloc o).cell? ⟨gb, 0, none⟩ = some (.slice A0 n0 c0) := fun o => (blk_cell (cs := #[.slice A0 n0 c0]) (t := 34) ((Below.heap_alloc w1 o gb (blk_lt HBOX.out)).trans HBOX.out) 0).trans rfl; clear hgb hbox hb) | (go_at_call 29; refine (HBG.out _ (below_alloc HB1.out _)).mono ?_; rintro e w2 ⟨v2, rfl, ho, hb⟩; have HB2 := Aside0.mk (below_then (below_alloc HB1.out (.cells #[.slice none 0 0, .slice none 0 0] 28)) (by have := HB1.out.size; simp; omega) hb); have HRB2 := Aside0.mk ((hb.block w1.heap.size (by simp)).trans (blk_new w1 (.cells #[.slice none 0 0, .slice none 0 0] 28))); have hcr0 : w2.cell? ⟨w1.heap.size, 0, none⟩ = some (.slice none 0 0) := (blk_cell HRB2.out 0).trans rfl; have hcr1 : w2.cell? ⟨w1.heap.size, 1, none⟩ = some (.slice none 0 0) := (blk_cell HRB2.out 1).trans rfl; have hfr0 := blk_frozen HRB2.out 0; have hfr1 := blk_frozen HRB2.out 1; clear ho hb hcga))
  have hlo := HB1.out.size;(try simp only [Exit.inBlock, Exit.then]);refine bodyPost_ret (results_ct rfl _ _ w1.heap.size 28 #[.slice none 0 0, .slice none 0 0] (0, 0) _ rfl (blk_put (cs' := #[.slice none 0 0, .slice none 0 0]) (blk_put (cs' := #[.slice none 0 0, .slice none 0 0]) HRB2.out 0 (.slice none 0 0) rfl) 1 (.slice none 0 0) rfl) Tryd.underlying28 rfl (by kernel_rfl)) rfl ?_;exact ⟨_, _, rfl, Kd.S_nil _ _ _ _ _, Kd.R_nil _ _ _ _ _, (HB2.out.setCell hlo _).setCell hlo _⟩
theorem decomp_Build.calls (A0 : Option Addr) (c0 : Nat) (l0 : List Int) (A1 : Option Addr) (c1 : Nat) (l1 : List Int) (r1 : List (List Int)) (r2 : List Int) (r3 : Int) (w : World) (hTb : Tab64 w) (hr0 : Kd.C (Kd.int .u64) w A0 l0.length l0) (hc0 : l0.length ≤ c0) (hr1 : Kd.C (Kd.int .i64) w A1 l1.length l1) (hc1 : l1.length ≤ c1) (h : decomp_Build.f l0 l1 = some (r1, r2, r3)) :
  Calls Tryd.prog 12 #[.agg #[.slice A0 l0.length c0], .slice A1 l1.length c1] w fun e w' => ∃ (v0_ v1_ : Value), e = .returned (.tuple #[.agg #[v0_, v1_], .int .i64 r3]) ∧ Kd.S (Kd.slice 3 (Kd.int .i64)) 23 w' w.heap.size (fun k_ => some k_ ≠ v1_.ownBlock) v0_ r1 ∧ Kd.R (Kd.int .i64) 3 w' w.heap.size (fun _ => True) v1_ r2 ∧ Below w.heap.size w w' := build_walk A0 c0 l0 A1 c1 l1 r1 r2 r3 w hTb hr0 hc0 hr1 hc1 h
end Go.Proofs.YtbdlelojlnhhfaaDoor.Pr
