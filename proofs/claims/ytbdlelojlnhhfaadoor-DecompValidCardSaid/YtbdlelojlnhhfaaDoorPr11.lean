-- Printed by a program of this session's own (wip/tools/pp.py) over the kit's print.py; Lean checks it.
import Derived.WalkKit
import Derived.Test.YtbdlelojlnhhfaaDoorShelf
import Derived.TacticsInMore
import Derived.Shelf.RegionOpen
import Derived.Shelf.Abstract
import Derived.RangeFuncNested
import Derived.RangeFuncLeaves
import Derived.RangeFuncCalls
import Derived.RangeFuncBox
import Derived.RangeFuncBound
import Derived.OwnWalkIn
import Derived.Maps.AppendAt
import Derived.LoopNIn
import Derived.LoopIn
import Derived.Lib.SlKeysI
import Derived.Test.YtbdlelojlnhhfaaDoorPr0
namespace Go.Proofs.YtbdlelojlnhhfaaDoor.Pr
open Go.RowKit Go.Proofs.YtbdlelojlnhhfaaDoorW.PrintWords Go.Proofs.YtbdlelojlnhhfaaDoorW.PrintLast Go.Proofs.YtbdlelojlnhhfaaDoorW.PrintMore
attribute [local go_sem] max2_int min2_int max_two min_two max_three min_three max_four min_four
set_option linter.unusedVariables false
set_option linter.unusedSimpArgs false
/-! ### slices_Sorted_int: function 53 -/
section
open Go.RowKit Go.Shelf Go.Maps Go.Sort
attribute [local go_sem] Oper.semAt_some
/-- the first k of a row, as a row read by places -/
def SortedSeq.upto (zs : List Int) (k : Nat) : List Int := (List.range k).map fun j => zs[j]?.getD 0
theorem SortedSeq.upto_succ (zs : List Int) (k : Nat) : SortedSeq.upto zs (k + 1) = SortedSeq.upto zs k ++ [zs[k]?.getD 0] := by simp [SortedSeq.upto, List.range_succ]
theorem SortedSeq.upto_length (zs : List Int) (k : Nat) : (SortedSeq.upto zs k).length = k := by simp [SortedSeq.upto]
theorem SortedSeq.upto_all (zs : List Int) : SortedSeq.upto zs zs.length = zs := by
 apply List.ext_getElem
 ·simp [SortedSeq.upto]
 ·intro i h1 h2
  simp [SortedSeq.upto, h2]
theorem SortedSeq.upto_take (zs : List Int) {k : Nat} (hk : k ≤ zs.length) : SortedSeq.upto zs k = zs.take k := by
 apply List.ext_getElem
 ·simp [SortedSeq.upto, hk]
 ·intro i h1 h2
  have : i < zs.length := by simp [SortedSeq.upto] at h1; omega
  simp [SortedSeq.upto, this]
/-- the slice value holds the numbers zs, below n₀ -/
def SortedSeq.Ints (n₀ : Nat) (W : World) (sv : Value) (zs : List Int) : Prop :=
 (∃ A c, sv = .slice A 0 c ∧ zs = []) ∨ ∃ b off cap, sv = .slice (some ⟨b, off, none⟩) zs.length cap ∧ b < n₀ ∧ ∀ j, j < zs.length → W.cell? ⟨b, off + j, none⟩ = some (.int .i64 (zs[j]?.getD 0))
theorem SortedSeq.Ints.below {n₀ : Nat} {A B : World} (h : Below n₀ A B) {sv : Value} {zs : List Int} : SortedSeq.Ints n₀ A sv zs → SortedSeq.Ints n₀ B sv zs
 | .inl e => .inl e
 | .inr ⟨b, off, cap, e, hb, hc⟩ => .inr ⟨b, off, cap, e, hb, fun j hj => (h.cell (p := ⟨b, off + j, none⟩) hb).trans (hc j hj)⟩
set_option maxRecDepth 100000 in
set_option maxHeartbeats 2000000 in
theorem SortedSeq.values1 (n : Nat) (hn : 1 ≤ n) (l Bs n₀ b off len cap : Nat) (zs : List Int) (hreach : len * 8 ≤ 140737488351232) (hb : b < n₀) (J Jx : List Int → World → Prop)
  (hY : ∀ pre x W, J pre W → pre.length < len → YieldAt Fence.wide (n - 1) Tryd.prog l #[.int .i64 x] W fun e W' =>
   (e = .returned (.bool true) ∧ J (pre ++ [x]) W' ∧ Below n₀ W W') ∨ (e = .returned (.bool false) ∧ Jx (pre ++ [x]) W'))
  (W : World) (hBs : W.cell? ⟨Bs, 0, none⟩ = some (.slice (some ⟨b, off, none⟩) len cap)) (hc : ∀ j, j < len → W.cell? ⟨b, off + j, none⟩ = some (.int .i64 (zs[j]?.getD 0))) (h0 : J [] W) :
  CallsIn Fence.wide n Tryd.prog 66 #[.func (.yield l) #[] #[], .pointer (some ⟨Bs, 0, none⟩)] W fun e W' => (∃ v, e = .returned v) ∧
   ((∃ ys, ys = SortedSeq.upto zs len ∧ J ys W') ∨ (∃ pre, (∃ k, k ≤ len ∧ pre = SortedSeq.upto zs k) ∧ Jx pre W')) := by
 refine callsIn_of_wp Tryd.func66 rfl trivial ?_ rfl;simp only [Tryd.ntmps66, List.size_toArray, List.length_cons, List.length_nil, Nat.reduceAdd, Nat.reduceSub, Array.replicate_succ, Array.replicate_zero, List.push_toArray, List.append_toArray, List.nil_append, List.cons_append]
 gi_wp2
 gi_loopw [7] (fun i wr => ∃ k : Nat, k ≤ len ∧ i = .int .i64 k ∧ J (SortedSeq.upto zs k) wr ∧ Below n₀ W wr) (fun i _ => len - (intOf i).toNat)
 case atStart => exact ⟨0, Nat.zero_le _, rfl, h0, Below.refl _ _⟩
 case round =>
  obtain ⟨k, hk, rfl, hJs, hnx⟩ := hrel;have hcx : k < len → wr.cell? ⟨b, off + k, none⟩ = some (.int .i64 (zs[k]?.getD 0)) := fun h => (hnx.cell (p := ⟨b, off + k, none⟩) hb).trans (hc k h)
  by_cases hlt : k < len
  ·obtain ⟨fn, tmps, assign, body, hy, hR⟩ := hY _ (zs[k]?.getD 0) wr hJs (by rw [SortedSeq.upto_length]; exact hlt);have hcx' := hcx hlt;gi_wp2
   refine hR.mono ?_;rintro e W3 (⟨rfl, hJ3, hk3⟩ | ⟨rfl, hJx3⟩)
   ·gi_wp2
    go_roundw
    case rel => exact ⟨k + 1, by omega, by simp, by rw [SortedSeq.upto_succ]; exact hJ3, hnx.trans hk3⟩
    case measure => simp [intOf]; omega
   ·gi_wp2
    refine bodyPost_ret (results_none rfl _ _ _) rfl ?_;exact ⟨⟨_, rfl⟩, .inr ⟨_, ⟨k + 1, by omega, (SortedSeq.upto_succ _ _).symm⟩, hJx3⟩⟩
  ·obtain rfl : k = len := by omega
   gi_wp2
   go_end0
   exact ⟨⟨_, rfl⟩, .inl ⟨_, rfl, hJs⟩⟩
set_option maxRecDepth 100000 in
set_option maxHeartbeats 1000000 in
theorem SortedSeq.values1_nil (n : Nat) (l Bs c : Nat) (A : Option Addr) (J : List Int → World → Prop) (W : World) (hBs : W.cell? ⟨Bs, 0, none⟩ = some (.slice A 0 c)) (h0 : J [] W) :
  CallsIn Fence.wide n Tryd.prog 66 #[.func (.yield l) #[] #[], .pointer (some ⟨Bs, 0, none⟩)] W fun e W' => (∃ v, e = .returned v) ∧ J [] W' := by
 refine callsIn_of_wp Tryd.func66 rfl trivial ?_ rfl;simp only [Tryd.ntmps66, List.size_toArray, List.length_cons, List.length_nil, Nat.reduceAdd, Nat.reduceSub, Array.replicate_succ, Array.replicate_zero, List.push_toArray, List.append_toArray, List.nil_append, List.cons_append]
 gi_wp2
 gi_loopw [7] (fun i wr => i = .int .i64 0 ∧ J [] wr) (fun _ _ => 0)
 case atStart => exact ⟨rfl, h0⟩
 case round =>
  obtain ⟨rfl, hJs⟩ := hrel;gi_wp2
  go_end0
  exact ⟨⟨_, rfl⟩, hJs⟩
/-- slices.Values(s): the slice is boxed, the function value has the box -/
theorem SortedSeq.values (A : Option Addr) (len cap : Nat) (w : World) :
  Calls Tryd.prog 54 #[.slice A len cap] w fun e w' => e = .returned (.func (.func 66) #[] #[.pointer (some ⟨w.heap.size, 0, none⟩)]) ∧ w' = w.alloc (.cells #[.slice A len cap] 23) := by
 go_enter Tryd.func54, Tryd.ntmps54
 go_wp2
 go_ret
 exact ⟨rfl, rfl⟩
theorem SortedSeq.values_stops (n : Nat) (hn : 1 ≤ n) (Bs n₀ : Nat) (sv : Value) (zs : List Int) (hreach : zs.length * 8 ≤ 140737488351232) (w : World) (hBs : Bs < w.heap.size) (hn₀ : n₀ ≤ w.heap.size)
  (hc : w.cell? ⟨Bs, 0, none⟩ = some sv) (hI : SortedSeq.Ints n₀ w sv zs) :
  SeqStopsK Fence.wide n Tryd.prog 66 #[.pointer (some ⟨Bs, 0, none⟩)] (fun x : Int => #[Value.int .i64 x]) (Below n₀) (fun ys => ys = zs) (fun pre => pre <+: zs) zs.length w := fun l J Jx W hW _ _ hY h0 => by
 have hc' := (hW.cell (p := ⟨Bs, 0, none⟩) hBs).trans hc;rcases hI.below (hW.mono hn₀) with ⟨A, c, rfl, rfl⟩ | ⟨b, off, cap, rfl, hb, hcs⟩
 ·exact (SortedSeq.values1_nil n l Bs c A J W hc' h0).mono fun e W' ⟨he, hj⟩ => ⟨he, .inl ⟨_, rfl, hj⟩⟩
 ·refine (SortedSeq.values1 n hn l Bs n₀ b off zs.length cap zs hreach hb J Jx hY W hc' hcs h0).mono ?_;rintro e W' ⟨he, ⟨ys, rfl, hj⟩ | ⟨pre, ⟨k, hk, rfl⟩, hj⟩⟩
  ·exact ⟨he, .inl ⟨_, SortedSeq.upto_all zs, hj⟩⟩
  ·exact ⟨he, .inr ⟨_, by rw [SortedSeq.upto_take zs hk]; exact List.take_prefix _ _, hj⟩⟩
set_option maxRecDepth 100000 in
set_option maxHeartbeats 4000000 in
/-- slices.AppendSeq(nil, slices.Values(s)): a new row with the numbers of s -/
theorem SortedSeq.appendSeq (n : Nat) (hn : 3 ≤ n) (Bs : Nat) (sv : Value) (zs : List Int) (hreach : zs.length * 8 ≤ 140737488351232) (w : World) (hBs : Bs < w.heap.size)
  (hc : w.cell? ⟨Bs, 0, none⟩ = some sv) (hI : SortedSeq.Ints w.heap.size w sv zs) :
  CallsIn Fence.wide n Tryd.prog 69 #[.slice none 0 0, .func (.func 66) #[] #[.pointer (some ⟨Bs, 0, none⟩)]] w fun e W' => ∃ v, e = .returned v ∧ W'.ownsRow w.heap.size 3 1 v zs.length (zs.map (Value.int .i64)) ∧ (v = .slice none 0 0 ↔ zs = []) ∧ Below w.heap.size w W' := by
 have h1 : 1 ≤ n := by omega
 obtain ⟨i0, hi, hz0, hz1, hz2⟩ := info_parts info3;refine callsIn_of_wp_marks Tryd.func69 rfl trivial ?_ rfl;simp only [Tryd.ntmps69, List.size_toArray, List.length_cons, List.length_nil, Nat.reduceAdd, Nat.reduceSub, Array.replicate_succ, Array.replicate_zero, List.push_toArray, List.append_toArray, List.nil_append, List.cons_append]
 gi_wp2
 have bO := Boxed.new w 23 (.slice none 0 0);have hB0 : Below w.heap.size w (w.alloc (.cells #[.slice none 0 0] 23)) := (Below.refl _ w).alloc (Nat.le_refl _) _;have hcB : (w.alloc (.cells #[.slice none 0 0] 23)).cell? ⟨Bs, 0, none⟩ = some sv := (hB0.cell (p := ⟨Bs, 0, none⟩) hBs).trans hc
 refine wpIn_rangeFunc_ownG rfl h1 (gf := 66) (lb := #[.pointer (some ⟨Bs, 0, none⟩)]) rfl trivial (enters_of Tryd.func66 (by kernel_rfl) rfl)
  (SortedSeq.values_stops (n - 1) (by omega) Bs w.heap.size sv zs hreach _ (by simp; omega) (by simp) hcB (hI.below hB0)) belowK_t (belowK_b (by simp)) (Below.refl _ _) (fun _ => rfl)
  (fun pre W => (∃ v, Boxed W w.heap.size 23 v ∧ W.ownsRow w.heap.size 3 1 v pre.length (pre.map (Value.int .i64)) ∧ (v = .slice none 0 0 ↔ pre = [])) ∧ Below w.heap.size w W)
  (fun _ _ _ => False)
  (OwnFrom.and (Own.from (holdsRow_own w.heap.size w.heap.size 23 3 1 (fun pre : List Int => pre.length) (fun pre => pre.map (Value.int .i64)) (fun pre v => v = .slice none 0 0 ↔ pre = [])) _) (ownFrom_below (Nat.le_refl _) (by simp)))
  (fun _ _ _ _ _ hs _ _ => hs)
  ⟨⟨_, bO, World.ownsRow_nil _ _ _ _, by simp⟩, hB0⟩
  (fun x => { tmps := #[.slice none 0 0, .func (.func 66) #[] #[.pointer (some ⟨Bs, 0, none⟩)], .pointer (some ⟨w.heap.size, 0, none⟩), undef, .slice none 0 0, .int .i64 x, .func (.func 66) #[] #[.pointer (some ⟨Bs, 0, none⟩)], .int .i64 x, undef, undef, undef, undef, undef], defers := [] }) ?assign ?body ?done ?stop
 case assign =>
  intro l x W K hK
  gi_wp2
  exact hK
 case body =>
  rintro l pre x W ⟨⟨v, hv, hrow, hnil⟩, hB⟩ hlt
  have hc := hv.cell;gi_wp2_with (gi_at_builtin; refine wpListIn_append_own _ rfl _ _ 23 rfl w.heap.size 3 i0 (.int .i64 0) 1 8 Tryd.underlying23 hi hz0 hz1 hz2 rfl (by decide) _ _ _ rfl (hrow.alloc _) ⟨W.heap.size, 0, none⟩ 1 1 [.int .i64 x] rfl rfl (cell_one_new _ _ _) (by simp [Value.oneCell']) (by unfold maxLen; omega) (by omega) (by have := hB.size; simp; omega) ?_; intro v' w1 hown' hgrow _; obtain ⟨g', cap', rfl⟩ := ownsRow_succ hown'; obtain ⟨hv1, hv2, hr2, hk2, hb2⟩ := hv.appended (by decide) hrow hB.size (Nat.le_refl _) hown' hgrow; have hc1 := hv1.cell; have hf1 := hv1.frozen)
  exact ⟨hk2.from _, hb2, ⟨_, hv2, by simpa using hr2, by simp⟩, hB.trans hb2⟩
 case done =>
  rintro D ys W hD rfl ⟨⟨v, hv, hrow, hnil⟩, hB⟩ hK
  have hc := hv.cell;gi_wp2
  refine ⟨by simp, .inl ⟨_, _, rfl, run_takeDeferred hK, ?_⟩⟩;exact ⟨_, results_tmp rfl _ _ _, v, rfl, ownsRow_putObj hrow _ hK rfl, hnil, hB.trans (belowK_b (w := w) (Nat.le_refl _) W D _ _ (by simp at hD; omega) hK rfl rfl)⟩
 case stop =>
  rintro D c pre W _ _ h _
  exact h.elim
set_option maxHeartbeats 2000000 in
theorem SortedSeq.collect (n : Nat) (hn : 4 ≤ n) (Bs : Nat) (sv : Value) (zs : List Int) (hreach : zs.length * 8 ≤ 140737488351232) (w : World) (hBs : Bs < w.heap.size)
  (hc : w.cell? ⟨Bs, 0, none⟩ = some sv) (hI : SortedSeq.Ints w.heap.size w sv zs) :
  CallsIn Fence.wide n Tryd.prog 64 #[.func (.func 66) #[] #[.pointer (some ⟨Bs, 0, none⟩)]] w fun e W' => ∃ v, e = .returned v ∧ W'.ownsRow w.heap.size 3 1 v zs.length (zs.map (Value.int .i64)) ∧ (v = .slice none 0 0 ↔ zs = []) ∧ Below w.heap.size w W' := by
 have h1 : 1 ≤ n := by omega
 have cA := SortedSeq.appendSeq (n - 1) (by omega) Bs sv zs hreach w hBs hc hI;have hfA : Fence.wide.fn 69 := trivial;refine callsIn_of_wp Tryd.func64 rfl trivial ?_ rfl;simp only [Tryd.ntmps64, List.size_toArray, List.length_cons, List.length_nil, Nat.reduceAdd, Nat.reduceSub, Array.replicate_succ, Array.replicate_zero, List.push_toArray, List.append_toArray, List.nil_append, List.cons_append]
 gi_wp2_with (gi_at_call 69; refine cA.mono ?_; rintro e w' ⟨v, rfl, hrow, hnil, hb⟩)
 go_ret
 exact ⟨_, rfl, hrow, hnil, hb⟩
theorem SortedSeq.sorted (n : Nat) (hn : 5 ≤ n) (Bs : Nat) (sv : Value) (zs : List Int) (hreach : zs.length * 8 ≤ 140737488351232) (w : World) (hBs : Bs < w.heap.size)
  (hc : w.cell? ⟨Bs, 0, none⟩ = some sv) (hI : SortedSeq.Ints w.heap.size w sv zs) :
  CallsIn Fence.wide n Tryd.prog 53 #[.func (.func 66) #[] #[.pointer (some ⟨Bs, 0, none⟩)]] w fun e W' => ∃ v, e = .returned v ∧ W'.ownsRow w.heap.size 3 1 v zs.length ((zs.mergeSort fun x y => decide (x ≤ y)).map (Value.int .i64)) ∧ Below w.heap.size w W' := by
 have h1 : 1 ≤ n := by omega
 have cC := SortedSeq.collect (n - 1) (by omega) Bs sv zs hreach w hBs hc hI;have hfC : Fence.wide.fn 64 := trivial;have hfS : Fence.wide.fn 65 := trivial;refine callsIn_of_wp Tryd.func53 rfl trivial ?_ rfl;simp only [Tryd.ntmps53, List.size_toArray, List.length_cons, List.length_nil, Nat.reduceAdd, Nat.reduceSub, Array.replicate_succ, Array.replicate_zero, List.push_toArray, List.append_toArray, List.nil_append, List.cons_append]
 gi_wp2_with (gi_at_call 64; refine cC.mono ?_; rintro e W ⟨v, rfl, hrow, hnil, hb⟩)
 rcases hrow.2 with ⟨rfl, hz⟩ | ⟨gb, cap, cur, rfl, hbase, hgb, r1, r2, r3, r4⟩
 ·obtain rfl : zs = [] := List.eq_nil_of_length_eq_zero hz;have cS := callsIn_wide (n := n - 1) |>.2 (Go.Proofs.Tryd.slices_Sort_int_none none 0 W)
  gi_wp2_with (gi_at_call 65; refine cS.mono ?_; rintro e w' ⟨rfl, rfl⟩)
  go_ret
  exact ⟨_, rfl, by simpa using hrow, hb⟩
 ·have hH : Holds encZ W gb 0 zs.toArray := holds_of_block_i hgb (by simpa using r4);have hgl : gb < W.heap.size := (Array.getElem?_eq_some_iff.1 hgb).1;have hsz : zs.length < 4611686018427387904 := by omega
  have cS := callsIn_wide (n := n - 1) |>.2 (Go.Proofs.Tryd.slices_Sort_int gb 0 cap zs W hH hgl hsz)
  gi_wp2_with (gi_at_call 65; refine cS.mono ?_; rintro e w' ⟨rfl, nn, os, rfl⟩)
  go_ret
  exact ⟨_, rfl, ownsRow_sorted_i (by simp) hbase hgb r1 r2 r3, hb.grown (grownBy_sorted_i _) hb.size (fun j hj => by cases hj; exact hbase)⟩
end
theorem SortedSeq.ints_of {w : World} {A : Option Addr} {zs : List Int} (h : Kd.C (Kd.int .i64) w A zs.length zs) (c : Nat) : SortedSeq.Ints w.heap.size w (.slice A zs.length c) zs := by
 by_cases hz : zs = []
 ·subst hz; exact .inl ⟨A, c, rfl, rfl⟩
 ·have hp : 0 < zs.length := List.length_pos_iff.2 hz;obtain ⟨ad, e, h0⟩ := Kd.at_int h 0 (by omega) (by omega);subst e
  have hs : ad.spot = none := by
   have := World.cell?_spot h0;simpa [Addr.add] using this
  have hl : ad.block < w.heap.size := by
   have := World.block_lt_of_cell? w _ h0;simpa [Addr.add] using this
  obtain ⟨b, off, sp⟩ := ad;dsimp only at hs
  subst hs;refine .inr ⟨b, off, c, rfl, hl, fun j hj => ?_⟩;obtain ⟨ad2, e2, h2⟩ := Kd.at_int h (j : Int) (by omega) (by omega);cases e2
  have hpl : (⟨b, off, none⟩ : Addr).add j = ⟨b, off + j, none⟩ := by unfold Addr.add; split <;> simp_all
  rw [Int.toNat_natCast, hpl] at h2
  rw [h2]
  unfold rd
  rw [Int.toNat_natCast, List.getD_eq_getElem?_getD]
def SortedSeq.insZ (x : Int) : List Int → List Int
 | [] => [x]
 | y :: l => if x ≤ y then x :: y :: l else y :: SortedSeq.insZ x l
def SortedSeq.sortZ : List Int → List Int
 | [] => []
 | x :: l => SortedSeq.insZ x (SortedSeq.sortZ l)
theorem SortedSeq.insZ_perm (x : Int) : ∀ l, (SortedSeq.insZ x l).Perm (x :: l)
 | [] => List.Perm.refl _
 | y :: l => by
  unfold SortedSeq.insZ
  split
  ·exact List.Perm.refl _
  ·exact ((SortedSeq.insZ_perm x l).cons y).trans (List.Perm.swap x y l)
theorem SortedSeq.sortZ_perm : ∀ l, (SortedSeq.sortZ l).Perm l
 | [] => List.Perm.refl _
 | x :: l => (SortedSeq.insZ_perm x (SortedSeq.sortZ l)).trans ((SortedSeq.sortZ_perm l).cons x)
theorem SortedSeq.sortZ_len (l : List Int) : (SortedSeq.sortZ l).length = l.length := (SortedSeq.sortZ_perm l).length_eq
theorem SortedSeq.insZ_sorted (x : Int) : ∀ l, l.Pairwise (· ≤ ·) → (SortedSeq.insZ x l).Pairwise (· ≤ ·)
 | [], _ => by simp [SortedSeq.insZ]
 | y :: l, h => by
  rw [List.pairwise_cons] at h
  unfold SortedSeq.insZ
  by_cases c : x ≤ y
  ·rw [if_pos c, List.pairwise_cons]
   exact ⟨fun z hz => by rcases List.mem_cons.1 hz with rfl | hz; exact c; exact Int.le_trans c (h.1 z hz), List.pairwise_cons.2 h⟩
  ·rw [if_neg c, List.pairwise_cons]
   exact ⟨fun z hz => by rcases List.mem_cons.1 ((SortedSeq.insZ_perm x l).mem_iff.1 hz) with rfl | hz; omega; exact h.1 z hz, SortedSeq.insZ_sorted x l h.2⟩
theorem SortedSeq.sortZ_sorted : ∀ l, (SortedSeq.sortZ l).Pairwise (· ≤ ·)
 | [] => List.Pairwise.nil
 | x :: l => SortedSeq.insZ_sorted x _ (SortedSeq.sortZ_sorted l)
theorem SortedSeq.sortZ_uniq {a b : List Int} (hp : a.Perm b) (ha : a.Pairwise (· ≤ ·)) (hb : b.Pairwise (· ≤ ·)) : a = b :=
 List.Perm.eq_of_pairwise (le := (· ≤ ·)) (fun _ _ _ _ h1 h2 => Int.le_antisymm h1 h2) ha hb hp
theorem SortedSeq.merge_sortZ (l : List Int) : (l.mergeSort fun x y => decide (x ≤ y)) = SortedSeq.sortZ l := by
 refine SortedSeq.sortZ_uniq ((List.mergeSort_perm l _).trans (SortedSeq.sortZ_perm l).symm) ?_ (SortedSeq.sortZ_sorted l);have h := List.pairwise_mergeSort (le := fun x y : Int => decide (x ≤ y)) (fun a b c h1 h2 => by simp at h1 h2 ⊢; omega) (fun a b => by simp; omega) l;exact h.imp (fun h => by simpa using h)
/-- slices.Sorted(slices.Values(s)), the second call: at the first one's answer, in the world that it left -/
theorem SortedSeq.sorted_calls (A : Option Addr) (c : Nat) (zs : List Int) (w : World) (h : Kd.C (Kd.int .i64) w A zs.length zs) (hreach : zs.length * 8 ≤ 140737488351232) :
  Calls Tryd.prog 53 #[.func (.func 66) #[] #[.pointer (some ⟨w.heap.size, 0, none⟩)]] (w.alloc (.cells #[.slice A zs.length c] 23)) fun e W' => ∃ v, e = .returned v ∧ (Kd.int .i64).R 3 W' w.heap.size (fun _ => True) v (SortedSeq.sortZ zs) ∧ Below w.heap.size w W' := by
 have hB : Below w.heap.size w (w.alloc (.cells #[.slice A zs.length c] 23)) := below_alloc (Below.refl _ _) _;refine ((callsIn_wide (n := 6)).1 (SortedSeq.sorted 6 (by omega) w.heap.size (.slice A zs.length c) zs hreach _ (by simp) ((blk_cell (blk_new w _) 0).trans rfl) ?_)).mono ?_
 ·have h2 := (SortedSeq.ints_of h c).below hB;exact h2.elim (fun x => .inl x) (fun ⟨b, off, cap, e, hb, hc⟩ => .inr ⟨b, off, cap, e, by simp; omega, hc⟩)
 ·rintro e W' ⟨v, rfl, ho, hb⟩
  refine ⟨v, rfl, ?_, hB.trans (hb.mono (by simp))⟩;rw [SortedSeq.merge_sortZ] at ho
  exact Kd.R_lower (Kd.R_of_own (by rw [SortedSeq.sortZ_len]; exact ho) (fun _ _ => trivial)) (by simp)
end Go.Proofs.YtbdlelojlnhhfaaDoor.Pr
