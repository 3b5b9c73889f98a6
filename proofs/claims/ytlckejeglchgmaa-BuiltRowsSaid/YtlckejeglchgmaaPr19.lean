-- Printed by wip/tools/pp.py over the kit's print.py, several texts in one (wip/tools/mergepr.py); Lean checks it.
import Derived.WalkKit
import Derived.Test.YtlckejeglchgmaaShelf
import Derived.TacticsInMore
import Derived.Shelf.RegionOpen
import Derived.Shelf.Abstract
import Derived.RangeFuncNested
import Derived.RangeFuncLeaves
import Derived.RangeFuncCalls
import Derived.RangeFuncBox
import Derived.RangeFuncBound
import Derived.OwnWalkIn
import Derived.Maps.AppendAt
import Derived.LoopNIn
import Derived.LoopIn
import Derived.Lib.SlKeysI
import Derived.Test.YtlckejeglchgmaaPr0
import Derived.Test.YtlckejeglchgmaaPr1
import Derived.Test.YtlckejeglchgmaaPr5
namespace Go.Proofs.Ytlckejeglchgmaa.Pr
open Go.RowKit Go.Proofs.YtlckejeglchgmaaW.PrintWords Go.Proofs.YtlckejeglchgmaaW.PrintLast Go.Proofs.YtlckejeglchgmaaW.PrintMore
attribute [local go_sem] max2_int min2_int max_two min_two max_three min_three max_four min_four   -- for this text's walks alone
set_option linter.unusedVariables false
set_option linter.unusedSimpArgs false

-- given by hand
/-! ### slices_Sorted_int: function 47 -/
-- IMPORT Derived.RangeFuncBox
-- IMPORT Derived.RangeFuncLeaves
-- IMPORT Derived.RangeFuncNested
-- IMPORT Derived.RangeFuncBound
-- IMPORT Derived.RangeFuncCalls
-- IMPORT Derived.Shelf.Abstract
-- IMPORT Derived.Shelf.RegionOpen
-- IMPORT Derived.WalkKit
-- IMPORT Derived.OwnWalkIn
-- IMPORT Derived.TacticsInMore
-- IMPORT Derived.LoopNIn
-- IMPORT Derived.LoopIn
-- IMPORT Derived.Maps.AppendAt
-- IMPORT Derived.Lib.SlKeysI
-- IMPORT Derived.Test.YtlckejeglchgmaaShelf
-- words of info3
section
open Go.RowKit Go.Shelf Go.Maps Go.Sort
attribute [local go_sem] Oper.semAt_some
/-- the first k of a row, as a row read by places -/
def SortedSeq.upto (zs : List Int) (k : Nat) : List Int := (List.range k).map fun j => zs[j]?.getD 0
theorem SortedSeq.upto_succ (zs : List Int) (k : Nat) : SortedSeq.upto zs (k + 1) = SortedSeq.upto zs k ++ [zs[k]?.getD 0] := by simp [SortedSeq.upto, List.range_succ]
theorem SortedSeq.upto_length (zs : List Int) (k : Nat) : (SortedSeq.upto zs k).length = k := by simp [SortedSeq.upto]
theorem SortedSeq.upto_all (zs : List Int) : SortedSeq.upto zs zs.length = zs := by
  apply List.ext_getElem
  · simp [SortedSeq.upto]
  · intro i h1 h2
    simp [SortedSeq.upto, h2]
theorem SortedSeq.upto_take (zs : List Int) {k : Nat} (hk : k ≤ zs.length) : SortedSeq.upto zs k = zs.take k := by
  apply List.ext_getElem
  · simp [SortedSeq.upto, hk]
  · intro i h1 h2
    have : i < zs.length := by simp [SortedSeq.upto] at h1; omega
    simp [SortedSeq.upto, this]
/-- the slice value holds the numbers zs, below n₀ -/
def SortedSeq.Ints (n₀ : Nat) (W : World) (sv : Value) (zs : List Int) : Prop :=
  (∃ A c, sv = .slice A 0 c ∧ zs = []) ∨ ∃ b off cap, sv = .slice (some ⟨b, off, none⟩) zs.length cap ∧ b < n₀ ∧ ∀ j, j < zs.length → W.cell? ⟨b, off + j, none⟩ = some (.int .i64 (zs[j]?.getD 0))
theorem SortedSeq.Ints.below {n₀ : Nat} {A B : World} (h : Below n₀ A B) {sv : Value} {zs : List Int} : SortedSeq.Ints n₀ A sv zs → SortedSeq.Ints n₀ B sv zs
  | .inl e => .inl e
  | .inr ⟨b, off, cap, e, hb, hc⟩ => .inr ⟨b, off, cap, e, hb, fun j hj => (h.cell (p := ⟨b, off + j, none⟩) hb).trans (hc j hj)⟩
set_option maxRecDepth 100000 in
set_option maxHeartbeats 2000000 in
theorem SortedSeq.values1 (n : Nat) (hn : 1 ≤ n) (l Bs n₀ b off len cap : Nat) (zs : List Int) (hreach : len * 8 ≤ 140737488351232) (hb : b < n₀) (J Jx : List Int → World → Prop)
    (hY : ∀ pre x W, J pre W → pre.length < len → YieldAt Fence.wide (n - 1) Try.prog l #[.int .i64 x] W fun e W' =>
      (e = .returned (.bool true) ∧ J (pre ++ [x]) W' ∧ Below n₀ W W') ∨ (e = .returned (.bool false) ∧ Jx (pre ++ [x]) W'))
    (W : World) (hBs : W.cell? ⟨Bs, 0, none⟩ = some (.slice (some ⟨b, off, none⟩) len cap)) (hc : ∀ j, j < len → W.cell? ⟨b, off + j, none⟩ = some (.int .i64 (zs[j]?.getD 0))) (h0 : J [] W) :
    CallsIn Fence.wide n Try.prog 57 #[.func (.yield l) #[] #[], .pointer (some ⟨Bs, 0, none⟩)] W fun e W' => (∃ v, e = .returned v) ∧
      ((∃ ys, ys = SortedSeq.upto zs len ∧ J ys W') ∨ (∃ pre, (∃ k, k ≤ len ∧ pre = SortedSeq.upto zs k) ∧ Jx pre W')) := by
  refine callsIn_of_wp Try.func57 rfl trivial ?_ rfl
  simp only [Try.ntmps57, List.size_toArray, List.length_cons, List.length_nil, Nat.reduceAdd, Nat.reduceSub, Array.replicate_succ, Array.replicate_zero, List.push_toArray, List.append_toArray, List.nil_append, List.cons_append]
  gi_wp2
  gi_loopw [7] (fun i wr => ∃ k : Nat, k ≤ len ∧ i = .int .i64 k ∧ J (SortedSeq.upto zs k) wr ∧ Below n₀ W wr) (fun i _ => len - (intOf i).toNat)
  case atStart => exact ⟨0, Nat.zero_le _, rfl, h0, Below.refl _ _⟩
  case round =>
    obtain ⟨k, hk, rfl, hJs, hnx⟩ := hrel
    have hcx : k < len → wr.cell? ⟨b, off + k, none⟩ = some (.int .i64 (zs[k]?.getD 0)) := fun h => (hnx.cell (p := ⟨b, off + k, none⟩) hb).trans (hc k h)
    by_cases hlt : k < len
    · obtain ⟨fn, tmps, assign, body, hy, hR⟩ := hY _ (zs[k]?.getD 0) wr hJs (by rw [SortedSeq.upto_length]; exact hlt)
      have hcx' := hcx hlt
      gi_wp2
      refine hR.mono ?_
      rintro e W3 (⟨rfl, hJ3, hk3⟩ | ⟨rfl, hJx3⟩)
      · gi_wp2
        go_roundw
        case rel => exact ⟨k + 1, by omega, by simp, by rw [SortedSeq.upto_succ]; exact hJ3, hnx.trans hk3⟩
        case measure => simp [intOf]; omega
      · gi_wp2
        refine bodyPost_ret (results_none rfl _ _ _) rfl ?_
        exact ⟨⟨_, rfl⟩, .inr ⟨_, ⟨k + 1, by omega, (SortedSeq.upto_succ _ _).symm⟩, hJx3⟩⟩
    · obtain rfl : k = len := by omega
      gi_wp2
      go_end0
      exact ⟨⟨_, rfl⟩, .inl ⟨_, rfl, hJs⟩⟩
set_option maxRecDepth 100000 in
set_option maxHeartbeats 1000000 in
theorem SortedSeq.values1_nil (n : Nat) (l Bs c : Nat) (A : Option Addr) (J : List Int → World → Prop) (W : World) (hBs : W.cell? ⟨Bs, 0, none⟩ = some (.slice A 0 c)) (h0 : J [] W) :
    CallsIn Fence.wide n Try.prog 57 #[.func (.yield l) #[] #[], .pointer (some ⟨Bs, 0, none⟩)] W fun e W' => (∃ v, e = .returned v) ∧ J [] W' := by
  refine callsIn_of_wp Try.func57 rfl trivial ?_ rfl
  simp only [Try.ntmps57, List.size_toArray, List.length_cons, List.length_nil, Nat.reduceAdd, Nat.reduceSub, Array.replicate_succ, Array.replicate_zero, List.push_toArray, List.append_toArray, List.nil_append, List.cons_append]
  gi_wp2
  gi_loopw [7] (fun i wr => i = .int .i64 0 ∧ J [] wr) (fun _ _ => 0)
  case atStart => exact ⟨rfl, h0⟩
  case round =>
    obtain ⟨rfl, hJs⟩ := hrel
    gi_wp2
    go_end0
    exact ⟨⟨_, rfl⟩, hJs⟩
/-- slices.Values(s): the slice is boxed, the function value has the box -/
theorem SortedSeq.values (A : Option Addr) (len cap : Nat) (w : World) :
    Calls Try.prog 48 #[.slice A len cap] w fun e w' => e = .returned (.func (.func 57) #[] #[.pointer (some ⟨w.heap.size, 0, none⟩)]) ∧ w' = w.alloc (.cells #[.slice A len cap] 23) := by
  go_enter Try.func48, Try.ntmps48
  go_wp2
  go_ret
  exact ⟨rfl, rfl⟩
theorem SortedSeq.values_stops (n : Nat) (hn : 1 ≤ n) (Bs n₀ : Nat) (sv : Value) (zs : List Int) (hreach : zs.length * 8 ≤ 140737488351232) (w : World) (hBs : Bs < w.heap.size) (hn₀ : n₀ ≤ w.heap.size)
    (hc : w.cell? ⟨Bs, 0, none⟩ = some sv) (hI : SortedSeq.Ints n₀ w sv zs) :
    SeqStopsK Fence.wide n Try.prog 57 #[.pointer (some ⟨Bs, 0, none⟩)] (fun x : Int => #[Value.int .i64 x]) (Below n₀) (fun ys => ys = zs) (fun pre => pre <+: zs) zs.length w := fun l J Jx W hW _ _ hY h0 => by
  have hc' := (hW.cell (p := ⟨Bs, 0, none⟩) hBs).trans hc
  rcases hI.below (hW.mono hn₀) with ⟨A, c, rfl, rfl⟩ | ⟨b, off, cap, rfl, hb, hcs⟩
  · exact (SortedSeq.values1_nil n l Bs c A J W hc' h0).mono fun e W' ⟨he, hj⟩ => ⟨he, .inl ⟨_, rfl, hj⟩⟩
  · refine (SortedSeq.values1 n hn l Bs n₀ b off zs.length cap zs hreach hb J Jx hY W hc' hcs h0).mono ?_
    rintro e W' ⟨he, ⟨ys, rfl, hj⟩ | ⟨pre, ⟨k, hk, rfl⟩, hj⟩⟩
    · exact ⟨he, .inl ⟨_, SortedSeq.upto_all zs, hj⟩⟩
    · exact ⟨he, .inr ⟨_, by rw [SortedSeq.upto_take zs hk]; exact List.take_prefix _ _, hj⟩⟩
set_option maxRecDepth 100000 in
set_option maxHeartbeats 4000000 in
/-- slices.AppendSeq(nil, slices.Values(s)): a new row with the numbers of s -/
theorem SortedSeq.appendSeq (n : Nat) (hn : 3 ≤ n) (Bs : Nat) (sv : Value) (zs : List Int) (hreach : zs.length * 8 ≤ 140737488351232) (w : World) (hBs : Bs < w.heap.size)
    (hc : w.cell? ⟨Bs, 0, none⟩ = some sv) (hI : SortedSeq.Ints w.heap.size w sv zs) :
    CallsIn Fence.wide n Try.prog 62 #[.slice none 0 0, .func (.func 57) #[] #[.pointer (some ⟨Bs, 0, none⟩)]] w fun e W' => ∃ v, e = .returned v ∧ W'.ownsRow w.heap.size 3 1 v zs.length (zs.map (Value.int .i64)) ∧ (v = .slice none 0 0 ↔ zs = []) ∧ Below w.heap.size w W' := by
  have h1 : 1 ≤ n := by omega
  obtain ⟨i0, hi, hz0, hz1, hz2⟩ := info_parts info3
  refine callsIn_of_wp_marks Try.func62 rfl trivial ?_ rfl
  simp only [Try.ntmps62, List.size_toArray, List.length_cons, List.length_nil, Nat.reduceAdd, Nat.reduceSub, Array.replicate_succ, Array.replicate_zero, List.push_toArray, List.append_toArray, List.nil_append, List.cons_append]
  gi_wp2
  have bO := Boxed.new w 23 (.slice none 0 0)
  have hB0 : Below w.heap.size w (w.alloc (.cells #[.slice none 0 0] 23)) := (Below.refl _ w).alloc (Nat.le_refl _) _
  have hcB : (w.alloc (.cells #[.slice none 0 0] 23)).cell? ⟨Bs, 0, none⟩ = some sv := (hB0.cell (p := ⟨Bs, 0, none⟩) hBs).trans hc
  refine wpIn_rangeFunc_ownG rfl h1 (gf := 57) (lb := #[.pointer (some ⟨Bs, 0, none⟩)]) rfl trivial (enters_of Try.func57 (by kernel_rfl) rfl)
    (SortedSeq.values_stops (n - 1) (by omega) Bs w.heap.size sv zs hreach _ (by simp; omega) (by simp) hcB (hI.below hB0)) belowK_t (belowK_b (by simp)) (Below.refl _ _) (fun _ => rfl)
    (fun pre W => (∃ v, Boxed W w.heap.size 23 v ∧ W.ownsRow w.heap.size 3 1 v pre.length (pre.map (Value.int .i64)) ∧ (v = .slice none 0 0 ↔ pre = [])) ∧ Below w.heap.size w W)
    (fun _ _ _ => False)
    (OwnFrom.and (Own.from (holdsRow_own w.heap.size w.heap.size 23 3 1 (fun pre : List Int => pre.length) (fun pre => pre.map (Value.int .i64)) (fun pre v => v = .slice none 0 0 ↔ pre = [])) _) (ownFrom_below (Nat.le_refl _) (by simp)))
    (fun _ _ _ _ _ hs _ _ => hs)
    ⟨⟨_, bO, World.ownsRow_nil _ _ _ _, by simp⟩, hB0⟩
    (fun x => { tmps := #[.slice none 0 0, .func (.func 57) #[] #[.pointer (some ⟨Bs, 0, none⟩)], .pointer (some ⟨w.heap.size, 0, none⟩), undef, .slice none 0 0, .int .i64 x, .func (.func 57) #[] #[.pointer (some ⟨Bs, 0, none⟩)], .int .i64 x, undef, undef, undef, undef, undef], defers := [] }) ?assign ?body ?done ?stop
  case assign =>
    intro l x W K hK
    gi_wp2
    exact hK
  case body =>
    rintro l pre x W ⟨⟨v, hv, hrow, hnil⟩, hB⟩ hlt
    have hc := hv.cell
    gi_wp2_with (gi_at_builtin; refine wpListIn_append_own _ rfl _ _ 23 rfl w.heap.size 3 i0 (.int .i64 0) 1 8 Try.underlying23 hi hz0 hz1 hz2 rfl (by decide) _ _ _ rfl (hrow.alloc _) ⟨W.heap.size, 0, none⟩ 1 1 [.int .i64 x] rfl rfl (cell_one_new _ _ _) (by simp [Value.oneCell']) (by unfold maxLen; omega) (by omega) (by have := hB.size; simp; omega) ?_; intro v' w1 hown' hgrow _; obtain ⟨g', cap', rfl⟩ := ownsRow_succ hown'; obtain ⟨hv1, hv2, hr2, hk2, hb2⟩ := hv.appended (by decide) hrow hB.size (Nat.le_refl _) hown' hgrow; have hc1 := hv1.cell; have hf1 := hv1.frozen)
    exact ⟨hk2.from _, hb2, ⟨_, hv2, by simpa using hr2, by simp⟩, hB.trans hb2⟩
  case done =>
    rintro D ys W hD rfl ⟨⟨v, hv, hrow, hnil⟩, hB⟩ hK
    have hc := hv.cell
    gi_wp2
    refine ⟨by simp, .inl ⟨_, _, rfl, run_takeDeferred hK, ?_⟩⟩
    exact ⟨_, results_tmp rfl _ _ _, v, rfl, ownsRow_putObj hrow _ hK rfl, hnil, hB.trans (belowK_b (w := w) (Nat.le_refl _) W D _ _ (by simp at hD; omega) hK rfl rfl)⟩
  case stop =>
    rintro D c pre W _ _ h _
    exact h.elim
set_option maxHeartbeats 2000000 in
theorem SortedSeq.collect (n : Nat) (hn : 4 ≤ n) (Bs : Nat) (sv : Value) (zs : List Int) (hreach : zs.length * 8 ≤ 140737488351232) (w : World) (hBs : Bs < w.heap.size)
    (hc : w.cell? ⟨Bs, 0, none⟩ = some sv) (hI : SortedSeq.Ints w.heap.size w sv zs) :
    CallsIn Fence.wide n Try.prog 55 #[.func (.func 57) #[] #[.pointer (some ⟨Bs, 0, none⟩)]] w fun e W' => ∃ v, e = .returned v ∧ W'.ownsRow w.heap.size 3 1 v zs.length (zs.map (Value.int .i64)) ∧ (v = .slice none 0 0 ↔ zs = []) ∧ Below w.heap.size w W' := by
  have h1 : 1 ≤ n := by omega
  have cA := SortedSeq.appendSeq (n - 1) (by omega) Bs sv zs hreach w hBs hc hI
  have hfA : Fence.wide.fn 62 := trivial
  refine callsIn_of_wp Try.func55 rfl trivial ?_ rfl
  simp only [Try.ntmps55, List.size_toArray, List.length_cons, List.length_nil, Nat.reduceAdd, Nat.reduceSub, Array.replicate_succ, Array.replicate_zero, List.push_toArray, List.append_toArray, List.nil_append, List.cons_append]
  gi_wp2_with (gi_at_call 62; refine cA.mono ?_; rintro e w' ⟨v, rfl, hrow, hnil, hb⟩)
  go_ret
  exact ⟨_, rfl, hrow, hnil, hb⟩
theorem SortedSeq.sorted (n : Nat) (hn : 5 ≤ n) (Bs : Nat) (sv : Value) (zs : List Int) (hreach : zs.length * 8 ≤ 140737488351232) (w : World) (hBs : Bs < w.heap.size)
    (hc : w.cell? ⟨Bs, 0, none⟩ = some sv) (hI : SortedSeq.Ints w.heap.size w sv zs) :
    CallsIn Fence.wide n Try.prog 47 #[.func (.func 57) #[] #[.pointer (some ⟨Bs, 0, none⟩)]] w fun e W' => ∃ v, e = .returned v ∧ W'.ownsRow w.heap.size 3 1 v zs.length ((zs.mergeSort fun x y => decide (x ≤ y)).map (Value.int .i64)) ∧ Below w.heap.size w W' := by
  have h1 : 1 ≤ n := by omega
  have cC := SortedSeq.collect (n - 1) (by omega) Bs sv zs hreach w hBs hc hI
  have hfC : Fence.wide.fn 55 := trivial
  have hfS : Fence.wide.fn 56 := trivial
  refine callsIn_of_wp Try.func47 rfl trivial ?_ rfl
  simp only [Try.ntmps47, List.size_toArray, List.length_cons, List.length_nil, Nat.reduceAdd, Nat.reduceSub, Array.replicate_succ, Array.replicate_zero, List.push_toArray, List.append_toArray, List.nil_append, List.cons_append]
  gi_wp2_with (gi_at_call 55; refine cC.mono ?_; rintro e W ⟨v, rfl, hrow, hnil, hb⟩)
  rcases hrow.2 with ⟨rfl, hz⟩ | ⟨gb, cap, cur, rfl, hbase, hgb, r1, r2, r3, r4⟩
  · obtain rfl : zs = [] := List.eq_nil_of_length_eq_zero hz
    have cS := callsIn_wide (n := n - 1) |>.2 (Go.Proofs.Try.slices_Sort_int_none none 0 W)
    gi_wp2_with (gi_at_call 56; refine cS.mono ?_; rintro e w' ⟨rfl, rfl⟩)
    go_ret
    exact ⟨_, rfl, by simpa using hrow, hb⟩
  · have hH : Holds encZ W gb 0 zs.toArray := holds_of_block_i hgb (by simpa using r4)
    have hgl : gb < W.heap.size := (Array.getElem?_eq_some_iff.1 hgb).1
    have hsz : zs.length < 4611686018427387904 := by omega
    have cS := callsIn_wide (n := n - 1) |>.2 (Go.Proofs.Try.slices_Sort_int gb 0 cap zs W hH hgl hsz)
    gi_wp2_with (gi_at_call 56; refine cS.mono ?_; rintro e w' ⟨rfl, nn, os, rfl⟩)
    go_ret
    exact ⟨_, rfl, ownsRow_sorted_i (by simp) hbase hgb r1 r2 r3, hb.grown (grownBy_sorted_i _) hb.size (fun j hj => by cases hj; exact hbase)⟩
end
theorem SortedSeq.ints_of {w : World} {A : Option Addr} {zs : List Int} (h : Kd.C (Kd.int .i64) w A zs.length zs) (c : Nat) : SortedSeq.Ints w.heap.size w (.slice A zs.length c) zs := by
  by_cases hz : zs = []
  · subst hz; exact .inl ⟨A, c, rfl, rfl⟩
  · have hp : 0 < zs.length := List.length_pos_iff.2 hz
    obtain ⟨ad, e, h0⟩ := Kd.at_int h 0 (by omega) (by omega)
    subst e
    have hs : ad.spot = none := by
      have := World.cell?_spot h0
      simpa [Addr.add] using this
    have hl : ad.block < w.heap.size := by
      have := World.block_lt_of_cell? w _ h0
      simpa [Addr.add] using this
    obtain ⟨b, off, sp⟩ := ad
    dsimp only at hs
    subst hs
    refine .inr ⟨b, off, c, rfl, hl, fun j hj => ?_⟩
    obtain ⟨ad2, e2, h2⟩ := Kd.at_int h (j : Int) (by omega) (by omega)
    cases e2
    have hpl : (⟨b, off, none⟩ : Addr).add j = ⟨b, off + j, none⟩ := by unfold Addr.add; split <;> simp_all
    rw [Int.toNat_natCast, hpl] at h2
    rw [h2]
    unfold rd
    rw [Int.toNat_natCast, List.getD_eq_getElem?_getD]
def SortedSeq.insZ (x : Int) : List Int → List Int
  | [] => [x]
  | y :: l => if x ≤ y then x :: y :: l else y :: SortedSeq.insZ x l
def SortedSeq.sortZ : List Int → List Int
  | [] => []
  | x :: l => SortedSeq.insZ x (SortedSeq.sortZ l)
theorem SortedSeq.insZ_perm (x : Int) : ∀ l, (SortedSeq.insZ x l).Perm (x :: l)
  | [] => List.Perm.refl _
  | y :: l => by
    unfold SortedSeq.insZ
    split
    · exact List.Perm.refl _
    · exact ((SortedSeq.insZ_perm x l).cons y).trans (List.Perm.swap x y l)
theorem SortedSeq.sortZ_perm : ∀ l, (SortedSeq.sortZ l).Perm l
  | [] => List.Perm.refl _
  | x :: l => (SortedSeq.insZ_perm x (SortedSeq.sortZ l)).trans ((SortedSeq.sortZ_perm l).cons x)
theorem SortedSeq.sortZ_len (l : List Int) : (SortedSeq.sortZ l).length = l.length := (SortedSeq.sortZ_perm l).length_eq
theorem SortedSeq.insZ_sorted (x : Int) : ∀ l, l.Pairwise (· ≤ ·) → (SortedSeq.insZ x l).Pairwise (· ≤ ·)
  | [], _ => by simp [SortedSeq.insZ]
  | y :: l, h => by
    rw [List.pairwise_cons] at h
    unfold SortedSeq.insZ
    by_cases c : x ≤ y
    · rw [if_pos c, List.pairwise_cons]
      exact ⟨fun z hz => by rcases List.mem_cons.1 hz with rfl | hz; exact c; exact Int.le_trans c (h.1 z hz), List.pairwise_cons.2 h⟩
    · rw [if_neg c, List.pairwise_cons]
      exact ⟨fun z hz => by rcases List.mem_cons.1 ((SortedSeq.insZ_perm x l).mem_iff.1 hz) with rfl | hz; omega; exact h.1 z hz, SortedSeq.insZ_sorted x l h.2⟩
theorem SortedSeq.sortZ_sorted : ∀ l, (SortedSeq.sortZ l).Pairwise (· ≤ ·)
  | [] => List.Pairwise.nil
  | x :: l => SortedSeq.insZ_sorted x _ (SortedSeq.sortZ_sorted l)
theorem SortedSeq.sortZ_uniq {a b : List Int} (hp : a.Perm b) (ha : a.Pairwise (· ≤ ·)) (hb : b.Pairwise (· ≤ ·)) : a = b :=
  List.Perm.eq_of_pairwise (le := (· ≤ ·)) (fun _ _ _ _ h1 h2 => Int.le_antisymm h1 h2) ha hb hp
theorem SortedSeq.merge_sortZ (l : List Int) : (l.mergeSort fun x y => decide (x ≤ y)) = SortedSeq.sortZ l := by
  refine SortedSeq.sortZ_uniq ((List.mergeSort_perm l _).trans (SortedSeq.sortZ_perm l).symm) ?_ (SortedSeq.sortZ_sorted l)
  have h := List.pairwise_mergeSort (le := fun x y : Int => decide (x ≤ y)) (fun a b c h1 h2 => by simp at h1 h2 ⊢; omega) (fun a b => by simp; omega) l
  exact h.imp (fun h => by simpa using h)
/-- slices.Sorted(slices.Values(s)), the second call: at the first one's answer, in the world that it left -/
theorem SortedSeq.sorted_calls (A : Option Addr) (c : Nat) (zs : List Int) (w : World) (h : Kd.C (Kd.int .i64) w A zs.length zs) (hreach : zs.length * 8 ≤ 140737488351232) :
    Calls Try.prog 47 #[.func (.func 57) #[] #[.pointer (some ⟨w.heap.size, 0, none⟩)]] (w.alloc (.cells #[.slice A zs.length c] 23)) fun e W' => ∃ v, e = .returned v ∧ (Kd.int .i64).R 3 W' w.heap.size (fun _ => True) v (SortedSeq.sortZ zs) ∧ Below w.heap.size w W' := by
  have hB : Below w.heap.size w (w.alloc (.cells #[.slice A zs.length c] 23)) := below_alloc (Below.refl _ _) _
  refine ((callsIn_wide (n := 6)).1 (SortedSeq.sorted 6 (by omega) w.heap.size (.slice A zs.length c) zs hreach _ (by simp) ((blk_cell (blk_new w _) 0).trans rfl) ?_)).mono ?_
  · have h2 := (SortedSeq.ints_of h c).below hB
    exact h2.elim (fun x => .inl x) (fun ⟨b, off, cap, e, hb, hc⟩ => .inr ⟨b, off, cap, e, by simp; omega, hc⟩)
  · rintro e W' ⟨v, rfl, ho, hb⟩
    refine ⟨v, rfl, ?_, hB.trans (hb.mono (by simp))⟩
    rw [SortedSeq.merge_sortZ] at ho
    exact Kd.R_lower (Kd.R_of_own (by rw [SortedSeq.sortZ_len]; exact ho) (fun _ _ => trivial)) (by simp)

end Go.Proofs.Ytlckejeglchgmaa.Pr
namespace Go.Proofs.Ytlckejeglchgmaa.Pr
open Go.RowKit Go.Proofs.YtlckejeglchgmaaW.PrintWords Go.Proofs.YtlckejeglchgmaaW.PrintLast Go.Proofs.YtlckejeglchgmaaW.PrintMore
attribute [local go_sem] max2_int min2_int max_two min_two max_three min_three max_four min_four   -- for this text's walks alone
set_option linter.unusedVariables false
set_option linter.unusedSimpArgs false

-- given by hand
/-! ### built_diff: function 31 -/
-- needs slices_Sorted_int tuple_Rising
theorem rising_l0 (l : List Int) (hl : l.length < 1000000000) : ∀ (d i : Nat), 1 ≤ i → i + d = l.length + 1 → tuple_Rising.l0 (d + 1) l (i : Int) = some (risingB (l.drop (i - 1)))
  | 0, i, h1, h => by
    rw [tuple_Rising.l0, if_neg (by omega), rising_end l (i - 1) (by omega)]
  | d + 1, i, h1, h => by
    by_cases hi : i < l.length
    · have hw1 : wrap64 ((i : Int) - 1) = ((i - 1 : Nat) : Int) := by rw [wrap_id (by omega) (by omega)]; omega
      have hw2 : wrap64 ((i : Int) + 1) = ((i + 1 : Nat) : Int) := by rw [wrap_succ (by omega) (by omega)]; rfl
      have e1 : rd l (i : Int) = l[i] := rd_nat l i _ (List.getElem?_eq_getElem hi)
      have e2 : rd l ((i - 1 : Nat) : Int) = l[i - 1] := rd_nat l (i - 1) _ (List.getElem?_eq_getElem (by omega))
      have hs := rising_step l (i - 1) l[i - 1] l[i] (List.getElem?_eq_getElem (by omega)) (by rw [show i - 1 + 1 = i by omega]; exact List.getElem?_eq_getElem hi)
      rw [tuple_Rising.l0, if_pos (by omega), if_pos (by omega), hw1, hw2, if_pos (by omega), if_pos (by omega), e1, e2, hs]
      by_cases c : l[i] ≤ l[i - 1]
      · rw [if_pos c, if_pos c]
      · rw [if_neg c, if_neg c, rising_l0 l hl d (i + 1) (by omega) (by omega), show i + 1 - 1 = i from by omega, show i - 1 + 1 = i from by omega]
    · rw [tuple_Rising.l0, if_neg (by omega), rising_end l (i - 1) (by omega)]
theorem rising_f (l : List Int) (hl : l.length < 1000000000) : tuple_Rising.f (l.length + 1) l = some (risingB l) := by
  rw [tuple_Rising.f]
  by_cases h : l.length = 0
  · have e : l = [] := List.eq_nil_of_length_eq_zero h
    subst e
    rfl
  · have := rising_l0 l hl l.length 1 (Nat.le_refl _) (by omega)
    exact this
def built_diff.f (l0 : List Int) : Option Bool := if l0.length < 100000000 then some (risingB (SortedSeq.sortZ l0)) else none
set_option maxHeartbeats 4000000 in
theorem built_diff.calls (A0 : Option Addr) (c0 : Nat) (l0 : List Int) (r : Bool) (w : World) (hr0 : Kd.C (Kd.int .i64) w A0 l0.length l0) (hc0 : l0.length ≤ c0) (h : built_diff.f l0 = some r) :
    Calls Try.prog 31 #[.slice A0 l0.length c0] w fun e w' => e = .returned (.bool r) ∧ Below w.heap.size w w' := by
  unfold built_diff.f at h
  by_cases c2 : l0.length < 100000000
  · rw [if_pos c2] at h
    have HE := Aside0.mk (Option.some.inj h)
    have HV := Aside0.mk (SortedSeq.values A0 l0.length c0 w)
    have HS := Aside0.mk (SortedSeq.sorted_calls A0 c0 l0 w hr0 (by omega))
    have HRF := Aside0.mk (rising_f (SortedSeq.sortZ l0) (by rw [SortedSeq.sortZ_len]; omega))
    obtain ⟨m, hm2⟩ : ∃ m, m = l0.length := ⟨_, rfl⟩
    rw [← hm2] at HV HS ⊢
    clear h hm2 hr0 hc0 c2
    go_enter Try.func31, Try.ntmps31
    go_wp2_with (first
      | (go_at_call 48; refine HV.out.mono ?_; rintro e w1 ⟨rfl, rfl⟩)
      | (go_at_call 47; refine HS.out.mono ?_; rintro e w1 ⟨v, rfl, ho, hb⟩; have HB := Aside0.mk hb; obtain ⟨Ao, co, eo⟩ := Kd.R_slice ho; subst eo; have HO := Aside0.mk (Kd.R_reads' ho); clear ho hb)
      | (go_at_call 34; refine (tuple_Rising.calls _ Ao co (SortedSeq.sortZ l0) _ w1 HO.out.2.2 HO.out.2.1 HRF.out).mono ?_; rintro e w2 ⟨rfl, ⟨nd, rfl⟩⟩; have HB2 := Aside0.mk (pw_below_drewN HB.out nd)))
    go_ret
    exact ⟨congrArg (fun b => Ending.returned (Value.bool b)) HE.out, HB2.out⟩
  · rw [if_neg c2] at h
    cases h

end Go.Proofs.Ytlckejeglchgmaa.Pr
namespace Go.Proofs.Ytlckejeglchgmaa.Pr
open Go.RowKit Go.Proofs.YtlckejeglchgmaaW.PrintWords Go.Proofs.YtlckejeglchgmaaW.PrintLast Go.Proofs.YtlckejeglchgmaaW.PrintMore
attribute [local go_sem] max2_int min2_int max_two min_two max_three min_three max_four min_four   -- for this text's walks alone
set_option linter.unusedVariables false
set_option linter.unusedSimpArgs false

-- given by hand
/-! ### slices_IndexFunc_int_int: function 49 -/
set_option maxHeartbeats 2000000 in
theorem slices_IndexFunc_int_int.callsP {α : Type} (d : Kd α) (h1 : d.sz = 1) (p : α → Bool) (g : Nat) (lb : Array Value) (eg : ∀ args w, (callFunc g args).run Try.prog w = .ok (.enter g args) w) (A : Option Addr) (c : Nat) (xs : List α) (w : World)
    (hp : PredKd Try.prog g lb d xs p w) (hr : d.C w A xs.length xs) :
    Calls Try.prog 49 #[.slice A xs.length c, .func (.func g) #[] lb] w fun e w' => e = .returned (.int .i64 (idxOf p xs 0)) ∧ Below w.heap.size w w' := by
  have HP := Aside0.mk hp
  have HR := Aside0.mk hr
  have hlen := hr.2.1
  obtain ⟨n, hn⟩ : ∃ n, n = xs.length := ⟨_, rfl⟩
  rw [← hn] at hlen ⊢
  have HN := Aside0.mk hn
  clear hp hr hn
  go_enter Try.func49, Try.ntmps49
  go_wp2
  go_loopg [5, 8] n (fun gg _ s8 wr => ∃ kk : Nat, s8 = .int .i64 kk ∧ kk ≤ n ∧ Aside0 (n - kk ≤ gg) ∧ Aside0 (Below w.heap.size w wr) ∧ Aside0 (idxOf p (xs.drop kk) kk = idxOf p xs 0))
  case atStart => exact ⟨0, rfl, Nat.zero_le _, ⟨Nat.le_refl _⟩, ⟨Below.refl _ _⟩, ⟨rfl⟩⟩
  case round =>
    obtain ⟨kk, rfl, hkk, HG, HB, HI⟩ := hrel
    by_cases hlt : kk < n
    · have hltz : (kk : Int) < (n : Int) := by omega
      obtain ⟨ad, v, x, rfl, hx, hxm, hk, hcell⟩ := elem_one h1 HR.out HB.out kk (by rw [← HN.out]; exact hlt)
      have hcall := HP.out x hxm wr v HB.out (d.K_below HB.out hk)
      have HX := Aside0.mk hx
      clear hx hxm hk
      cases hq : p x with
      | true =>
        rw [hq] at hcall
        have HQ := Aside0.mk hq
        have HCC := Aside0.mk hcall
        clear hq hcall
        go_wp2_with (go_at_fn g; refine HCC.out.mono ?_; rintro e w' ⟨rfl, hb⟩; have HB2 := Aside0.mk hb; clear hb)
        go_ret
        refine ⟨ret_int ?_, below_then HB.out (below_size HB.out) HB2.out⟩
        rw [← HI.out, idx_step p xs kk x HX.out, if_pos HQ.out]
      | false =>
        rw [hq] at hcall
        have HQ := Aside0.mk hq
        have HCC := Aside0.mk hcall
        clear hq hcall
        go_wp2_with (go_at_fn g; refine HCC.out.mono ?_; rintro e w' ⟨rfl, hb⟩; have HB2 := Aside0.mk hb; clear hb)
        go_roundg (n - (kk + 1))
        case measure => have := HG.out; omega
        case rel =>
          refine ⟨kk + 1, by go_num, by omega, ⟨Nat.le_refl _⟩, ⟨below_then HB.out (below_size HB.out) HB2.out⟩, ⟨?_⟩⟩
          rw [← HI.out, idx_step p xs kk x HX.out, if_neg (by rw [HQ.out]; simp)]
    · have hltz : ¬ (kk : Int) < (n : Int) := by omega
      have : kk = n := by omega
      subst this
      go_wp2
      go_ret
      refine ⟨ret_int ?_, HB.out⟩
      rw [← HI.out, List.drop_eq_nil_of_le (by rw [HN.out]; exact Nat.le_refl _)]
      rfl

end Go.Proofs.Ytlckejeglchgmaa.Pr
namespace Go.Proofs.Ytlckejeglchgmaa.Pr
open Go.RowKit Go.Proofs.YtlckejeglchgmaaW.PrintWords Go.Proofs.YtlckejeglchgmaaW.PrintLast Go.Proofs.YtlckejeglchgmaaW.PrintMore
attribute [local go_sem] max2_int min2_int max_two min_two max_three min_three max_four min_four   -- for this text's walks alone
set_option linter.unusedVariables false
set_option linter.unusedSimpArgs false

-- given by hand
/-! ### slices_ContainsFunc_int_int: function 32 -/
set_option maxHeartbeats 2000000 in
theorem slices_ContainsFunc_int_int.callsP {α : Type} (d : Kd α) (h1 : d.sz = 1) (p : α → Bool) (g : Nat) (lb : Array Value) (eg : ∀ args w, (callFunc g args).run Try.prog w = .ok (.enter g args) w) (A : Option Addr) (c : Nat) (xs : List α) (w : World)
    (hp : PredKd Try.prog g lb d xs p w) (hr : d.C w A xs.length xs) :
    Calls Try.prog 32 #[.slice A xs.length c, .func (.func g) #[] lb] w fun e w' => e = .returned (.bool (xs.any p)) ∧ Below w.heap.size w w' := by
  have HC := Aside0.mk (slices_IndexFunc_int_int.callsP d h1 p g lb eg A c xs w hp hr)
  have HN := Aside0.mk (idx_nonneg p xs 0 (by omega))
  clear hp hr
  obtain ⟨z, hz⟩ : ∃ z, z = idxOf p xs 0 := ⟨_, rfl⟩
  rw [← hz] at HC HN
  rw [← HN.out]
  clear HN hz
  go_enter Try.func32, Try.ntmps32
  go_wp2_with (go_at_call 49; refine HC.out.mono ?_; rintro e w' ⟨rfl, hb⟩; have HB2 := Aside0.mk hb; clear hb)
  go_ret
  exact ⟨rfl, HB2.out⟩

end Go.Proofs.Ytlckejeglchgmaa.Pr
namespace Go.Proofs.Ytlckejeglchgmaa.Pr
open Go.RowKit Go.Proofs.YtlckejeglchgmaaW.PrintWords Go.Proofs.YtlckejeglchgmaaW.PrintLast Go.Proofs.YtlckejeglchgmaaW.PrintMore
attribute [local go_sem] max2_int min2_int max_two min_two max_three min_three max_four min_four   -- for this text's walks alone
set_option linter.unusedVariables false
set_option linter.unusedSimpArgs false

/-! ### built_linear: function 35 -/
def built_linear.l0 : Nat → List Int → Int → Int → Int → List Int → Int → Int → Option (Bool)
  | 0, _, _, _, _, _, _, _ => none
  | k + 1, x0, x5, x6, x7, x22, x23, x24 => if x24 < x23 then (if 0 ≤ x24 then (if x24 < (x22.length : Int) then (if x24 < (x0.length : Int) then (built_linear.l0 k x0 x5 (wrap64 (x6 + (wrap64 ((rd x0 x24) * (rd x22 x24))))) x7 x22 x23 (wrap64 (x24 + 1))) else (none)) else (none)) else (none)) else (if 0 ≤ x5 then (if x5 < (x0.length : Int) then (if (rd x0 x5) = 0 then (some (x6 == x7)) else (if (rd x0 x5) = 1 then (some (decide (x6 ≤ x7))) else (if (rd x0 x5) = 2 then (some (x6 != x7)) else (some false)))) else (none)) else (none))
def built_linear.f (k : Nat) (l0 : List Int) (l1 : List Int) : Option (Bool) := if (l0.length : Int) = (wrap64 ((l1.length : Int) + 2)) then (if 0 ≤ (wrap64 ((l1.length : Int) + 1)) then (if (wrap64 ((l1.length : Int) + 1)) < (l0.length : Int) then (built_linear.l0 k l0 (l1.length : Int) 0 (rd l0 (wrap64 ((l1.length : Int) + 1))) l1 (l1.length : Int) 0) else (none)) else (none)) else (some false)
theorem built_linear.mono_l : ∀ k, (∀ y0 y1 y2 y3 y4 y5 y6, LeO (built_linear.l0 k y0 y1 y2 y3 y4 y5 y6) (built_linear.l0 (k + 1) y0 y1 y2 y3 y4 y5 y6))
  | 0 => fun _ _ _ _ _ _ _ r h => by simp [built_linear.l0] at h
  | k + 1 => by
    have ih0 := built_linear.mono_l k
    all_goals intros
    all_goals (first | unfold built_linear.l0)
    all_goals repeat' first
    | (with_reducible exact ih0 _ _ _ _ _ _ _)
    | (with_reducible exact LeO.refl _)
    | (with_reducible exact LeO.none _)
    | (with_reducible refine LeO.ite ?_ ?_)
    | (with_reducible refine LeO.bind ?_ (fun _ => ?_))
    | exact ih0 _ _ _ _ _ _ _
    | exact LeO.none _
    | refine LeO.ite ?_ ?_
    | refine LeO.bind ?_ (fun _ => ?_)
theorem built_linear.mono : ∀ a0 a1 k, LeO (built_linear.f k a0 a1) (built_linear.f (k + 1) a0 a1) := by
  intro a0 a1 k
  have ih0 := built_linear.mono_l k
  unfold built_linear.f
  repeat' first
      | (with_reducible exact ih0 _ _ _ _ _ _ _)
      | (with_reducible exact LeO.refl _)
      | (with_reducible exact LeO.none _)
      | (with_reducible refine LeO.ite ?_ ?_)
      | (with_reducible refine LeO.bind ?_ (fun _ => ?_))
      | exact ih0 _ _ _ _ _ _ _
      | exact LeO.none _
      | refine LeO.ite ?_ ?_
      | refine LeO.bind ?_ (fun _ => ?_)
set_option maxHeartbeats 8000000 in
set_option maxRecDepth 100000 in
theorem built_linear.calls (k : Nat) (A0 : Option Addr) (c0 : Nat) (l0 : List Int) (A1 : Option Addr) (c1 : Nat) (l1 : List Int) (r : Bool) (w : World) (hr0 : Kd.C (Kd.int .i64) w A0 l0.length l0) (hc0 : l0.length ≤ c0) (hr1 : Kd.C (Kd.int .i64) w A1 l1.length l1) (hc1 : l1.length ≤ c1) (h : built_linear.f k l0 l1 = some r) :
    Calls Try.prog 35 #[.slice A0 l0.length c0, .slice A1 l1.length c1] w fun e w' => e = .returned (.bool r) ∧ Drawn0 w w' := by
  have HR0 := Aside0.mk hr0
  have HC0 := Aside0.mk hc0
  clear hr0 hc0
  have HR1 := Aside0.mk hr1
  have HC1 := Aside0.mk hc1
  clear hr1 hc1
  have H : (if (l0.length : Int) = (wrap64 ((l1.length : Int) + 2)) then (if 0 ≤ (wrap64 ((l1.length : Int) + 1)) then (if (wrap64 ((l1.length : Int) + 1)) < (l0.length : Int) then (built_linear.l0 k l0 (l1.length : Int) 0 (rd l0 (wrap64 ((l1.length : Int) + 1))) l1 (l1.length : Int) 0) else (none)) else (none)) else (some false)) = some r := h
  clear h
  by_cases c3 : (l0.length : Int) = (wrap64 ((l1.length : Int) + 2))
  · rw [if_pos c3] at H
    have c3b0 : ((l0.length : Int) == (wrap64 ((l1.length : Int) + 2))) = true := beq_iff_eq.mpr c3
    have c3b1 : ((l0.length : Int) != (wrap64 ((l1.length : Int) + 2))) = false := bne_eq_false_iff_eq.mpr c3
    clear c3
    obtain ⟨ji4, hji4⟩ : ∃ j_ : Int, (wrap64 ((l1.length : Int) + 1)) = j_ := ⟨_, rfl⟩
    replace H : (if 0 ≤ (ji4) then (if (ji4) < (l0.length : Int) then (built_linear.l0 k l0 (l1.length : Int) 0 (rd l0 (ji4)) l1 (l1.length : Int) 0) else (none)) else (none)) = some r := by first | (rw [hji4] at H; exact H) | (simp only [hji4] at H ⊢; exact H)
    have hji4w : (IntKind.i64.wrap ((l1.length : Int) + 1)) = ji4 := (i64_w _).trans hji4
    by_cases c5 : 0 ≤ (ji4)
    · rw [if_pos c5] at H
      have c5b0 : decide (0 ≤ (ji4)) = true := decide_eq_true c5
      clear c5
      by_cases c6 : (ji4) < (l0.length : Int)
      · rw [if_pos c6] at H
        have c6b0 : decide ((ji4) < (l0.length : Int)) = true := decide_eq_true c6
        clear c6
        have H' := Aside0.mk H
        clear H
        have p229 : 0 ≤ ((ji4) : Int) := of_decide_eq_true (by first | (with_reducible assumption) | assumption)
        have q229 : (ji4) < (l0.length : Int) := of_decide_eq_true (by first | (with_reducible assumption) | assumption)
        obtain ⟨ad229, e229, hx229_0⟩ := Kd.at_int HR0.out (ji4) p229 q229
        cases e229
        replace p229 := eq_true p229
        replace q229 := eq_true q229
        go_enter Try.func35, Try.ntmps35
        go_wp2
        repeat (go_quiet (fail); try go_wp2)
        go_loopg [6, 24] k (fun kq v6 v24 w' => ∃ (x6_1 : Int) (x24_1 : Int), v6 = .int .i64 x6_1 ∧ v24 = .int .i64 x24_1 ∧ Aside0 (built_linear.l0 kq l0 (l1.length : Int) x6_1 (rd l0 (ji4)) l1 (l1.length : Int) x24_1 = some r) ∧ Aside0 (kq ≤ k) ∧ Drawn0 w w')
        case atStart => exact ⟨(0), (0), (by first | rfl | (simp; done) | (simp [*]; done)), (by first | rfl | (simp; done) | (simp [*]; done)), H', ⟨Nat.le_refl _⟩, by repeat (first | exact Drawn0.refl _ | apply Drawn0.step)⟩
        case round =>
          clear H'
          try clear c1
          try clear p2
          try clear q2
          try clear hx2
          try clear c3
          try clear c3b0
          try clear c3b1
          try clear c5
          try clear c5b0
          try clear c6
          try clear c6b0
          try clear p6
          try clear hx229_0
          try clear p229
          try clear q229
          obtain ⟨x6_1, x24_1, rfl, rfl, HA, HK1, ⟨m1, rfl⟩⟩ := hrel
          cases gk with
          | zero => exact absurd HA.out (by simp [built_linear.l0])
          | succ k1 =>
            have H := HA.out
            clear HA
            simp only [built_linear.l0] at H
            by_cases c7 : x24_1 < (l1.length : Int)
            · rw [if_pos c7] at H
              have c7b0 : decide (x24_1 < (l1.length : Int)) = true := decide_eq_true c7
              clear c7
              by_cases c8 : 0 ≤ x24_1
              · rw [if_pos c8] at H
                have c8b0 : decide (0 ≤ x24_1) = true := decide_eq_true c8
                clear c8
                by_cases c9 : x24_1 < (l1.length : Int)
                · rw [if_pos c9] at H
                  have c9b0 : decide (x24_1 < (l1.length : Int)) = true := decide_eq_true c9
                  clear c9
                  by_cases c10 : x24_1 < (l0.length : Int)
                  · rw [if_pos c10] at H
                    have c10b0 : decide (x24_1 < (l0.length : Int)) = true := decide_eq_true c10
                    clear c10
                    have H' := Aside0.mk H
                    clear H
                    have p230 : 0 ≤ (x24_1 : Int) := of_decide_eq_true (by first | (with_reducible assumption) | assumption)
                    have q230 : x24_1 < (l1.length : Int) := of_decide_eq_true (by first | (with_reducible assumption) | assumption)
                    obtain ⟨ad230, e230, hx230_0⟩ := Kd.at_int HR1.out x24_1 p230 q230
                    cases e230
                    replace p230 := eq_true p230
                    replace q230 := eq_true q230
                    have p231 : 0 ≤ (x24_1 : Int) := of_decide_eq_true (by first | (with_reducible assumption) | assumption)
                    have q231 : x24_1 < (l0.length : Int) := of_decide_eq_true (by first | (with_reducible assumption) | assumption)
                    obtain ⟨ad231, e231, hx231_0⟩ := Kd.at_int HR0.out x24_1 p231 q231
                    obtain rfl : ad229 = ad231 := (by injection e231)
                    replace p231 := eq_true p231
                    replace q231 := eq_true q231
                    go_wp2
                    repeat (go_quiet (fail); try go_wp2)
                    first | go_roundg k1 | (simp only [← hji4]; (try simp only [← hji4] at H'); go_roundg k1)
                    case measure => have := HK1.out; omega
                    case rel => exact ⟨(wrap64 (x6_1 + (wrap64 ((rd l0 x24_1) * (rd l1 x24_1))))), (wrap64 (x24_1 + 1)), (by first | rfl | (simp; done) | (simp [*]; done)), (by first | rfl | (simp; done) | (simp [*]; done)), H', ⟨by have := HK1.out; omega⟩, by repeat (first | exact Drawn0.refl _ | apply Drawn0.step)⟩
                  · rw [if_neg c10] at H
                    exact absurd H (by simp)
                · rw [if_neg c9] at H
                  exact absurd H (by simp)
              · rw [if_neg c8] at H
                exact absurd H (by simp)
            · rw [if_neg c7] at H
              have c7b0 : decide (x24_1 < (l1.length : Int)) = false := decide_eq_false c7
              clear c7
              by_cases c11 : 0 ≤ (l1.length : Int)
              · rw [if_pos c11] at H
                have c11b0 : decide (0 ≤ (l1.length : Int)) = true := decide_eq_true c11
                have c11b1 : decide (0 ≤ l1.length) = true := decide_eq_true (by omega)
                clear c11
                by_cases c12 : (l1.length : Int) < (l0.length : Int)
                · rw [if_pos c12] at H
                  have c12b0 : decide ((l1.length : Int) < (l0.length : Int)) = true := decide_eq_true c12
                  have c12b1 : decide (l1.length < l0.length) = true := decide_eq_true (Int.ofNat_lt.mp c12)
                  clear c12
                  by_cases c13 : (rd l0 (l1.length : Int)) = 0
                  · rw [if_pos c13] at H
                    have c13b0 : ((rd l0 (l1.length : Int)) == 0) = true := beq_iff_eq.mpr c13
                    have c13b1 : ((rd l0 (l1.length : Int)) != 0) = false := bne_eq_false_iff_eq.mpr c13
                    clear c13
                    obtain rfl := Option.some.inj H
                    have p232 : 0 ≤ ((l1.length : Int) : Int) := of_decide_eq_true (by first | (with_reducible assumption) | assumption)
                    have q232 : (l1.length : Int) < (l0.length : Int) := of_decide_eq_true (by first | (with_reducible assumption) | assumption)
                    obtain ⟨ad232, e232, hx232_0⟩ := Kd.at_int HR0.out (l1.length : Int) p232 q232
                    obtain rfl : ad229 = ad232 := (by injection e232)
                    (try simp only [Go.IntWalk.toNatUp] at hx232_0)
                    replace p232 := eq_true p232
                    replace q232 := eq_true q232
                    go_wp2
                    repeat (go_quiet (fail); try go_wp2)
                    go_ret
                    exact ⟨by first | rfl | (simp; done) | (simp only [← hji4] <;> (first | rfl | simp)) | (simp [*]; done), by repeat (first | exact Drawn0.refl _ | apply Drawn0.step)⟩
                  · rw [if_neg c13] at H
                    have c13b0 : ((rd l0 (l1.length : Int)) == 0) = false := beq_eq_false_iff_ne.mpr c13
                    have c13b1 : ((rd l0 (l1.length : Int)) != 0) = true := bne_iff_ne.mpr c13
                    by_cases c14 : (rd l0 (l1.length : Int)) = 1
                    · rw [if_pos c14] at H
                      have c14b0 : ((rd l0 (l1.length : Int)) == 1) = true := beq_iff_eq.mpr c14
                      have c14b1 : ((rd l0 (l1.length : Int)) != 1) = false := bne_eq_false_iff_eq.mpr c14
                      clear c14
                      obtain rfl := Option.some.inj H
                      have p232 : 0 ≤ ((l1.length : Int) : Int) := of_decide_eq_true (by first | (with_reducible assumption) | assumption)
                      have q232 : (l1.length : Int) < (l0.length : Int) := of_decide_eq_true (by first | (with_reducible assumption) | assumption)
                      obtain ⟨ad232, e232, hx232_0⟩ := Kd.at_int HR0.out (l1.length : Int) p232 q232
                      obtain rfl : ad229 = ad232 := (by injection e232)
                      (try simp only [Go.IntWalk.toNatUp] at hx232_0)
                      replace p232 := eq_true p232
                      replace q232 := eq_true q232
                      go_wp2
                      repeat (go_quiet (fail); try go_wp2)
                      go_ret
                      exact ⟨by first | rfl | (simp; done) | (simp only [← hji4] <;> (first | rfl | simp)) | (simp [*]; done), by repeat (first | exact Drawn0.refl _ | apply Drawn0.step)⟩
                    · rw [if_neg c14] at H
                      have c14b0 : ((rd l0 (l1.length : Int)) == 1) = false := beq_eq_false_iff_ne.mpr c14
                      have c14b1 : ((rd l0 (l1.length : Int)) != 1) = true := bne_iff_ne.mpr c14
                      by_cases c15 : (rd l0 (l1.length : Int)) = 2
                      · rw [if_pos c15] at H
                        have c15b0 : ((rd l0 (l1.length : Int)) == 2) = true := beq_iff_eq.mpr c15
                        have c15b1 : ((rd l0 (l1.length : Int)) != 2) = false := bne_eq_false_iff_eq.mpr c15
                        clear c15
                        obtain rfl := Option.some.inj H
                        have p232 : 0 ≤ ((l1.length : Int) : Int) := of_decide_eq_true (by first | (with_reducible assumption) | assumption)
                        have q232 : (l1.length : Int) < (l0.length : Int) := of_decide_eq_true (by first | (with_reducible assumption) | assumption)
                        obtain ⟨ad232, e232, hx232_0⟩ := Kd.at_int HR0.out (l1.length : Int) p232 q232
                        obtain rfl : ad229 = ad232 := (by injection e232)
                        (try simp only [Go.IntWalk.toNatUp] at hx232_0)
                        replace p232 := eq_true p232
                        replace q232 := eq_true q232
                        go_wp2
                        repeat (go_quiet (fail); try go_wp2)
                        go_ret
                        exact ⟨by first | rfl | (simp; done) | (simp only [← hji4] <;> (first | rfl | simp)) | (simp [*]; done), by repeat (first | exact Drawn0.refl _ | apply Drawn0.step)⟩
                      · rw [if_neg c15] at H
                        have c15b0 : ((rd l0 (l1.length : Int)) == 2) = false := beq_eq_false_iff_ne.mpr c15
                        have c15b1 : ((rd l0 (l1.length : Int)) != 2) = true := bne_iff_ne.mpr c15
                        obtain rfl := Option.some.inj H
                        have p232 : 0 ≤ ((l1.length : Int) : Int) := of_decide_eq_true (by first | (with_reducible assumption) | assumption)
                        have q232 : (l1.length : Int) < (l0.length : Int) := of_decide_eq_true (by first | (with_reducible assumption) | assumption)
                        obtain ⟨ad232, e232, hx232_0⟩ := Kd.at_int HR0.out (l1.length : Int) p232 q232
                        obtain rfl : ad229 = ad232 := (by injection e232)
                        (try simp only [Go.IntWalk.toNatUp] at hx232_0)
                        replace p232 := eq_true p232
                        replace q232 := eq_true q232
                        go_wp2
                        repeat (go_quiet (fail); try go_wp2)
                        go_ret
                        exact ⟨by first | rfl | (simp; done) | (simp only [← hji4] <;> (first | rfl | simp)) | (simp [*]; done), by repeat (first | exact Drawn0.refl _ | apply Drawn0.step)⟩
                · rw [if_neg c12] at H
                  exact absurd H (by simp)
              · rw [if_neg c11] at H
                exact absurd H (by simp)
      · rw [if_neg c6] at H
        exact absurd H (by simp)
    · rw [if_neg c5] at H
      exact absurd H (by simp)
  · rw [if_neg c3] at H
    have c3b0 : ((l0.length : Int) == (wrap64 ((l1.length : Int) + 2))) = false := beq_eq_false_iff_ne.mpr c3
    have c3b1 : ((l0.length : Int) != (wrap64 ((l1.length : Int) + 2))) = true := bne_iff_ne.mpr c3
    obtain rfl := Option.some.inj H
    go_enter Try.func35, Try.ntmps35
    go_wp2
    repeat (go_quiet (fail); try go_wp2)
    go_ret
    exact ⟨by first | rfl | (simp; done) | (simp [*]; done), by repeat (first | exact Drawn0.refl _ | apply Drawn0.step)⟩

end Go.Proofs.Ytlckejeglchgmaa.Pr
namespace Go.Proofs.Ytlckejeglchgmaa.Pr
open Go.RowKit Go.Proofs.YtlckejeglchgmaaW.PrintWords Go.Proofs.YtlckejeglchgmaaW.PrintLast Go.Proofs.YtlckejeglchgmaaW.PrintMore
attribute [local go_sem] max2_int min2_int max_two min_two max_three min_three max_four min_four   -- for this text's walks alone
set_option linter.unusedVariables false
set_option linter.unusedSimpArgs false

-- given by hand
/-! ### built_Holds: function 17 -/
-- needs tuple_Find slices_ContainsFunc_int_int tuple_Rising built_linear built_diff
/-- the sum of products, as the machine has it -/
def sumZ : List Int → List Int → Int → Int
  | a :: l, v :: t, s => sumZ l t (wrap64 (s + wrap64 (a * v)))
  | _, _, s => s
def linB (args t : List Int) : Bool :=
  if args.length = t.length + 2 then
    (if rd args (t.length : Int) = 0 then sumZ args t 0 == rd args ((t.length : Int) + 1) else if rd args (t.length : Int) = 1 then decide (sumZ args t 0 ≤ rd args ((t.length : Int) + 1)) else if rd args (t.length : Int) = 2 then sumZ args t 0 != rd args ((t.length : Int) + 1) else false)
  else false
theorem lin_l0 (args t : List Int) (ht : t.length < 1000000000) (hl : args.length = t.length + 2) (want : Int) : ∀ (d i : Nat) (s : Int), i + d = t.length → built_linear.l0 (d + 1) args (t.length : Int) s want t (t.length : Int) (i : Int) =
    some (if rd args (t.length : Int) = 0 then sumZ (args.drop i) (t.drop i) s == want else if rd args (t.length : Int) = 1 then decide (sumZ (args.drop i) (t.drop i) s ≤ want) else if rd args (t.length : Int) = 2 then sumZ (args.drop i) (t.drop i) s != want else false)
  | 0, i, s, h => by
    have hz : sumZ (args.drop i) (t.drop i) s = s := by
      rw [List.drop_eq_nil_of_le (show t.length ≤ i by omega)]
      cases args.drop i <;> rfl
    rw [built_linear.l0, if_neg (by omega), if_pos (by omega), if_pos (by omega), hz]
    split
    · rfl
    · split
      · rfl
      · split <;> rfl
  | d + 1, i, s, h => by
    have hi : i < t.length := by omega
    have ha : i < args.length := by omega
    have e1 : rd args (i : Int) = args[i] := rd_nat args i _ (List.getElem?_eq_getElem ha)
    have e2 : rd t (i : Int) = t[i] := rd_nat t i _ (List.getElem?_eq_getElem hi)
    have hw : wrap64 ((i : Int) + 1) = ((i + 1 : Nat) : Int) := by rw [wrap_succ (by omega) (by omega)]; rfl
    have hs : sumZ (args.drop i) (t.drop i) s = sumZ (args.drop (i + 1)) (t.drop (i + 1)) (wrap64 (s + wrap64 (args[i] * t[i]))) := by
      rw [List.drop_eq_getElem_cons ha, List.drop_eq_getElem_cons hi, sumZ]
    rw [built_linear.l0, if_pos (by omega), if_pos (by omega), if_pos (by omega), if_pos (by omega), e1, e2, hw, lin_l0 args t ht hl want d (i + 1) _ (by omega), hs]
theorem linear_f (args t : List Int) (ht : t.length < 1000000000) : built_linear.f (t.length + 1) args t = some (linB args t) := by
  have hw1 : wrap64 ((t.length : Int) + 2) = ((t.length + 2 : Nat) : Int) := by rw [wrap_id (by omega) (by omega)]; omega
  have hw2 : wrap64 ((t.length : Int) + 1) = (t.length : Int) + 1 := by rw [wrap_id (by omega) (by omega)]
  rw [built_linear.f, hw1, hw2]
  unfold linB
  by_cases c : args.length = t.length + 2
  · rw [if_pos (by omega), if_pos (by omega), if_pos (by omega), if_pos c]
    have := lin_l0 args t ht c (rd args ((t.length : Int) + 1)) t.length 0 0 (by omega)
    rw [List.drop_zero, List.drop_zero] at this
    exact this
  · rw [if_neg (by omega), if_neg c]
def eqB (t : List Int) : Bool := decide (t.length = 0) || !(t.any fun n => n != rd t 0)
def holdsV (kind : Int) (scope : List Int) (rows : List (List Int)) (args t : List Int) : Bool :=
  if t.length = scope.length then
    (if kind = 1 then bsF rows t else if kind = 2 then !bsF rows t else if kind = 3 then risingB (SortedSeq.sortZ t) else if kind = 4 then eqB t else if kind = 5 then risingB t else if kind = 6 then linB args t else false)
  else false
def built_Holds.f (a0_0 : Int) (l0_1 : List Int) (l0_2 : List (List Int)) (l0_3 : List Int) (l1 : List Int) : Option Bool := if l0_2.length < 17592186044416 ∧ l1.length < 1000000 then some (holdsV a0_0 l0_1 l0_2 l0_3 l1) else none
/-- the closure of Equal -/
theorem equal1 (S : Nat) (A : Option Addr) (c : Nat) (l : List Int) (x : Int) (W : World) (h0 : 0 < l.length) (hbox : W.heap[S]? = some (.cells #[.slice A l.length c] 23 (0, 0))) (hr : (Kd.int .i64).C W A l.length l) :
    Calls Try.prog 33 #[.int .i64 x, .pointer (some ⟨S, 0, none⟩)] W fun e W' => e = .returned (.bool (x != rd l 0)) ∧ Below W.heap.size W W' := by
  have hcell : W.cell? ⟨S, 0, none⟩ = some (.slice A l.length c) := (blk_cell hbox 0).trans rfl
  obtain ⟨ad, e, hc⟩ := Kd.at_int hr 0 (by omega) (by omega)
  subst e
  have h0z : (0 : Int) < (l.length : Int) := by omega
  obtain ⟨y, hy⟩ : ∃ y, y = rd l 0 := ⟨_, rfl⟩
  rw [← hy] at hc ⊢
  have hc' : W.cell? ad = some (.int .i64 y) := by simpa [Addr.add] using hc
  clear hy hr hbox hc
  go_enter Try.func33, Try.ntmps33
  go_wp2
  go_ret
  exact ⟨rfl, Below.refl _ _⟩
theorem equal2 (S : Nat) (A : Option Addr) (c : Nat) (l : List Int) (W : World) (h0 : 0 < l.length) (hbox : W.heap[S]? = some (.cells #[.slice A l.length c] 23 (0, 0))) (hr : (Kd.int .i64).C W A l.length l) :
    Calls Try.prog 32 #[.slice A l.length c, .func (.func 33) #[] #[.pointer (some ⟨S, 0, none⟩)]] W fun e W' => e = .returned (.bool (l.any fun n => n != rd l 0)) ∧ Below W.heap.size W W' :=
  slices_ContainsFunc_int_int.callsP (Kd.int .i64) rfl (fun n => n != rd l 0) 33 #[.pointer (some ⟨S, 0, none⟩)] (enters_of Try.func33 (by kernel_rfl) rfl) A c l W
    (fun x hx W' v hb' hv => by
      obtain rfl : v = .int .i64 x := by
        have : [v] = [Value.int .i64 x] := hv
        injection this
      exact equal1 S A c l x W' h0 (blk_below hbox hb') (Kd.C_below hr hb')) hr
theorem eqB_nil (l : List Int) (h : l.length = 0) : eqB l = true := by unfold eqB; rw [decide_eq_true h]; rfl
theorem eqB_any (l : List Int) (h : 0 < l.length) : eqB l = !(l.any fun n => n != rd l 0) := by unfold eqB; rw [decide_eq_false (by omega)]; rfl
set_option maxHeartbeats 8000000 in
theorem built_Holds.calls (a0_0 : Int) (A0_1 : Option Addr) (c0_1 : Nat) (l0_1 : List Int) (A0_2 : Option Addr) (c0_2 : Nat) (l0_2 : List (List Int)) (A0_3 : Option Addr) (c0_3 : Nat) (l0_3 : List Int) (A1 : Option Addr) (c1 : Nat) (l1 : List Int) (r : Bool) (w : World) (hr0_1 : Kd.C (Kd.int .i64) w A0_1 l0_1.length l0_1) (hc0_1 : l0_1.length ≤ c0_1) (hr0_2 : Kd.C (Kd.slice 3 (Kd.int .i64)) w A0_2 l0_2.length l0_2) (hc0_2 : l0_2.length ≤ c0_2) (hr0_3 : Kd.C (Kd.int .i64) w A0_3 l0_3.length l0_3) (hc0_3 : l0_3.length ≤ c0_3) (hr1 : Kd.C (Kd.int .i64) w A1 l1.length l1) (hc1 : l1.length ≤ c1) (h : built_Holds.f a0_0 l0_1 l0_2 l0_3 l1 = some r) :
    Calls Try.prog 17 #[.agg #[.int .i64 a0_0, .slice A0_1 l0_1.length c0_1, .slice A0_2 l0_2.length c0_2, .slice A0_3 l0_3.length c0_3], .slice A1 l1.length c1] w fun e w' => e = .returned (.bool r) ∧ Below w.heap.size w w' := by
  unfold built_Holds.f at h
  split at h
  case isFalse => cases h
  rename_i hg
  have HE := Aside0.mk (Option.some.inj h)
  have HFIND := Aside0.mk (fun (W : World) (hW : Below w.heap.size w W) => tuple_Find.calls A0_2 c0_2 l0_2 A1 c1 l1 (bsI l0_2 l1 : Nat) (bsF l0_2 l1) W (Kd.C_below hr0_2 hW) hc0_2 (Kd.C_below hr1 hW) hc1 (by unfold tuple_Find.f; rw [if_pos hg.1]))
  have HDIFF := Aside0.mk (fun (W : World) (hW : Below w.heap.size w W) => built_diff.calls A1 c1 l1 (risingB (SortedSeq.sortZ l1)) W (Kd.C_below hr1 hW) hc1 (by unfold built_diff.f; rw [if_pos (by omega)]))
  have HRIS := Aside0.mk (fun (W : World) (hW : Below w.heap.size w W) => tuple_Rising.calls (l1.length + 1) A1 c1 l1 (risingB l1) W (Kd.C_below hr1 hW) hc1 (rising_f l1 (by omega)))
  have HLIN := Aside0.mk (fun (W : World) (hW : Below w.heap.size w W) => built_linear.calls (l1.length + 1) A0_3 c0_3 l0_3 A1 c1 l1 (linB l0_3 l1) W (Kd.C_below hr0_3 hW) hc0_3 (Kd.C_below hr1 hW) hc1 (linear_f l0_3 l1 (by omega)))
  have HEQ := Aside0.mk (fun (S : Nat) (W : World) (hW : Below w.heap.size w W) (h0 : 0 < l1.length) (hbox : W.heap[S]? = some (.cells #[.slice A1 l1.length c1] 23 (0, 0))) => equal2 S A1 c1 l1 W h0 hbox (Kd.C_below hr1 hW))
  obtain ⟨zi, hzi⟩ : ∃ zi : Int, zi = (bsI l0_2 l1 : Nat) := ⟨_, rfl⟩
  obtain ⟨zf, hzf⟩ : ∃ zf, zf = bsF l0_2 l1 := ⟨_, rfl⟩
  rw [← hzi, ← hzf] at HFIND
  obtain ⟨m1, hm1⟩ : ∃ m, m = l0_1.length := ⟨_, rfl⟩
  obtain ⟨m2, hm2⟩ : ∃ m, m = l0_2.length := ⟨_, rfl⟩
  obtain ⟨m3, hm3⟩ : ∃ m, m = l0_3.length := ⟨_, rfl⟩
  obtain ⟨m, hm⟩ : ∃ m, m = l1.length := ⟨_, rfl⟩
  rw [← hm2, ← hm] at HFIND
  rw [← hm] at HDIFF HEQ
  rw [← hm] at HRIS
  rw [← hm3, ← hm] at HLIN
  rw [← hm1, ← hm2, ← hm3, ← hm]
  have HZF := Aside0.mk hzf
  have HM1 := Aside0.mk hm1
  have HM := Aside0.mk hm
  clear h hg hr0_1 hc0_1 hr0_2 hc0_2 hr0_3 hc0_3 hr1 hc1 hzi hzf hm1 hm2 hm3 hm
  by_cases c0 : m = m1
  · have hb0 : ((m : Int) != (m1 : Int)) = false := bne_eq_false_iff_eq.mpr (by omega)
    have HV := Aside0.mk (show (if a0_0 = 1 then zf else if a0_0 = 2 then !zf else if a0_0 = 3 then risingB (SortedSeq.sortZ l1) else if a0_0 = 4 then eqB l1 else if a0_0 = 5 then risingB l1 else if a0_0 = 6 then linB l0_3 l1 else false) = r by
      have := HE.out
      unfold holdsV at this
      rw [if_pos (by have := HM1.out; have := HM.out; omega), ← HZF.out] at this
      exact this)
    have HC0 := Aside0.mk c0
    clear c0
    go_enter Try.func17, Try.ntmps17
    go_upto_region 4 with (first
      | ((with_reducible refine gate_dst (N := 2) rfl ?_); refine box_event ?hg (N := 2) ?hd (cs := #[.int .i64 a0_0, .slice A0_1 m1 c0_1, .slice A0_2 m2 c0_2, .slice A0_3 m3 c0_3]) (t := 40) ?hr ?_; (case hd => rfl); (case hg => rfl); (case hr => first | (go_simp; done) | (go_simp; rfl)); intro gb hgb w1 hbox hb; have HBX1 := Aside0.mk hbox; have HB1 := Aside0.mk hb; clear hgb hbox hb)
      | ((with_reducible refine gate_dst (N := 3) rfl ?_); refine box_event ?hg (N := 3) ?hd (cs := #[.slice A1 m c1]) (t := 23) ?hr ?_; (case hd => rfl); (case hg => rfl); (case hr => first | (go_simp; done) | (go_simp; rfl)); intro tb htb w2 hbox hb; have HBX2 := Aside0.mk ((hb.block gb (blk_lt HBX1.out)).trans HBX1.out); have HTX2 := Aside0.mk hbox; have HB2 := Aside0.mk (below_then HB1.out HB1.out.size hb); have hc0 : w2.cell? ⟨gb, 0, none⟩ = some (.int .i64 a0_0) := (blk_cell HBX2.out 0).trans rfl; have hc1 : w2.cell? ⟨gb, 1, none⟩ = some (.slice A0_1 m1 c0_1) := (blk_cell HBX2.out 1).trans rfl; have hc2 : w2.cell? ⟨gb, 2, none⟩ = some (.slice A0_2 m2 c0_2) := (blk_cell HBX2.out 2).trans rfl; have hc3 : w2.cell? ⟨gb, 3, none⟩ = some (.slice A0_3 m3 c0_3) := (blk_cell HBX2.out 3).trans rfl; have ht0 : w2.cell? ⟨tb, 0, none⟩ = some (.slice A1 m c1) := (blk_cell HTX2.out 0).trans rfl; clear htb hbox hb)
      | (go_at_call 30; refine (HFIND.out _ HB2.out).mono ?_; rintro e w3 ⟨rfl, ⟨nd, rfl⟩⟩; have HB3 := Aside0.mk (pw_below_drewN HB2.out nd); have HTX3 := Aside0.mk (blk_drewN HTX2.out nd)))
    by_cases k1 : a0_0 = 1
    · have hb_ : (a0_0 == (1 : Int)) = true := beq_iff_eq.mpr k1
      have HV2 := Aside0.mk (show zf = r by have := HV.out; rw [if_pos k1] at this; exact this)
      clear k1 
      go_wp2
      (try simp only [Exit.inBlock, Exit.then])
      go_ret
      exact ⟨congrArg (fun b => Ending.returned (Value.bool b)) HV2.out, HB3.out⟩
    have hn1 : (a0_0 == (1 : Int)) = false := beq_eq_false_iff_ne.mpr k1
    by_cases k2 : a0_0 = 2
    · have hb_ : (a0_0 == (2 : Int)) = true := beq_iff_eq.mpr k2
      have HV2 := Aside0.mk (show (!zf) = r by have := HV.out; rw [if_neg k1, if_pos k2] at this; exact this)
      clear k2 k1
      go_wp2
      (try simp only [Exit.inBlock, Exit.then])
      go_ret
      exact ⟨congrArg (fun b => Ending.returned (Value.bool b)) HV2.out, HB3.out⟩
    have hn2 : (a0_0 == (2 : Int)) = false := beq_eq_false_iff_ne.mpr k2
    by_cases k3 : a0_0 = 3
    · have hb_ : (a0_0 == (3 : Int)) = true := beq_iff_eq.mpr k3
      have HV2 := Aside0.mk (show risingB (SortedSeq.sortZ l1) = r by have := HV.out; rw [if_neg k1, if_neg k2, if_pos k3] at this; exact this)
      clear k3 k1 k2
      go_wp2_with (go_at_call 31; refine (HDIFF.out _ HB3.out).mono ?_; rintro e w4 ⟨rfl, hb⟩; have HB4 := Aside0.mk (below_then HB3.out HB3.out.size hb); clear hb)
      (try simp only [Exit.inBlock, Exit.then])
      go_ret
      exact ⟨congrArg (fun b => Ending.returned (Value.bool b)) HV2.out, HB4.out⟩
    have hn3 : (a0_0 == (3 : Int)) = false := beq_eq_false_iff_ne.mpr k3
    by_cases k4 : a0_0 = 4
    · have hb_ : (a0_0 == (4 : Int)) = true := beq_iff_eq.mpr k4
      have HV2 := Aside0.mk (show eqB l1 = r by have := HV.out; rw [if_neg k1, if_neg k2, if_neg k3, if_pos k4] at this; exact this)
      clear k4 k1 k2 k3
      by_cases cz : m = 0
      · have hz_ : ((m : Int) == (0 : Int)) = true := beq_iff_eq.mpr (by omega)
        have HV3 := Aside0.mk (show true = r by rw [← HV2.out, eqB_nil l1 (by have := HM.out; omega)])
        clear cz
        go_wp2
        (try simp only [Exit.inBlock, Exit.then])
        go_ret
        exact ⟨congrArg (fun b => Ending.returned (Value.bool b)) HV3.out, HB3.out⟩
      · have hz_ : ((m : Int) == (0 : Int)) = false := beq_eq_false_iff_ne.mpr (by omega)
        have HV3 := Aside0.mk (show (!(l1.any fun n => n != rd l1 0)) = r by rw [← HV2.out, eqB_any l1 (by have := HM.out; omega)])
        have HEQ2 := Aside0.mk (HEQ.out tb _ HB3.out (by have := HM.out; omega) HTX3.out)
        obtain ⟨za, hza⟩ : ∃ za, za = l1.any fun n => n != rd l1 0 := ⟨_, rfl⟩
        rw [← hza] at HEQ2 HV3
        clear cz hza
        go_wp2_with (go_at_call 32; refine HEQ2.out.mono ?_; rintro e w4 ⟨rfl, hb⟩; have HB4 := Aside0.mk (below_then HB3.out HB3.out.size hb); clear hb)
        (try simp only [Exit.inBlock, Exit.then])
        go_ret
        exact ⟨congrArg (fun b => Ending.returned (Value.bool b)) HV3.out, HB4.out⟩
    have hn4 : (a0_0 == (4 : Int)) = false := beq_eq_false_iff_ne.mpr k4
    by_cases k5 : a0_0 = 5
    · have hb_ : (a0_0 == (5 : Int)) = true := beq_iff_eq.mpr k5
      have HV2 := Aside0.mk (show risingB l1 = r by have := HV.out; rw [if_neg k1, if_neg k2, if_neg k3, if_neg k4, if_pos k5] at this; exact this)
      clear k5 k1 k2 k3 k4
      go_wp2_with (go_at_call 34; refine (HRIS.out _ HB3.out).mono ?_; rintro e w4 ⟨rfl, ⟨nd2, rfl⟩⟩; have HB4 := Aside0.mk (show Below w.heap.size w (w2.drewN (nd + nd2)) by rw [← World.drewN_drewN]; exact pw_below_drewN HB3.out nd2))
      (try simp only [Exit.inBlock, Exit.then])
      go_ret
      exact ⟨congrArg (fun b => Ending.returned (Value.bool b)) HV2.out, HB4.out⟩
    have hn5 : (a0_0 == (5 : Int)) = false := beq_eq_false_iff_ne.mpr k5
    by_cases k6 : a0_0 = 6
    · have hb_ : (a0_0 == (6 : Int)) = true := beq_iff_eq.mpr k6
      have HV2 := Aside0.mk (show linB l0_3 l1 = r by have := HV.out; rw [if_neg k1, if_neg k2, if_neg k3, if_neg k4, if_neg k5, if_pos k6] at this; exact this)
      clear k6 k1 k2 k3 k4 k5
      go_wp2_with (go_at_call 35; refine (HLIN.out _ HB3.out).mono ?_; rintro e w4 ⟨rfl, ⟨nd2, rfl⟩⟩; have HB4 := Aside0.mk (show Below w.heap.size w (w2.drewN (nd + nd2)) by rw [← World.drewN_drewN]; exact pw_below_drewN HB3.out nd2))
      (try simp only [Exit.inBlock, Exit.then])
      go_ret
      exact ⟨congrArg (fun b => Ending.returned (Value.bool b)) HV2.out, HB4.out⟩
    have hn6 : (a0_0 == (6 : Int)) = false := beq_eq_false_iff_ne.mpr k6
    have HV2 := Aside0.mk (show false = r by have := HV.out; rw [if_neg k1, if_neg k2, if_neg k3, if_neg k4, if_neg k5, if_neg k6] at this; exact this)
    clear k1 k2 k3 k4 k5 k6
    go_wp2
    (try simp only [Exit.inBlock, Exit.then])
    go_ret
    exact ⟨congrArg (fun b => Ending.returned (Value.bool b)) HV2.out, HB3.out⟩
  · have hb0 : ((m : Int) != (m1 : Int)) = true := bne_iff_ne.mpr (by omega)
    have HV2 := Aside0.mk (show false = r by
      have := HE.out
      unfold holdsV at this
      rw [if_neg (by have := HM1.out; have := HM.out; omega)] at this
      exact this)
    clear c0
    go_enter Try.func17, Try.ntmps17
    go_wp2_with (first
      | ((with_reducible refine gate_dst (N := 2) rfl ?_); refine box_event ?hg (N := 2) ?hd (cs := #[.int .i64 a0_0, .slice A0_1 m1 c0_1, .slice A0_2 m2 c0_2, .slice A0_3 m3 c0_3]) (t := 40) ?hr ?_; (case hd => rfl); (case hg => rfl); (case hr => first | (go_simp; done) | (go_simp; rfl)); intro gb hgb w1 hbox hb; have HBX1 := Aside0.mk hbox; have HB1 := Aside0.mk hb; clear hgb hbox hb)
      | ((with_reducible refine gate_dst (N := 3) rfl ?_); refine box_event ?hg (N := 3) ?hd (cs := #[.slice A1 m c1]) (t := 23) ?hr ?_; (case hd => rfl); (case hg => rfl); (case hr => first | (go_simp; done) | (go_simp; rfl)); intro tb htb w2 hbox hb; have HBX2 := Aside0.mk ((hb.block gb (blk_lt HBX1.out)).trans HBX1.out); have HTX2 := Aside0.mk hbox; have HB2 := Aside0.mk (below_then HB1.out HB1.out.size hb); have hc0 : w2.cell? ⟨gb, 0, none⟩ = some (.int .i64 a0_0) := (blk_cell HBX2.out 0).trans rfl; have hc1 : w2.cell? ⟨gb, 1, none⟩ = some (.slice A0_1 m1 c0_1) := (blk_cell HBX2.out 1).trans rfl; have hc2 : w2.cell? ⟨gb, 2, none⟩ = some (.slice A0_2 m2 c0_2) := (blk_cell HBX2.out 2).trans rfl; have hc3 : w2.cell? ⟨gb, 3, none⟩ = some (.slice A0_3 m3 c0_3) := (blk_cell HBX2.out 3).trans rfl; have ht0 : w2.cell? ⟨tb, 0, none⟩ = some (.slice A1 m c1) := (blk_cell HTX2.out 0).trans rfl; clear htb hbox hb))
    (try simp only [Exit.inBlock, Exit.then])
    go_ret
    exact ⟨congrArg (fun b => Ending.returned (Value.bool b)) HV2.out, HB2.out⟩

end Go.Proofs.Ytlckejeglchgmaa.Pr
