-- Printed by a program of this session's own (wip/tools/pp.py) over the kit's print.py; Lean checks it.
import Derived.Test.YtopjffgmpphdbaaDoorPr0
import Derived.Test.YtopjffgmpphdbaaDoorPr1
import Derived.Test.YtopjffgmpphdbaaDoorPr15
import Derived.Test.YtopjffgmpphdbaaDoorPr16
namespace Go.Proofs.YtopjffgmpphdbaaDoor.Pr
open Go.RowKit Go.Proofs.YtopjffgmpphdbaaDoorW.PrintWords Go.Proofs.YtopjffgmpphdbaaDoorW.PrintLast Go.Proofs.YtopjffgmpphdbaaDoorW.PrintMore
attribute [local go_sem] max2_int min2_int max_two min_two max_three min_three max_four min_four
set_option linter.unusedVariables false
set_option linter.unusedSimpArgs false
/-! ### graph_list: function 57 -/
/-- The places of a number's bits, rising. -/
def listN (x : Nat) : List Int := ((List.range 64).filter fun i => x.testBit i).map fun (i : Nat) => (i : Int)
def graph_list.f (a0 : Int) : Option (List Int) := if 0 ≤ a0 ∧ a0 < 18446744073709551616 then some (listN a0.toNat) else none
theorem low7 (x : Int) : 0 ≤ Go.bits .and .i64 x 127 ∧ Go.bits .and .i64 x 127 ≤ 127 := by
 have h2 : (BitVec.ofInt 64 (127 : Int)).toNat = 127 := by decide
 have h3 : (BitVec.ofInt 64 x &&& BitVec.ofInt 64 (127 : Int)).toNat ≤ 127 := by
  rw [BitVec.toNat_and, h2]; exact Nat.and_le_right
 have e : Go.bits .and .i64 x 127 = IntKind.i64.wrap ((BitVec.ofInt 64 x &&& BitVec.ofInt 64 (127 : Int)).toNat : Int) := rfl;rw [e, IntKind.wrap_i64]
 omega
theorem bits_one (k m i : Nat) : (2 ^ k * (2 * m + 1)).testBit i = if i < k then false else if i = k then true else m.testBit (i - k - 1) := by
 rw [Nat.mul_comm, Nat.testBit_mul_two_pow]
 by_cases h : i < k
 ·rw [if_pos h]; simp; omega
 ·rw [if_neg h]
  by_cases e : i = k
  ·subst e; simp [Nat.testBit_zero]
  ·rw [if_neg e]
   obtain ⟨j, rfl⟩ : ∃ j, i = k + (j + 1) := ⟨i - k - 1, by omega⟩;have e3 : k + (j + 1) - k = j + 1 := by omega
   rw [e3, Nat.testBit_succ, show (2 * m + 1) / 2 = m by omega, show j + 1 - 1 = j by omega]
   simp
theorem bits_less (k m i : Nat) : (2 ^ k * (2 * m + 1) - 1).testBit i = if i < k then true else if i = k then false else m.testBit (i - k - 1) := by
 have hp : 0 < 2 ^ k := Nat.two_pow_pos k;have e : 2 ^ k * (2 * m + 1) - 1 = 2 ^ k * (2 * m) + (2 ^ k - 1) := by rw [Nat.mul_add, Nat.mul_one]; omega
 rw [e, Nat.testBit_two_pow_mul_add _ (by omega)]
 by_cases h : i < k
 ·rw [if_pos h, if_pos h, Nat.testBit_two_pow_sub_one]; simp [h]
 ·rw [if_neg h, if_neg h]
  by_cases e : i = k
  ·subst e; simp [Nat.testBit_zero]
  ·rw [if_neg e]
   obtain ⟨j, rfl⟩ : ∃ j, i = k + (j + 1) := ⟨i - k - 1, by omega⟩;have e3 : k + (j + 1) - k = j + 1 := by omega
   rw [e3, Nat.testBit_succ, show (2 * m) / 2 = m by omega, show j + 1 - 1 = j by omega]
theorem filter_one (p q : Nat → Bool) (k n : Nat) (hk : k < n) (h0 : ∀ i, i < k → p i = false) (h1 : p k = true) (h2 : q k = false) (h3 : ∀ i, i ≠ k → q i = p i) :
  (List.range n).filter p = k :: (List.range n).filter q := by
 obtain ⟨d, rfl⟩ : ∃ d, n = k + (d + 1) := ⟨n - k - 1, by omega⟩
 have e : List.range (k + (d + 1)) = List.range k ++ k :: List.range' (k + 1) d := by
  rw [List.range_eq_range', List.range_eq_range', ← List.range'_append_1, Nat.zero_add, List.range'_succ]
 have z : ∀ f : Nat → Bool, (∀ i, i < k → f i = false) → (List.range k).filter f = [] := fun f hf => List.filter_eq_nil_iff.2 (fun i hi => by rw [hf i (List.mem_range.1 hi)]; simp)
 rw [e, List.filter_append, List.filter_append, z p h0, z q (fun i hi => by rw [h3 i (by omega)]; exact h0 i hi), List.nil_append, List.nil_append, List.filter_cons_of_pos h1, List.filter_cons_of_neg (by simp [h2])]
 congr 1
 exact List.filter_congr (fun i hi => by
  have := List.mem_range'_1.1 hi;exact (h3 i (by omega)).symm)
theorem listN_step (x : Nat) (h0 : x ≠ 0) (hx : x < 18446744073709551616) : listN x = ((Lib.ctz 64 x : Nat) : Int) :: listN (x &&& (x - 1)) := by
 obtain ⟨m, e, hk⟩ := Lib.ctzFrom_spec 64 x (by omega) hx;have ec : Lib.ctz 64 x = Lib.ctzFrom 64 x := by unfold Lib.ctz; rw [if_neg h0]
 rw [ec]
 obtain ⟨k, hkk⟩ : ∃ k, k = Lib.ctzFrom 64 x := ⟨_, rfl⟩;rw [← hkk] at e hk ⊢
 have b1 : ∀ i, x.testBit i = if i < k then false else if i = k then true else m.testBit (i - k - 1) := fun i => by rw [e]; exact bits_one k m i
 have b2 : ∀ i, (x &&& (x - 1)).testBit i = (x.testBit i && (x - 1).testBit i) := fun i => Nat.testBit_and _ _ _
 have b3 : ∀ i, (x - 1).testBit i = if i < k then true else if i = k then false else m.testBit (i - k - 1) := fun i => by rw [e]; exact bits_less k m i
 unfold listN
 rw [filter_one (fun i => x.testBit i) (fun i => (x &&& (x - 1)).testBit i) k 64 hk (fun i hi => by rw [b1, if_pos hi]) (by rw [b1, if_neg (by omega), if_pos rfl]) (by rw [b2, b3, if_neg (by omega), if_pos rfl, Bool.and_false]) (fun i hi => by
  rw [b2, b1, b3]
  by_cases c : i < k
  ·rw [if_pos c]; rfl
  ·rw [if_neg c, if_neg hi, if_neg c, if_neg hi, Bool.and_self])]
 rfl
theorem listN_zero : listN 0 = [] := by
 unfold listN
 rw [List.filter_eq_nil_iff.2 (fun i _ => by simp)]
 rfl
theorem listN_len (x : Nat) : (listN x).length ≤ 64 := by
 unfold listN
 rw [List.length_map]
 exact Nat.le_trans (List.length_filter_le _ _) (by simp)
theorem ctz_le (x : Nat) (h0 : x ≠ 0) (hx : x < 18446744073709551616) : Lib.ctz 64 x < 64 := by
 obtain ⟨m, e, hk⟩ := Lib.ctzFrom_spec 64 x (by omega) hx;unfold Lib.ctz
 rw [if_neg h0]
 exact hk
set_option maxHeartbeats 8000000 in
theorem graph_list.calls (a0 : Int) (r : List Int) (w : World) (hTb : Tab64 w) (h : graph_list.f a0 = some r) :
  Calls Tryd.prog 57 #[.int .u64 a0] w fun e w' => ∃ v0_ : Value, e = .returned (v0_) ∧ Kd.R (Kd.int .i64) 3 w' w.heap.size (fun _ => True) v0_ r ∧ Below w.heap.size w w' := by
 unfold graph_list.f at h
 split at h
 case isFalse => cases h
 rename_i hx
 obtain ⟨x0, rfl⟩ := Int.eq_ofNat_of_zero_le hx.1;rw [Int.toNat_natCast] at h
 have HX0 := Aside0.mk (show x0 < 18446744073709551616 by have := hx.2; omega);have HE := Aside0.mk (Option.some.inj h);have HT := Aside0.mk hTb
 obtain ⟨m, hm, hf⟩ : ∃ m : Nat, m ≤ 127 ∧ bits_OnesCount64.f (x0 : Int) = some (m : Int) := by
  obtain ⟨y, hy⟩ : ∃ y, bits_OnesCount64.f (x0 : Int) = some (Go.bits .and .i64 y 127) := ⟨_, rfl⟩;have := low7 y;exact ⟨(Go.bits .and .i64 y 127).toNat, by omega, by rw [hy]; congr 1; omega⟩
 have HF := Aside0.mk hf;have hmk := run_cap (P := Tryd.prog) 23 3 .i64 Tryd.underlying23 info3 m (by omega);clear hTb h hx hf;go_enter Tryd.func57, Tryd.ntmps57
 go_wp2_with (go_at_call 45; refine (bits_OnesCount64.calls _ _ _ HF.out).mono ?_; rintro e w' ⟨rfl, ⟨q, rfl⟩⟩)
 clear hmk;go_loopg [0, 3] 64 (fun gg s0 s3 wr => ∃ (x : Nat) (out : List Int), s0 = .int .u64 x ∧ Aside0 (x < 18446744073709551616) ∧ Aside0 ((listN x).length ≤ gg) ∧ Aside0 (out.length + (listN x).length ≤ 64) ∧ Aside0 ((Kd.int .i64).R 3 wr w.heap.size (fun _ => True) s3 out) ∧ Aside0 (Below w.heap.size w wr) ∧ Aside0 (w.heap.size ≤ wr.heap.size) ∧ Aside0 (out ++ listN x = r))
 case atStart => exact ⟨x0, [], rfl, HX0, ⟨listN_len x0⟩, ⟨by simpa using listN_len x0⟩, ⟨R_cap _ w.heap.size 3 .i64 m (by simp) (by omega)⟩, ⟨below_alloc (pw_below_drewN (Below.refl _ _) _) _⟩, ⟨by simp⟩, ⟨HE.out⟩⟩
 case round =>
  obtain ⟨x, out, rfl, HX, HG, HO, HR, HB, HZ, HI⟩ := hrel;by_cases hz : x = 0
  ·have HI3 := Aside0.mk (by have := HI.out; rw [hz, listN_zero, List.append_nil] at this; exact this : out = r);subst hz;go_wp2
   go_ret
   exact ⟨_, rfl, by rw [← HI3.out]; exact HR.out, HB.out⟩
  ·have hs := listN_step x hz HX.out;have hc := ctz_le x hz HX.out;obtain ⟨t, ht⟩ : ∃ t, t = Lib.ctz 64 x := ⟨_, rfl⟩;rw [← ht] at hs hc
   have HTZ := Aside0.mk (show bits_TrailingZeros64.f (x : Int) = some (t : Int) by unfold bits_TrailingZeros64.f; rw [if_pos ⟨by omega, by have := HX.out; omega⟩, Int.toNat_natCast, ← ht]);have hl := congrArg List.length hs;rw [List.length_cons] at hl
   have HL := Aside0.mk hl;have HI2 := Aside0.mk (by have := HI.out; rw [hs] at this; simpa using this : (out ++ [(t : Int)]) ++ listN (x &&& (x - 1)) = r);have hne : ((x : Int) != 0) = true := by simp; omega
   have hw1 : IntKind.u64.wrap ((x : Int) - 1) = ((x - 1 : Nat) : Int) := by rw [IntKind.wrap_u64]; have := HX.out; omega
   have hw2 : bits BinOp.and IntKind.u64 (x : Int) ((x - 1 : Nat) : Int) = ((x &&& (x - 1) : Nat) : Int) := bits_and_u64_nat x (x - 1) HX.out (by have := HX.out; omega);have HX2 := Aside0.mk (show x &&& (x - 1) < 18446744073709551616 from Nat.lt_of_le_of_lt Nat.and_le_left HX.out);clear hs hl ht hc hz;go_wp2_with (first | (go_at_call 58; refine (bits_TrailingZeros64.calls _ _ _ (tab_below HT.out HB.out) HTZ.out).mono ?_; rintro e w' ⟨rfl, ⟨q2, rfl⟩⟩) | (at_builtin; refine Kd.R_append (Kd.int .i64) (w0 := w) w.heap.size rfl (.tmp 13) (.tmp 16) 23 3 (.int .i64 0) 8 rfl Tryd.underlying23 info3 rfl (by decide) (by omega) _ out (t : Int) [.int .i64 (t : Int)] (fun _ => True) (fun _ => False) rfl rfl rfl (fun _ hk => hk.elim) (fun _ _ => trivial) (Kd.R_drewN HR.out _) (pw_below_drewN HB.out _) (Nat.le_trans HZ.out (by simp)) (by have h1 := HO.out; omega) ?_; intro v1 w1 ho hb hg hat; have HR4 := Aside0.mk ho; have HB3 := Aside0.mk hb; have HZ3 := Aside0.mk (Nat.le_trans HZ.out (Nat.le_trans (by simp) hg.size)); clear ho hb hg hat))
   go_roundg ((listN (x &&& (x - 1))).length)
   case measure => have := HG.out; have := HL.out; omega
   case rel => exact ⟨x &&& (x - 1), out ++ [(t : Int)], by go_num, HX2, ⟨Nat.le_refl _⟩, ⟨by have := HO.out; have := HL.out; simp; omega⟩, HR4, HB3, HZ3, HI2⟩
end Go.Proofs.YtopjffgmpphdbaaDoor.Pr
