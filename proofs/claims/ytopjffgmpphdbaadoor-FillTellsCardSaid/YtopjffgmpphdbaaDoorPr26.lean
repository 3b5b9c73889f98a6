-- Printed by a program of this session's own (wip/tools/pp.py) over the kit's print.py; Lean checks it.
import Derived.StillTailTactics
import Derived.Laws.BitsAllLaws
import Derived.Laws.Bits64b
import Derived.Deep.QuietTactic
import Derived.BigRegion
import Derived.BigQuiet
import Derived.Test.YtopjffgmpphdbaaDoorPr0
import Derived.Test.YtopjffgmpphdbaaDoorPr1
import Derived.Test.YtopjffgmpphdbaaDoorPr15
import Derived.Test.YtopjffgmpphdbaaDoorPr16
import Derived.Test.YtopjffgmpphdbaaDoorPr17
namespace Go.Proofs.YtopjffgmpphdbaaDoor.Pr
open Go.RowKit Go.Proofs.YtopjffgmpphdbaaDoorW.PrintWords Go.Proofs.YtopjffgmpphdbaaDoorW.PrintLast Go.Proofs.YtopjffgmpphdbaaDoorW.PrintMore
attribute [local go_sem] max2_int min2_int max_two min_two max_three min_three max_four min_four
set_option linter.unusedVariables false
set_option linter.unusedSimpArgs false
/-! ### order_board_degree: function 43 -/
/-- a number by its bytes -/
def num8 : Nat → (Nat → Nat) → Nat
 | 0, _ => 0
 | n + 1, f => f 0 + 256 * num8 n (fun i => f (i + 1))
theorem num8_lt : ∀ (n : Nat) (f : Nat → Nat), (∀ i, f i < 256) → num8 n f < 256 ^ n
 | 0, f, _ => by simp [num8]
 | n + 1, f, h => by
  have h1 := num8_lt n (fun i => f (i + 1)) (fun i => h (i + 1));have h0 := h 0;rw [num8, Nat.pow_succ]
  omega
theorem num8_congr : ∀ (n : Nat) (f g : Nat → Nat), (∀ i, f i = g i) → num8 n f = num8 n g := fun n f g h => by rw [show f = g from funext h]
theorem and_split (a b c d : Nat) (ha : a < 256) (hc : c < 256) : (a + 256 * b) &&& (c + 256 * d) = (a &&& c) + 256 * (b &&& d) := by
 apply Nat.eq_of_testBit_eq
 intro i
 have e : ∀ x y : Nat, x < 256 → (x + 256 * y).testBit i = if i < 8 then x.testBit i else y.testBit (i - 8) := fun x y hx => by
  rw [Nat.add_comm]
  exact Nat.testBit_two_pow_mul_add y (i := 8) hx i
 rw [Nat.testBit_and, e a b ha, e c d hc, e _ _ (Nat.lt_of_le_of_lt Nat.and_le_left ha)]
 by_cases h : i < 8
 ·rw [if_pos h, if_pos h, if_pos h, Nat.testBit_and]
 ·rw [if_neg h, if_neg h, if_neg h, Nat.testBit_and]
theorem num8_and : ∀ (n : Nat) (f g : Nat → Nat), (∀ i, f i < 256) → (∀ i, g i < 256) → num8 n f &&& num8 n g = num8 n (fun i => f i &&& g i)
 | 0, f, g, _, _ => by simp [num8]
 | n + 1, f, g, hf, hg => by
  rw [num8, num8, num8, and_split _ _ _ _ (hf 0) (hg 0), num8_and n _ _ (fun i => hf (i + 1)) (fun i => hg (i + 1))]
theorem num8_add : ∀ (n : Nat) (f g : Nat → Nat), num8 n f + num8 n g = num8 n (fun i => f i + g i)
 | 0, f, g => rfl
 | n + 1, f, g => by
  have := num8_add n (fun i => f (i + 1)) (fun i => g (i + 1));rw [num8, num8, num8, ← this]
  omega
theorem num8_mod (n : Nat) (f : Nat → Nat) (c e : Nat) (hc : c * e = 256) (hz : n = 0 → f 0 = 0) : num8 n f % c = f 0 % c := by
 cases n with
 | zero => rw [hz rfl]; rfl
 | succ n => rw [num8, ← hc, Nat.mul_assoc, Nat.add_mul_mod_self_left]
theorem num8_shr (c e : Nat) (hc : c * e = 256) (c0 : 0 < c) : ∀ (n : Nat) (f : Nat → Nat), (∀ i, n ≤ i → f i = 0) → num8 n f / c = num8 n (fun i => f i / c + e * (f (i + 1) % c))
 | 0, f, _ => Nat.zero_div _
 | n + 1, f, h => by
  have ih := num8_shr c e hc c0 n (fun i => f (i + 1)) (fun i hi => h (i + 1) (by omega));have hm := num8_mod n (fun i => f (i + 1)) c e hc (fun hn => h 1 (by omega));rw [num8, num8, ← ih]
  obtain ⟨R, hR⟩ : ∃ R, R = num8 n (fun i => f (i + 1)) := ⟨_, rfl⟩;rw [← hR] at hm ⊢
  rw [← hm, show f 0 + 256 * R = f 0 + c * (e * R) by rw [← Nat.mul_assoc, hc], Nat.add_mul_div_left _ _ c0]
  have h1 := Nat.div_add_mod R c
  have h2 : e * R = e * (R % c) + 256 * (R / c) := by
   rw [← hc, Nat.mul_comm c e, Nat.mul_assoc, ← Nat.mul_add, Nat.add_comm (R % c), h1]
  rw [h2]
  omega
theorem num8_digits : ∀ (n x : Nat), num8 n (fun i => x / 256 ^ i % 256) = x % 256 ^ n
 | 0, x => by simp [num8, Nat.mod_one]
 | n + 1, x => by
  have ih := num8_digits n (x / 256);rw [num8, num8_congr n _ (fun i => x / 256 / 256 ^ i % 256) (fun i => by rw [Nat.div_div_eq_div_mul, Nat.pow_succ, Nat.mul_comm (256 ^ i)]), ih, Nat.pow_succ, Nat.mul_comm (256 ^ n), Nat.mod_mul]
  simp
/-- how many bits a byte has -/
def pc8 (b : Nat) : Nat := ((List.range 8).filter fun i => b.testBit i).length
def st1 (b : Nat) : Nat := (b / 2 &&& 85) + (b &&& 85)
def st2 (b : Nat) : Nat := (b / 4 &&& 51) + (b &&& 51)
theorem byte1 : ∀ b : Fin 256, ∀ t : Fin 2, ((b.val / 2 + 128 * t.val) &&& 85) = (b.val / 2 &&& 85) ∧ b.val / 2 + 128 * t.val < 256 ∧ st1 b.val < 256 := by decide +kernel
theorem byte2 : ∀ b : Fin 256, ∀ t : Fin 4, ((st1 b.val / 4 + 64 * t.val) &&& 51) = (st1 b.val / 4 &&& 51) ∧ st1 b.val / 4 + 64 * t.val < 256 ∧ st2 (st1 b.val) < 256 := by decide +kernel
theorem byte3 : ∀ b : Fin 256, ∀ t : Fin 5, ((st2 (st1 b.val) / 16 + 16 * t.val + st2 (st1 b.val)) &&& 15) = pc8 b.val ∧ st2 (st1 b.val) / 16 + 16 * t.val + st2 (st1 b.val) < 256 ∧ st2 (st1 b.val) % 16 < 5 ∧ pc8 b.val ≤ 8 := by decide +kernel
/-- how many bits a number has -/
def popW (x : Nat) : Nat := (listN x).length
theorem wrapU (n : Nat) (h : n < 18446744073709551616) : IntKind.u64.wrap (n : Int) = (n : Int) := by rw [IntKind.wrap_u64]; omega
def o1 (x : Int) : Int := IntKind.u64.wrap ((Go.bits .and .u64 (x / 2) 6148914691236517205) + (Go.bits .and .u64 x 6148914691236517205))
def o2 (x : Int) : Int := IntKind.u64.wrap ((Go.bits .and .u64 (x / 4) 3689348814741910323) + (Go.bits .and .u64 x 3689348814741910323))
def o3 (x : Int) : Int := Go.bits .and .u64 (IntKind.u64.wrap ((x / 16) + x)) 1085102592571150095
def o4 (x : Int) : Int := IntKind.u64.wrap (x + (x / 256))
def o5 (x : Int) : Int := IntKind.u64.wrap (x + (x / 65536))
def o6 (x : Int) : Int := IntKind.u64.wrap (x + (x / 4294967296))
theorem ones_form (x : Int) : bits_OnesCount64.f x = some (Go.bits .and .i64 (wrap64 (o6 (o5 (o4 (o3 (o2 (o1 x))))))) 127) := rfl
def dg (x : Nat) (i : Nat) : Nat := x / 256 ^ i % 256
theorem dg_lt (x i : Nat) : dg x i < 256 := Nat.mod_lt _ (by decide)
theorem dg_zero (x : Nat) (hx : x < 18446744073709551616) (i : Nat) (hi : 8 ≤ i) : dg x i = 0 := by
 unfold dg
 have h : x / 256 ^ i = 0 := Nat.div_eq_of_lt (Nat.lt_of_lt_of_le hx (by
  have : (256 : Nat) ^ 8 ≤ 256 ^ i := Nat.pow_le_pow_right (by decide) hi;exact this))
 rw [h]
theorem dg_num (x : Nat) (hx : x < 18446744073709551616) : num8 8 (dg x) = x := by
 have h := num8_digits 8 x;rw [Nat.mod_eq_of_lt (show x < 256 ^ 8 from hx)] at h
 exact h
theorem num8_64 (f : Nat → Nat) (h : ∀ i, f i < 256) : num8 8 f < 18446744073709551616 := num8_lt 8 f h
theorem byB1 (b t : Nat) (hb : b < 256) (ht : t < 2) : ((b / 2 + 128 * t) &&& 85) = (b / 2 &&& 85) ∧ b / 2 + 128 * t < 256 ∧ st1 b < 256 := byte1 ⟨b, hb⟩ ⟨t, ht⟩
theorem byB2 (b t : Nat) (hb : b < 256) (ht : t < 4) : ((st1 b / 4 + 64 * t) &&& 51) = (st1 b / 4 &&& 51) ∧ st1 b / 4 + 64 * t < 256 ∧ st2 (st1 b) < 256 := byte2 ⟨b, hb⟩ ⟨t, ht⟩
theorem byB3 (b t : Nat) (hb : b < 256) (ht : t < 5) : ((st2 (st1 b) / 16 + 16 * t + st2 (st1 b)) &&& 15) = pc8 b ∧ st2 (st1 b) / 16 + 16 * t + st2 (st1 b) < 256 ∧ st2 (st1 b) % 16 < 5 ∧ pc8 b ≤ 8 := byte3 ⟨b, hb⟩ ⟨t, ht⟩
theorem o1_eq (x : Nat) (hx : x < 18446744073709551616) : o1 (x : Int) = ((num8 8 (fun i => st1 (dg x i)) : Nat) : Int) := by
 have hm : num8 8 (fun _ => 85) = 6148914691236517205 := by decide +kernel
 have hs := num8_shr 2 128 (by decide) (by decide) 8 (dg x) (dg_zero x hx);rw [dg_num x hx] at hs
 have h1 : x / 2 &&& 6148914691236517205 = num8 8 (fun i => dg x i / 2 &&& 85) := by
  rw [hs, ← hm, num8_and 8 _ _ (fun i => (byB1 _ _ (dg_lt x i) (Nat.mod_lt _ (by decide))).2.1) (fun _ => by decide)]
  exact num8_congr 8 _ _ (fun i => (byB1 _ _ (dg_lt x i) (Nat.mod_lt _ (by decide))).1)
 have h2 : x &&& 6148914691236517205 = num8 8 (fun i => dg x i &&& 85) := by
  rw [← hm]
  conv => lhs; rw [← dg_num x hx]
  exact num8_and 8 _ _ (fun i => dg_lt x i) (fun _ => by decide)
 have h3 : (x / 2 &&& 6148914691236517205) + (x &&& 6148914691236517205) = num8 8 (fun i => st1 (dg x i)) := by rw [h1, h2, num8_add]; rfl
 have hb := num8_64 (fun i => st1 (dg x i)) (fun i => (byB1 _ 0 (dg_lt x i) (by decide)).2.2);unfold o1
 rw [show (x : Int) / 2 = ((x / 2 : Nat) : Int) by omega]
 have e1 := bits_and_u64_nat (x / 2) 6148914691236517205 (by omega) (by decide);have e2 := bits_and_u64_nat x 6148914691236517205 hx (by decide);have e1' : Go.bits .and .u64 ((x / 2 : Nat) : Int) 6148914691236517205 = ((x / 2 &&& 6148914691236517205 : Nat) : Int) := e1;have e2' : Go.bits .and .u64 (x : Int) 6148914691236517205 = ((x &&& 6148914691236517205 : Nat) : Int) := e2;rw [e1', e2', ← Int.natCast_add, h3, wrapU _ hb]
theorem o2_eq (x : Nat) (hx : x < 18446744073709551616) : o2 ((num8 8 (fun i => st1 (dg x i)) : Nat) : Int) = ((num8 8 (fun i => st2 (st1 (dg x i))) : Nat) : Int) := by
 have hm : num8 8 (fun _ => 51) = 3689348814741910323 := by decide +kernel
 have hy := num8_64 (fun i => st1 (dg x i)) (fun i => (byB1 _ 0 (dg_lt x i) (by decide)).2.2);obtain ⟨y, hyy⟩ : ∃ y, y = num8 8 (fun i => st1 (dg x i)) := ⟨_, rfl⟩;have hs := num8_shr 4 64 (by decide) (by decide) 8 (fun i => st1 (dg x i)) (fun i hi => by show st1 (dg x i) = 0; rw [dg_zero x hx i hi]; rfl);rw [← hyy] at hs hy ⊢
 have h1 : y / 4 &&& 3689348814741910323 = num8 8 (fun i => st1 (dg x i) / 4 &&& 51) := by
  rw [hs, ← hm, num8_and 8 _ _ (fun i => (byB2 _ _ (dg_lt x i) (Nat.mod_lt _ (by decide))).2.1) (fun _ => by decide)]
  exact num8_congr 8 _ _ (fun i => (byB2 _ _ (dg_lt x i) (Nat.mod_lt _ (by decide))).1)
 have h2 : y &&& 3689348814741910323 = num8 8 (fun i => st1 (dg x i) &&& 51) := by
  rw [hyy, ← hm]
  exact num8_and 8 _ _ (fun i => (byB1 _ 0 (dg_lt x i) (by decide)).2.2) (fun _ => by decide)
 have h3 : (y / 4 &&& 3689348814741910323) + (y &&& 3689348814741910323) = num8 8 (fun i => st2 (st1 (dg x i))) := by rw [h1, h2, num8_add]; rfl
 have hb := num8_64 (fun i => st2 (st1 (dg x i))) (fun i => (byB2 _ 0 (dg_lt x i) (by decide)).2.2);unfold o2
 rw [show (y : Int) / 4 = ((y / 4 : Nat) : Int) by omega]
 have e1' : Go.bits .and .u64 ((y / 4 : Nat) : Int) 3689348814741910323 = ((y / 4 &&& 3689348814741910323 : Nat) : Int) := bits_and_u64_nat (y / 4) 3689348814741910323 (by omega) (by decide);have e2' : Go.bits .and .u64 (y : Int) 3689348814741910323 = ((y &&& 3689348814741910323 : Nat) : Int) := bits_and_u64_nat y 3689348814741910323 hy (by decide);rw [e1', e2', ← Int.natCast_add, h3, wrapU _ hb]
theorem o3_eq (x : Nat) (hx : x < 18446744073709551616) : o3 ((num8 8 (fun i => st2 (st1 (dg x i))) : Nat) : Int) = ((num8 8 (fun i => pc8 (dg x i)) : Nat) : Int) := by
 have hm : num8 8 (fun _ => 15) = 1085102592571150095 := by decide +kernel
 obtain ⟨y, hyy⟩ : ∃ y, y = num8 8 (fun i => st2 (st1 (dg x i))) := ⟨_, rfl⟩;have hs := num8_shr 16 16 (by decide) (by decide) 8 (fun i => st2 (st1 (dg x i))) (fun i hi => by show st2 (st1 (dg x i)) = 0; rw [dg_zero x hx i hi]; rfl);rw [← hyy] at hs ⊢
 have ht : ∀ i, st2 (st1 (dg x (i + 1))) % 16 < 5 := fun i => (byB3 _ 0 (dg_lt x (i + 1)) (by decide)).2.2.1
 have h1 : y / 16 + y = num8 8 (fun i => st2 (st1 (dg x i)) / 16 + 16 * (st2 (st1 (dg x (i + 1))) % 16) + st2 (st1 (dg x i))) := by rw [hs, hyy, num8_add]
 have hb : ∀ i, st2 (st1 (dg x i)) / 16 + 16 * (st2 (st1 (dg x (i + 1))) % 16) + st2 (st1 (dg x i)) < 256 := fun i => (byB3 _ _ (dg_lt x i) (ht i)).2.1
 have h2 : (y / 16 + y) &&& 1085102592571150095 = num8 8 (fun i => pc8 (dg x i)) := by
  rw [h1, ← hm, num8_and 8 _ _ hb (fun _ => by decide)]
  exact num8_congr 8 _ _ (fun i => (byB3 _ _ (dg_lt x i) (ht i)).1)
 have hlt : y / 16 + y < 18446744073709551616 := by rw [h1]; exact num8_64 _ hb
 unfold o3
 rw [show (y : Int) / 16 + (y : Int) = ((y / 16 + y : Nat) : Int) by omega, wrapU _ hlt]
 have e : Go.bits .and .u64 ((y / 16 + y : Nat) : Int) 1085102592571150095 = (((y / 16 + y) &&& 1085102592571150095 : Nat) : Int) := bits_and_u64_nat (y / 16 + y) 1085102592571150095 hlt (by decide);rw [e, h2]
theorem i64_and127 (n : Int) : Go.bits .and .i64 n 127 = n % 128 := by
 have hw : ∀ a : Nat, IntKind.i64.wrap (((a &&& 127 : Nat)) : Int) = ((a % 128 : Nat) : Int) := by
  intro a
  have h : a &&& 127 = a % 128 := Nat.and_two_pow_sub_one_eq_mod a 7;rw [h, IntKind.wrap_i64]; omega
 simp only [bits, BitVec.toNat_and]
 rw [show (BitVec.ofInt (IntKind.bits .i64) 127).toNat = 127 from by decide]
 rw [hw, BitVec.toNat_ofInt]
 have : (IntKind.bits .i64) = 64 := rfl;rw [this]
 omega
theorem pop_s4 (a0 a1 a2 a3 a4 a5 a6 a7 : Nat) (h0 : a0 ≤ 8) (h1 : a1 ≤ 8) (h2 : a2 ≤ 8) (h3 : a3 ≤ 8) (h4 : a4 ≤ 8) (h5 : a5 ≤ 8) (h6 : a6 ≤ 8) (h7 : a7 ≤ 8) : o4 ((a0 + 256 * (a1 + 256 * (a2 + 256 * (a3 + 256 * (a4 + 256 * (a5 + 256 * (a6 + 256 * (a7 + 256 * 0))))))) : Nat) : Int) = (((a0 + a1) + 256 * ((a1 + a2) + 256 * ((a2 + a3) + 256 * ((a3 + a4) + 256 * ((a4 + a5) + 256 * ((a5 + a6) + 256 * ((a6 + a7) + 256 * a7)))))) : Nat) : Int) := by
 unfold o4
 rw [IntKind.wrap_u64]
 omega
theorem pop_s5 (a0 a1 a2 a3 a4 a5 a6 a7 : Nat) (h0 : a0 ≤ 8) (h1 : a1 ≤ 8) (h2 : a2 ≤ 8) (h3 : a3 ≤ 8) (h4 : a4 ≤ 8) (h5 : a5 ≤ 8) (h6 : a6 ≤ 8) (h7 : a7 ≤ 8) : o5 (((a0 + a1) + 256 * ((a1 + a2) + 256 * ((a2 + a3) + 256 * ((a3 + a4) + 256 * ((a4 + a5) + 256 * ((a5 + a6) + 256 * ((a6 + a7) + 256 * a7)))))) : Nat) : Int) = (((a0 + a1 + a2 + a3) + 256 * ((a1 + a2 + a3 + a4) + 256 * ((a2 + a3 + a4 + a5) + 256 * ((a3 + a4 + a5 + a6) + 256 * ((a4 + a5 + a6 + a7) + 256 * ((a5 + a6 + a7) + 256 * ((a6 + a7) + 256 * a7)))))) : Nat) : Int) := by
 unfold o5
 obtain ⟨H, hH⟩ : ∃ H, H = (a2 + a3) + 256 * ((a3 + a4) + 256 * ((a4 + a5) + 256 * ((a5 + a6) + 256 * ((a6 + a7) + 256 * a7)))) := ⟨_, rfl⟩;have hd : (((a0 + a1) + 256 * ((a1 + a2) + 256 * H) : Nat) : Int) / 65536 = (H : Int) := by omega
 rw [← hH, hd, ← Int.natCast_add, wrapU _ (by omega)]
 omega
theorem pop_s6 (a0 a1 a2 a3 a4 a5 a6 a7 : Nat) (h0 : a0 ≤ 8) (h1 : a1 ≤ 8) (h2 : a2 ≤ 8) (h3 : a3 ≤ 8) (h4 : a4 ≤ 8) (h5 : a5 ≤ 8) (h6 : a6 ≤ 8) (h7 : a7 ≤ 8) : o6 (((a0 + a1 + a2 + a3) + 256 * ((a1 + a2 + a3 + a4) + 256 * ((a2 + a3 + a4 + a5) + 256 * ((a3 + a4 + a5 + a6) + 256 * ((a4 + a5 + a6 + a7) + 256 * ((a5 + a6 + a7) + 256 * ((a6 + a7) + 256 * a7)))))) : Nat) : Int) % 256 = ((a0 + a1 + a2 + a3 + a4 + a5 + a6 + a7 : Nat) : Int) := by
 unfold o6
 obtain ⟨H, hH⟩ : ∃ H, H = (a4 + a5 + a6 + a7) + 256 * ((a5 + a6 + a7) + 256 * ((a6 + a7) + 256 * a7)) := ⟨_, rfl⟩;have hd : (((a0 + a1 + a2 + a3) + 256 * ((a1 + a2 + a3 + a4) + 256 * ((a2 + a3 + a4 + a5) + 256 * ((a3 + a4 + a5 + a6) + 256 * H))) : Nat) : Int) / 4294967296 = (H : Int) := by omega
 rw [← hH, hd, ← Int.natCast_add, wrapU _ (by omega)]
 omega
theorem pop_sum (p : Nat → Nat) (hp : ∀ i, p i ≤ 8) : (o6 (o5 (o4 ((num8 8 p : Nat) : Int)))) % 256 = ((p 0 + p 1 + p 2 + p 3 + p 4 + p 5 + p 6 + p 7 : Nat) : Int) := by
 have e : num8 8 p = p 0 + 256 * (p 1 + 256 * (p 2 + 256 * (p 3 + 256 * (p 4 + 256 * (p 5 + 256 * (p 6 + 256 * (p 7 + 256 * 0))))))) := rfl;rw [e, pop_s4 _ _ _ _ _ _ _ _ (hp 0) (hp 1) (hp 2) (hp 3) (hp 4) (hp 5) (hp 6) (hp 7), pop_s5 _ _ _ _ _ _ _ _ (hp 0) (hp 1) (hp 2) (hp 3) (hp 4) (hp 5) (hp 6) (hp 7)]
 exact pop_s6 _ _ _ _ _ _ _ _ (hp 0) (hp 1) (hp 2) (hp 3) (hp 4) (hp 5) (hp 6) (hp 7)
theorem testBit_dg (x j i : Nat) (hi : i < 8) : x.testBit (8 * j + i) = (dg x j).testBit i := by
 unfold dg
 rw [show (256 : Nat) = 2 ^ 8 from rfl, ← Nat.pow_mul, Nat.testBit_mod_two_pow, Nat.testBit_div_two_pow]
 simp [hi, Nat.add_comm]
theorem pop_dg (x : Nat) : popW x = pc8 (dg x 0) + pc8 (dg x 1) + pc8 (dg x 2) + pc8 (dg x 3) + pc8 (dg x 4) + pc8 (dg x 5) + pc8 (dg x 6) + pc8 (dg x 7) := by
 have e : (List.range 64) = (List.range 8).map (8 * 0 + ·) ++ (List.range 8).map (8 * 1 + ·) ++ (List.range 8).map (8 * 2 + ·) ++ (List.range 8).map (8 * 3 + ·) ++ (List.range 8).map (8 * 4 + ·) ++ (List.range 8).map (8 * 5 + ·) ++ (List.range 8).map (8 * 6 + ·) ++ (List.range 8).map (8 * 7 + ·) := by decide
 have h : ∀ j, (((List.range 8).map (8 * j + ·)).filter fun i => x.testBit i).length = pc8 (dg x j) := fun j => by
  unfold pc8
  rw [List.filter_map, List.length_map]
  congr 1
  refine List.filter_congr fun i hi => ?_
  exact testBit_dg x j i (List.mem_range.1 hi)
 unfold popW listN
 rw [List.length_map, e]
 simp only [List.filter_append, List.length_append, h]
theorem ones_eq (x : Nat) (hx : x < 18446744073709551616) : bits_OnesCount64.f (x : Int) = some ((popW x : Nat) : Int) := by
 have hp : ∀ i, pc8 (dg x i) ≤ 8 := fun i => (byB3 _ 0 (dg_lt x i) (by decide)).2.2.2
 have hs := pop_sum (fun i => pc8 (dg x i)) hp;rw [ones_form, o1_eq x hx, o2_eq x hx, o3_eq x hx]
 obtain ⟨z, hz⟩ : ∃ z, z = o6 (o5 (o4 ((num8 8 (fun i => pc8 (dg x i)) : Nat) : Int))) := ⟨_, rfl⟩;rw [← hz] at hs ⊢
 have hr : 0 ≤ z ∧ z < 18446744073709551616 := by
  rw [hz]
  unfold o6
  rw [IntKind.wrap_u64]
  omega
 have hl := pop_dg x;have q : ∀ i, pc8 (dg x i) ≤ 8 := hp;have q0 := q 0; have q1 := q 1; have q2 := q 2; have q3 := q 3; have q4 := q 4; have q5 := q 5; have q6 := q 6; have q7 := q 7
 have ha : Go.bits .and .i64 (wrap64 z) 127 = (wrap64 z) % 128 := i64_and127 _;rw [ha]
 congr 1
 rw [hl]
 unfold wrap64
 omega
/-- a board: its two cells at bp, its rows l, what is left L -/
structure Board (w : World) (bp base : Nat) (v : Value) (l : List Int) (L : Int) : Prop where
 obj : w.heap[bp]? = some (.cells #[v, .int .u64 L] 74 (0, 0))
 row : Kd.R (Kd.int .u64) 61 w base (fun _ => True) v l
 all : ∀ x ∈ l, 0 ≤ x ∧ x < 18446744073709551616
 ins : ∀ x ∈ l, ∀ a ∈ listN x.toNat, a < (l.length : Int)
theorem Board.below {w w' : World} {bp base : Nat} {v : Value} {l : List Int} {L : Int} (h : Board w bp base v l L) (hb : Below w.heap.size w w') : Board w' bp base v l L :=
 ⟨(hb.block _ (blk_lt h.obj)).trans h.obj, Kd.R_below h.row hb, h.all, h.ins⟩
theorem rd_mem {l : List Int} {i : Int} (h0 : 0 ≤ i) (h1 : i < l.length) : rd l i ∈ l := by
 obtain ⟨k, rfl⟩ := Int.eq_ofNat_of_zero_le h0;have hk : k < l.length := by omega
 rw [rd_nat l k _ (List.getElem?_eq_getElem hk)]
 exact List.getElem_mem hk
def degreeF (l : List Int) (x : Int) : Int := (popW (rd l x).toNat : Int)
theorem order_board_degree.walk (bp base : Nat) (v : Value) (l : List Int) (L : Int) (w : World) (hB : Board w bp base v l L) (x : Int) (h0 : 0 ≤ x) (h1 : x < l.length) :
  Calls Tryd.prog 43 #[.pointer (some ⟨bp, 0, none⟩), .int .i64 x] w fun e w' => e = .returned (.int .i64 (degreeF l x)) ∧ Drawn0 w w' := by
 obtain ⟨A, c, rfl, hlc, hC⟩ := Kd.R_reads hB.row;have hc0 : w.cell? ⟨bp, 0, none⟩ = some (.slice A l.length c) := (blk_cell hB.obj 0).trans rfl;obtain ⟨ad, rfl, hx⟩ := Kd.at_int hC x h0 h1;have hm := hB.all _ (rd_mem h0 h1);obtain ⟨y, hy⟩ : ∃ y : Nat, rd l x = (y : Int) := Int.eq_ofNat_of_zero_le hm.1;have HF := Aside0.mk (show degreeF l x = ((popW y : Nat) : Int) by unfold degreeF; rw [hy]; rfl);rw [hy] at hx hm
 have HO := Aside0.mk (ones_eq y (by omega));clear hB hC hm hy;obtain ⟨n, hn⟩ : ∃ n, n = l.length := ⟨_, rfl⟩;rw [← hn] at h1 hc0
 clear hn;go_enter Tryd.func43, Tryd.ntmps43
 go_wp2_with (first
  | (go_at_call 45; refine (bits_OnesCount64.calls _ _ _ HO.out).mono ?_; rintro e w1 ⟨rfl, hd⟩; have HD := Aside0.mk hd; clear hd))
 go_ret
 rw [HF.out]
 exact ⟨rfl, HD.out⟩
/-- a number without the bits of another -/
def anl (a b : Nat) : Nat := a &&& (18446744073709551615 - b)
theorem anl_lt {a b : Nat} (h : a < 18446744073709551616) : anl a b < 18446744073709551616 := Nat.lt_of_le_of_lt Nat.and_le_left h
theorem anl_eq (a b : Nat) (ha : a < 18446744073709551616) (hb : b < 18446744073709551616) : bits .andNot .u64 (a : Int) (b : Int) = ((anl a b : Nat) : Int) := u64_andNot_nat a b ha hb
theorem two_lt {t : Nat} (h : t < 64) : 2 ^ t < 18446744073709551616 := Nat.pow_lt_pow_right (a := 2) (by decide) h
theorem one_shl (t : Nat) (h : t < 64) : IntKind.u64.wrap (1 * 2 ^ ((t : Int)).toNat) = ((2 ^ t : Nat) : Int) := by
 rw [Int.toNat_natCast, Int.one_mul]
 have e : ((2 : Int) ^ t) = ((2 ^ t : Nat) : Int) := by simp
 rw [e]
 exact wrapU _ (two_lt h)
/-- a call that only draws, inside a region behind other draws -/
theorem quiet_more {P : Program} {f : FuncId} {args : Array Value} {w : World} {a n : Nat} {v : Value} (h : Calls P f args (w.drewN (a + n)) fun e w' => e = .returned v ∧ Drawn0 (w.drewN (a + n)) w') :
  Calls P f args (w.drewN (a + n)) fun e w'' => e = .returned v ∧ ∃ m, w'' = w.drewN (a + m) := by
 refine h.mono ?_;rintro e w' ⟨he, ⟨q, rfl⟩⟩
 exact ⟨he, n + q, by rw [World.drewN_drewN, Nat.add_assoc]⟩
theorem quiet_one {P : Program} {f : FuncId} {args : Array Value} {w : World} {n : Nat} {v : Value} (h : Calls P f args (w.drewN n) fun e w' => e = .returned v ∧ Drawn0 (w.drewN n) w') :
  Calls P f args (w.drewN n) fun e w'' => e = .returned v ∧ ∃ m, w'' = w.drewN m := by
 refine h.mono ?_;rintro e w' ⟨he, ⟨q, rfl⟩⟩
 exact ⟨he, n + q, by rw [World.drewN_drewN]⟩
def missN (l : List Int) (b : Nat) (a : Int) : Nat := popW (anl (anl b (rd l a).toNat) (2 ^ a.toNat))
def missSum (l : List Int) (b : Nat) (ys : List Int) : Nat := (ys.map (missN l b)).sum
def missF (l : List Int) (x : Int) : Int := ((missSum l (rd l x).toNat (listN (rd l x).toNat) / 2 : Nat) : Int)
theorem popW_le (x : Nat) : popW x ≤ 64 := listN_len x
theorem missSum_le (l : List Int) (b : Nat) : ∀ ys, missSum l b ys ≤ 64 * ys.length
 | [] => Nat.le_refl _
 | a :: ys => by
  have h := missSum_le l b ys;have h2 : missN l b a ≤ 64 := popW_le _;unfold missSum at h ⊢
  rw [List.map_cons, List.sum_cons, List.length_cons]
  omega
set_option maxHeartbeats 4000000 in
theorem miss_walk (bp base : Nat) (v : Value) (l : List Int) (L : Int) (w : World) (hTb : Tab64 w) (hB : Board w bp base v l L) (x : Int) (h0 : 0 ≤ x) (h1 : x < l.length) :
  Calls Tryd.prog 42 #[.pointer (some ⟨bp, 0, none⟩), .int .i64 x] w fun e w' => e = .returned (.int .i64 (missF l x)) ∧ Drawn0 w w' := by
 obtain ⟨A, c, rfl, hlc, hC⟩ := Kd.R_reads hB.row;have hc0 : w.cell? ⟨bp, 0, none⟩ = some (.slice A l.length c) := (blk_cell hB.obj 0).trans rfl;obtain ⟨ad, rfl, hx⟩ := Kd.at_int hC x h0 h1
 have hrow : ∀ i : Int, 0 ≤ i → i < l.length → w.cell? (ad.add i.toNat) = some (.int .u64 (rd l i)) := fun i a0 a1 => by
  obtain ⟨ad', e, h⟩ := Kd.at_int hC i a0 a1;obtain rfl := Option.some.inj e;exact h
 have hm := hB.all _ (rd_mem h0 h1);have hins := hB.ins _ (rd_mem h0 h1);obtain ⟨y, hy⟩ : ∃ y : Nat, rd l x = (y : Int) := Int.eq_ofNat_of_zero_le hm.1;have HF := Aside0.mk (show missF l x = ((missSum l y (listN y) / 2 : Nat) : Int) by unfold missF; rw [hy]; rfl);rw [hy] at hx hm hins
 have HY := Aside0.mk (show y < 18446744073709551616 by omega);have HI := Aside0.mk hins;have HA := Aside0.mk hB.all;have HR := Aside0.mk hrow;have HT := Aside0.mk hTb;clear hB hC hm hy hrow hins hTb;obtain ⟨n, hn⟩ : ∃ n, n = l.length := ⟨_, rfl⟩;rw [← hn] at h1 hc0 HR HI
 have HN := Aside0.mk hn;clear hn;go_enter Tryd.func42, Tryd.ntmps42
 go_wp2
 go_loopg [5, 6] 64 (fun gg s5 s6 wr => ∃ (z k q : Nat), s5 = .int .i64 k ∧ s6 = .int .u64 z ∧ wr = w.drewN q ∧ Aside0 (z < 18446744073709551616) ∧ Aside0 ((listN z).length ≤ gg) ∧ Aside0 (∀ a ∈ listN z, a < (n : Int)) ∧ Aside0 (k + missSum l y (listN z) = missSum l y (listN y)))
 case atStart => exact ⟨y, 0, 0, rfl, rfl, rfl, HY, ⟨listN_len y⟩, by simpa [HI.out] using HI, ⟨Nat.zero_add _⟩⟩
 case round =>
  obtain ⟨z, k, q, rfl, rfl, rfl, HZ, HG, HIN, HS⟩ := hrel;by_cases hz : z = 0
  ·have HS2 := Aside0.mk (show k = missSum l y (listN y) by have := HS.out; rw [hz, listN_zero] at this; exact this);subst hz;have hsl := missSum_le l y (listN y);have hl64 := listN_len y;have HK := Aside0.mk (show k ≤ 4096 by have := HS2.out; omega);clear hsl hl64;have hw : wrap64 ((k : Int) / 2) = ((k / 2 : Nat) : Int) := by have := HK.out; unfold wrap64; omega
   go_wp2
   go_ret
   refine ⟨?_, ⟨⟨q, rfl⟩⟩⟩;rw [HF.out, ← HS2.out]
   rw [← hw]
   rfl
  ·have hs := listN_step z hz HZ.out;have hc := ctz_le z hz HZ.out;obtain ⟨t, ht⟩ : ∃ t, t = Lib.ctz 64 z := ⟨_, rfl⟩;rw [← ht] at hs hc
   have HTZ := Aside0.mk (show bits_TrailingZeros64.f (z : Int) = some (t : Int) by unfold bits_TrailingZeros64.f; rw [if_pos ⟨by omega, by have := HZ.out; omega⟩, Int.toNat_natCast, ← ht]);have hg2 := HG.out;rw [hs, List.length_cons] at hg2
   have HG2 := Aside0.mk hg2;have hIN := HIN.out;rw [hs] at hIN
   have htn : (t : Int) < (n : Int) := hIN _ List.mem_cons_self;have HIN2 := Aside0.mk (fun a ha => hIN a (List.mem_cons_of_mem _ ha) : ∀ a ∈ listN (z &&& (z - 1)), a < (n : Int));have hm2 := HA.out _ (rd_mem (l := l) (i := (t : Int)) (by omega) (by rw [← HN.out]; exact htn));have hcell := HR.out (t : Int) (by omega) htn;obtain ⟨za, hza⟩ : ∃ za : Nat, rd l (t : Int) = (za : Int) := Int.eq_ofNat_of_zero_le hm2.1;rw [hza] at hm2 hcell
   rw [Int.toNat_natCast] at hcell
   have hzl : za < 18446744073709551616 := by omega
   have hsh := one_shl t hc;obtain ⟨sh, hshe⟩ : ∃ sh, sh = 2 ^ t := ⟨_, rfl⟩;have hshl : sh < 18446744073709551616 := by rw [hshe]; exact two_lt hc
   clear hsh;have hsh : IntKind.u64.wrap (sh : Int) = (sh : Int) := wrapU _ hshl;have e1 := anl_eq y za HY.out hzl;have e2 := anl_eq (anl y za) sh (anl_lt HY.out) hshl;obtain ⟨u1, hu1⟩ : ∃ u1, u1 = anl y za := ⟨_, rfl⟩;rw [← hu1] at e1 e2
   obtain ⟨u2, hu2⟩ : ∃ u2, u2 = anl u1 sh := ⟨_, rfl⟩;rw [← hu2] at e2
   have hpop : missN l y (t : Int) = popW u2 := by unfold missN; rw [hza, Int.toNat_natCast, Int.toNat_natCast, hu2, hu1, hshe]
   have HO2 := Aside0.mk (ones_eq u2 (by rw [hu2]; exact anl_lt (by rw [hu1]; exact anl_lt HY.out)));have hp64 := popW_le u2;obtain ⟨p, hp⟩ : ∃ p, p = popW u2 := ⟨_, rfl⟩;rw [← hp] at hpop HO2 hp64
   have hsum := HS.out;rw [hs] at hsum
   have HS2 := Aside0.mk (show (k + p) + missSum l y (listN (z &&& (z - 1))) = missSum l y (listN y) by rw [← hsum]; unfold missSum; rw [List.map_cons, List.sum_cons, hpop]; omega)
   have hkk : k ≤ 4096 := by
    have h2 := missSum_le l y (listN y);have h3 := listN_len y;have := HS.out;omega
   have hw : IntKind.i64.wrap ((k : Int) + (p : Int)) = ((k + p : Nat) : Int) := by rw [IntKind.wrap_i64]; omega
   have hne : ((z : Int) != 0) = true := by simp; omega
   have hw1 : IntKind.u64.wrap ((z : Int) - 1) = ((z - 1 : Nat) : Int) := by rw [IntKind.wrap_u64]; have := HZ.out; omega
   have hw2 : bits BinOp.and IntKind.u64 (z : Int) ((z - 1 : Nat) : Int) = ((z &&& (z - 1) : Nat) : Int) := bits_and_u64_nat z (z - 1) HZ.out (by have := HZ.out; omega);have HX2 := Aside0.mk (show z &&& (z - 1) < 18446744073709551616 from Nat.lt_of_le_of_lt Nat.and_le_left HZ.out);have hshi : (1 * (2 : Int) ^ t) = (sh : Int) := by rw [hshe, Int.one_mul]; simp
   clear hg2 hs hsum hIN ht hz hm2 hza hp hpop hu1 hu2 hp64 hshe hkk;go_wp2_with (first | (go_at_call 58; refine (bits_TrailingZeros64.calls _ _ _ (tab_drewN HT.out _) HTZ.out).mono ?_; rintro e w' ⟨rfl, ⟨q2, rfl⟩⟩))
   go_quiet ((go_at_call 45; exact quiet_more (bits_OnesCount64.calls _ _ _ HO2.out)))
   go_wp2
   go_roundg ((listN (z &&& (z - 1))).length)
   case measure => have := HG2.out; omega
   case rel => exact ⟨z &&& (z - 1), k + p, _, by go_num, by go_num, rfl, HX2, ⟨Nat.le_refl _⟩, HIN2, HS2⟩
theorem mem_listN {x : Nat} {a : Int} : a ∈ listN x ↔ ∃ i : Nat, a = (i : Int) ∧ i < 64 ∧ x.testBit i = true := by
 unfold listN
 constructor
 ·intro h
  obtain ⟨i, hi, rfl⟩ := List.mem_map.1 h;have := List.mem_filter.1 hi;exact ⟨i, rfl, List.mem_range.1 this.1, this.2⟩
 ·rintro ⟨i, rfl, h1, h2⟩
  exact List.mem_map.2 ⟨i, List.mem_filter.2 ⟨List.mem_range.2 h1, h2⟩, rfl⟩
theorem bit_lt64 {x j : Nat} (hx : x < 18446744073709551616) (h : x.testBit j = true) : j < 64 := by
 rcases Nat.lt_or_ge j 64 with h1 | h1
 ·exact h1
 ·have h2 : x < 2 ^ j := Nat.lt_of_lt_of_le hx (by have : 2 ^ 64 ≤ 2 ^ j := Nat.pow_le_pow_right (by decide) h1; exact this);rw [Nat.testBit_lt_two_pow h2] at h
  cases h
/-- a row of rows: each a word, its bits are points -/
def Good (l : List Int) : Prop := ∀ x ∈ l, (0 ≤ x ∧ x < 18446744073709551616) ∧ ∀ a ∈ listN x.toNat, a < (l.length : Int)
/-- a word whose bits are points -/
def GoodW (n y : Nat) : Prop := y < 18446744073709551616 ∧ ∀ j, y.testBit j = true → j < n
theorem Good.word {l : List Int} (h : Good l) {x : Int} (hx : x ∈ l) : ∃ y : Nat, x = (y : Int) ∧ GoodW l.length y := by
 obtain ⟨h1, h2⟩ := h x hx;obtain ⟨y, rfl⟩ := Int.eq_ofNat_of_zero_le h1.1;have hy : y < 18446744073709551616 := by omega
 refine ⟨y, rfl, hy, fun j hj => ?_⟩;have := h2 (j : Int) (by rw [Int.toNat_natCast]; exact mem_listN.2 ⟨j, rfl, bit_lt64 hy hj, hj⟩);omega
theorem GoodW.list {n y : Nat} (h : GoodW n y) : ∀ a ∈ listN y, a < (n : Int) := fun a ha => by
 obtain ⟨i, rfl, _, hi⟩ := mem_listN.1 ha;have := h.2 i hi;omega
theorem Good.set {l : List Int} (h : Good l) (i y : Nat) (hy : GoodW l.length y) : Good (l.set i (y : Int)) := by
 intro x hx
 rw [List.length_set]
 rcases List.mem_or_eq_of_mem_set hx with h1 | rfl
 ·exact h x h1
 ·exact ⟨⟨by omega, by have := hy.1; omega⟩, by rw [Int.toNat_natCast]; exact hy.list⟩
theorem GoodW.zero (n : Nat) : GoodW n 0 := ⟨by decide, fun j hj => by simp at hj⟩
theorem or_lt64 {a b : Nat} (ha : a < 18446744073709551616) (hb : b < 18446744073709551616) : a ||| b < 18446744073709551616 := Nat.or_lt_two_pow (n := 64) ha hb
theorem GoodW.less {n a b c : Nat} (ha : GoodW n a) (hb : GoodW n b) : GoodW n (anl (a ||| b) c) := by
 refine ⟨anl_lt (or_lt64 ha.1 hb.1), fun j hj => ?_⟩;unfold anl at hj
 rw [Nat.testBit_and, Nat.testBit_or] at hj
 simp only [Bool.and_eq_true, Bool.or_eq_true] at hj
 exact hj.1.elim (ha.2 j) (hb.2 j)
def goStep (b x : Nat) (l : List Int) (a : Int) : List Int := l.set a.toNat ((anl ((rd l a).toNat ||| b) (2 ^ a.toNat ||| 2 ^ x) : Nat) : Int)
def goRows (l : List Int) (x : Nat) : List Int := ((listN (rd l (x : Int)).toNat).foldl (goStep (rd l (x : Int)).toNat x) l).set x 0
theorem goStep_len (b x : Nat) (l : List Int) (a : Int) : (goStep b x l a).length = l.length := List.length_set
theorem Board.good {w : World} {bp base : Nat} {v : Value} {l : List Int} {L : Int} (h : Board w bp base v l L) : Good l := fun x hx => ⟨h.all x hx, h.ins x hx⟩
theorem Board.put {w : World} {bp base g n c : Nat} {l : List Int} {L : Int} (h : Board w bp base (.slice (some ⟨g, 0, none⟩) n c) l L) (hne : bp ≠ g) (i y : Nat) (hg : Good (l.set i (y : Int))) : Board (w.setCell ⟨g, i, none⟩ (.int .u64 (y : Int))) bp base (.slice (some ⟨g, 0, none⟩) n c) (l.set i (y : Int)) L := by
 refine ⟨(Below.heap_setCell w ⟨g, i, none⟩ _ bp hne).trans h.obj, ?_, fun x hx => (hg x hx).1, fun x hx => (hg x hx).2⟩;have := Kd.R_putn (enc := Value.int .u64) (h1 := fun _ => rfl) h.row (i : Int) (y : Int);rw [Int.toNat_natCast] at this
 exact this
theorem Board.left {w : World} {bp base : Nat} {v : Value} {l : List Int} {L : Int} (h : Board w bp base v l L) (L' : Int) : Board (w.setCell ⟨bp, 1, none⟩ (.int .u64 L')) bp base v l L' := by
 refine ⟨blk_put h.obj 1 _ rfl, ?_, h.all, h.ins⟩;exact Kd.R_set h.row h.obj (by decide) _ _
theorem Board.base_le {w : World} {bp base g n c : Nat} {l : List Int} {L : Int} (h : Board w bp base (.slice (some ⟨g, 0, none⟩) n c) l L) : base ≤ g ∧ g < w.heap.size ∧ bp < w.heap.size ∧ bp ≠ g ∧ n = l.length := by
 have ho := Kd.own_of_R (enc := Value.int .u64) (h1 := fun _ => rfl) h.row;have hlt := blk_lt h.obj;refine ⟨own_base ho g (by simp [Value.ownBlock]), own_lt ho g (by simp [Value.ownBlock]), hlt, ?_, (Kd.R_reads' h.row).1⟩;obtain ⟨cells, hc⟩ := own_typed ho g (by simp [Value.ownBlock]);exact blk_ne h.obj hc (by decide)
set_option maxHeartbeats 8000000 in
theorem goes_walk (bp g n c : Nat) (w0 : World) (l : List Int) (L : Nat) (w : World) (hTb : Tab64 w0) (hW : Below w0.heap.size w0 w) (hbp : w0.heap.size ≤ bp) (hB : Board w bp w0.heap.size (.slice (some ⟨g, 0, none⟩) n c) l (L : Int)) (hL : L < 18446744073709551616) (x : Nat) (h1 : x < n) (h64 : n ≤ 64) :
  Calls Tryd.prog 47 #[.pointer (some ⟨bp, 0, none⟩), .int .i64 (x : Int)] w fun e w' => e = .returned (.tuple #[]) ∧ Board w' bp w0.heap.size (.slice (some ⟨g, 0, none⟩) n c) (goRows l x) ((anl L (2 ^ x) : Nat) : Int) ∧ Below w0.heap.size w0 w' ∧ (∀ i, i ≠ bp → i ≠ g → w'.heap[i]? = w.heap[i]?) ∧ w.heap.size ≤ w'.heap.size := by
 have hBB := hB.base_le;have hn := hBB.2.2.2.2;obtain ⟨-, hnc, hC⟩ := Kd.R_reads' hB.row;have hc0 : w.cell? ⟨bp, 0, none⟩ = some (.slice (some ⟨g, 0, none⟩) n c) := (blk_cell hB.obj 0).trans rfl;have hx : w.cell? ⟨g, (x : Int).toNat, none⟩ = some (.int .u64 (rd l (x : Int))) := (Kd.R_celln (enc := Value.int .u64) (h1 := fun _ => rfl) (0 : Int) hB.row (x : Int) (by omega) (by omega)).1;obtain ⟨b, hb, hbw⟩ := hB.good.word (rd_mem (l := l) (i := (x : Int)) (by omega) (by omega));have HE := Aside0.mk (show goRows l x = ((listN b).foldl (goStep b x) l).set x 0 by unfold goRows; rw [hb]; rfl);rw [hb, Int.toNat_natCast] at hx
 have HB := Aside0.mk hB;have HBW := Aside0.mk (by rw [← hn] at hbw; exact hbw : GoodW n b);have HW := Aside0.mk hW;have HN := Aside0.mk hn;have HT := Aside0.mk hTb;have HL := Aside0.mk hL;have HX := Aside0.mk h1;have H64 := Aside0.mk h64;have HBB := Aside0.mk hBB;have HBP := Aside0.mk hbp;have hxz : (x : Int) < (n : Int) := by omega
 have hx0 : (0 : Int) ≤ (x : Int) := by omega
 clear hB hW hbw hb hTb hC hn hBB hL h64 hbp;go_enter Tryd.func47, Tryd.ntmps47
 go_wp2
 go_loopg [5] 64 (fun gg s5 wr => ∃ (z : Nat) (lr : List Int), s5 = .int .u64 z ∧ Aside0 (z < 18446744073709551616) ∧ Aside0 ((listN z).length ≤ gg) ∧ Aside0 (∀ a ∈ listN z, a < (n : Int)) ∧ Aside0 (Board wr bp w0.heap.size (.slice (some ⟨g, 0, none⟩) n c) lr (L : Int)) ∧ Aside0 (Below w0.heap.size w0 wr) ∧ Aside0 (∀ i, i ≠ bp → i ≠ g → wr.heap[i]? = w.heap[i]?) ∧ Aside0 (w.heap.size ≤ wr.heap.size) ∧ Aside0 ((listN z).foldl (goStep b x) lr = (listN b).foldl (goStep b x) l))
 case atStart => exact ⟨b, l, rfl, ⟨HBW.out.1⟩, ⟨listN_len b⟩, ⟨HBW.out.list⟩, HB, HW, ⟨fun _ _ _ => rfl⟩, ⟨Nat.le_refl _⟩, ⟨rfl⟩⟩
 case round =>
  obtain ⟨z, lr, rfl, HZ, HG, HIN, HBD, HWR, HK, HS, HF⟩ := hrel;have hbd := HBD.out.base_le;have hcb : wr.cell? ⟨bp, 0, none⟩ = some (.slice (some ⟨g, 0, none⟩) n c) := (blk_cell HBD.out.obj 0).trans rfl;have hcL : wr.cell? ⟨bp, 1, none⟩ = some (.int .u64 (L : Int)) := (blk_cell HBD.out.obj 1).trans rfl;have hfb := blk_frozen HBD.out.obj 1;by_cases hz : z = 0
  ·have HF2 := Aside0.mk (show lr = (listN b).foldl (goStep b x) l by have := HF.out; rw [hz, listN_zero] at this; exact this);subst hz;obtain ⟨hb1, hb2, hb3, hb4, hb5⟩ := hbd;obtain ⟨hcx, hfx⟩ : wr.cell? ⟨g, (x : Int).toNat, none⟩ = some (.int .u64 (rd lr (x : Int))) ∧ wr.frozen? ⟨g, (x : Int).toNat, none⟩ = false := Kd.R_celln (enc := Value.int .u64) (h1 := fun _ => rfl) (0 : Int) HBD.out.row (x : Int) (by omega) (by omega);rw [Int.toNat_natCast] at hcx hfx
   have HB3 := Aside0.mk (show Board (wr.setCell ⟨g, x, none⟩ (.int .u64 (0 : Int))) bp w0.heap.size (.slice (some ⟨g, 0, none⟩) n c) (lr.set x (0 : Int)) (L : Int) from HBD.out.put hb4 x 0 (HBD.out.good.set x 0 (GoodW.zero _)));have HW3 := Aside0.mk (HWR.out.setCell (p := ⟨g, x, none⟩) hb1 (.int .u64 (0 : Int)));have HK3 := Aside0.mk (show ∀ i, i ≠ bp → i ≠ g → (wr.setCell ⟨g, x, none⟩ (.int .u64 (0 : Int))).heap[i]? = w.heap[i]? from fun i i1 i2 => (Below.heap_setCell wr ⟨g, x, none⟩ _ i i2).trans (HK.out i i1 i2));have HS3 := Aside0.mk (show w.heap.size ≤ (wr.setCell ⟨g, x, none⟩ (.int .u64 (0 : Int))).heap.size from Nat.le_trans HS.out ((Below.refl 0 wr).setCell (Nat.zero_le _) _).size);clear hb1 hb2 hb3 hb4 hb5;go_wp2
   obtain ⟨w4, hw4⟩ : ∃ w4, w4 = wr.setCell ⟨g, x, none⟩ (.int .u64 (0 : Int)) := ⟨_, rfl⟩;rw [← hw4] at HB3 HW3 HK3 HS3 ⊢
   clear hw4 hcb hcL hfb hcx hfx;have hcL : w4.cell? ⟨bp, 1, none⟩ = some (.int .u64 (L : Int)) := (blk_cell HB3.out.obj 1).trans rfl;have hfL := blk_frozen HB3.out.obj 1;have hxl : x < 64 := by have := HX.out; have := H64.out; omega
   have hsx : (1 * (2 : Int) ^ x) = ((2 ^ x : Nat) : Int) := by rw [Int.one_mul]; simp
   have hlx := two_lt hxl;obtain ⟨sx, hsxe⟩ : ∃ sx, sx = 2 ^ x := ⟨_, rfl⟩;rw [← hsxe] at hsx hlx
   have HSX := Aside0.mk hsxe;have hwx : IntKind.u64.wrap (sx : Int) = (sx : Int) := wrapU _ hlx;have han := anl_eq L sx HL.out hlx;clear hsxe;go_region
   go_end0
   obtain ⟨hb1, hb2, hb3, hb4, hb5⟩ := HB3.out.base_le;have HB4 := (HB3.out.left ((anl L sx : Nat) : Int)).below (below_drew (Below.refl _ _));have HW4 := below_drew (HW3.out.setCell (p := ⟨bp, 1, none⟩) HBP.out (.int .u64 ((anl L sx : Nat) : Int)));have HK4 : ∀ i, i ≠ bp → i ≠ g → (w4.setCell ⟨bp, 1, none⟩ (.int .u64 ((anl L sx : Nat) : Int))).drew.heap[i]? = w.heap[i]? := fun i i1 i2 => (Below.heap_setCell w4 ⟨bp, 1, none⟩ _ i i1).trans (HK3.out i i1 i2)
   have HS4 : w.heap.size ≤ (w4.setCell ⟨bp, 1, none⟩ (.int .u64 ((anl L sx : Nat) : Int))).drew.heap.size := Nat.le_trans HS3.out ((Below.refl 0 w4).setCell (Nat.zero_le _) _).size;rw [HE.out, ← HF2.out, ← HSX.out]
   exact ⟨rfl, HB4, HW4, HK4, HS4⟩
  ·have hs := listN_step z hz HZ.out;have hc := ctz_le z hz HZ.out;obtain ⟨t, ht⟩ : ∃ t, t = Lib.ctz 64 z := ⟨_, rfl⟩;rw [← ht] at hs hc
   have HTZ := Aside0.mk (show bits_TrailingZeros64.f (z : Int) = some (t : Int) by unfold bits_TrailingZeros64.f; rw [if_pos ⟨by omega, by have := HZ.out; omega⟩, Int.toNat_natCast, ← ht]);have hg2 := HG.out;rw [hs, List.length_cons] at hg2
   have HG2 := Aside0.mk hg2;have hIN := HIN.out;rw [hs] at hIN
   have htn : (t : Int) < (n : Int) := hIN _ List.mem_cons_self;have HIN2 := Aside0.mk (fun a ha => hIN a (List.mem_cons_of_mem _ ha) : ∀ a ∈ listN (z &&& (z - 1)), a < (n : Int));have hne : ((z : Int) != 0) = true := by simp; omega
   have hw1 : IntKind.u64.wrap ((z : Int) - 1) = ((z - 1 : Nat) : Int) := by rw [IntKind.wrap_u64]; have := HZ.out; omega
   have hw2 : bits BinOp.and IntKind.u64 (z : Int) ((z - 1 : Nat) : Int) = ((z &&& (z - 1) : Nat) : Int) := bits_and_u64_nat z (z - 1) HZ.out (by have := HZ.out; omega);have HX2 := Aside0.mk (show z &&& (z - 1) < 18446744073709551616 from Nat.lt_of_le_of_lt Nat.and_le_left HZ.out);obtain ⟨za, hza, hzw⟩ := HBD.out.good.word (rd_mem (l := lr) (i := (t : Int)) (by omega) (by omega));obtain ⟨hct, hft⟩ : wr.cell? ⟨g, (t : Int).toNat, none⟩ = some (.int .u64 (rd lr (t : Int))) ∧ wr.frozen? ⟨g, (t : Int).toNat, none⟩ = false := Kd.R_celln (enc := Value.int .u64) (h1 := fun _ => rfl) (0 : Int) HBD.out.row (t : Int) (by omega) (by omega);rw [hza] at hct
   rw [Int.toNat_natCast] at hct hft
   have hzl := hzw.1;have hbl := HBW.out.1;have hxl : x < 64 := by have := HX.out; have := H64.out; omega
   have hor := bits_or_u64_nat za b hzl hbl;have hsx : (1 * (2 : Int) ^ x) = ((2 ^ x : Nat) : Int) := by rw [Int.one_mul]; simp
   have hst : (1 * (2 : Int) ^ t) = ((2 ^ t : Nat) : Int) := by rw [Int.one_mul]; simp
   have hlx := two_lt hxl;have hlt := two_lt hc;have HNV := Aside0.mk (show goStep b x lr (t : Int) = lr.set t ((anl (za ||| b) (2 ^ t ||| 2 ^ x) : Nat) : Int) by unfold goStep; rw [hza, Int.toNat_natCast, Int.toNat_natCast]);have HGW := Aside0.mk (hbd.2.2.2.2 ▸ GoodW.less (c := 2 ^ t ||| 2 ^ x) (by rw [← hbd.2.2.2.2] at hzw; exact hzw) HBW.out : GoodW lr.length (anl (za ||| b) (2 ^ t ||| 2 ^ x)));obtain ⟨sx, hsxe⟩ : ∃ sx, sx = 2 ^ x := ⟨_, rfl⟩;obtain ⟨st, hste⟩ : ∃ st, st = 2 ^ t := ⟨_, rfl⟩;rw [← hsxe] at hsx hlx HNV HGW
   rw [← hste] at hst hlt HNV HGW
   have hwx : IntKind.u64.wrap (sx : Int) = (sx : Int) := wrapU _ hlx;have hwt : IntKind.u64.wrap (st : Int) = (st : Int) := wrapU _ hlt;have hos := bits_or_u64_nat st sx hlt hlx;have han := anl_eq (za ||| b) (st ||| sx) (or_lt64 hzl hbl) (or_lt64 hlt hlx);obtain ⟨nv, hnv⟩ : ∃ nv, nv = anl (za ||| b) (st ||| sx) := ⟨_, rfl⟩;rw [← hnv] at han HNV HGW
   have HFF := HF.out;rw [hs, List.foldl_cons, HNV.out] at HFF
   have HF2 := Aside0.mk HFF;have HBD2 := Aside0.mk hbd;clear hg2 hs hIN ht hz hza hzw hsxe hste hnv HFF hbd HNV;go_wp2_with (first | (go_at_call 58; refine (bits_TrailingZeros64.calls _ _ _ (tab_below HT.out HWR.out) HTZ.out).mono ?_; rintro e w2 ⟨rfl, ⟨q2, hq2⟩⟩; have HW2 := Aside0.mk hq2; replace hcb := (show w2.cell? ⟨bp, 0, none⟩ = some (.slice (some ⟨g, 0, none⟩) n c) by rw [hq2]; exact hcb); replace hct := (show w2.cell? ⟨g, t, none⟩ = some (.int .u64 (za : Int)) by rw [hq2]; exact hct); replace hft := (show w2.frozen? ⟨g, t, none⟩ = false by rw [hq2]; exact hft); clear hq2))
   go_region
   obtain ⟨hb1, hb2, hb3, hb4, hb5⟩ := HBD2.out;have HB2 := Aside0.mk (show Board w2 bp w0.heap.size (.slice (some ⟨g, 0, none⟩) n c) lr (L : Int) by rw [HW2.out]; exact HBD.out.below (pw_below_drewN (Below.refl _ _) q2));have HB3 := Aside0.mk ((HB2.out.put hb4 t nv (HB2.out.good.set t nv HGW.out)).below (below_drew (Below.refl _ _)));have HW3 := Aside0.mk (show Below w0.heap.size w0 (w2.setCell ⟨g, t, none⟩ (.int .u64 (nv : Int))).drew by rw [HW2.out]; exact below_drew ((pw_below_drewN HWR.out q2).setCell hb1 _));have HK3 := Aside0.mk (show ∀ i, i ≠ bp → i ≠ g → (w2.setCell ⟨g, t, none⟩ (.int .u64 (nv : Int))).drew.heap[i]? = w.heap[i]? from fun i i1 i2 => (Below.heap_setCell w2 ⟨g, t, none⟩ _ i i2).trans (by rw [HW2.out]; exact HK.out i i1 i2));have HS3 := Aside0.mk (show w.heap.size ≤ (w2.setCell ⟨g, t, none⟩ (.int .u64 (nv : Int))).drew.heap.size from Nat.le_trans HS.out (Nat.le_trans (by rw [HW2.out]; exact Nat.le_refl _) ((Below.refl 0 w2).setCell (Nat.zero_le _) _).size));clear hb1 hb2 hb3 hb4 hb5;obtain ⟨w3, hw3⟩ : ∃ w3, w3 = (w2.setCell ⟨g, t, none⟩ (.int .u64 (nv : Int))).drew := ⟨_, rfl⟩;rw [← hw3] at HB3 HW3 HK3 HS3 ⊢
   clear hw3;go_wp2
   go_roundg ((listN (z &&& (z - 1))).length)
   case measure => have := HG2.out; omega
   case rel => exact ⟨z &&& (z - 1), lr.set t (nv : Int), by go_num, HX2, ⟨Nat.le_refl _⟩, HIN2, HB3, HW3, HK3, HS3, HF2⟩
def lessW (f : Int → Int) (best v : Int) : Int := if best < 0 then v else if f v < f best then v else best
def leastF (f : Int → Int) (xs : List Int) : Int := xs.foldl (lessW f) (-1)
/-- what a worth that is a function value answers: it only draws -/
def Worth (k : Nat) (pre post : Array Value) (f : Int → Int) (xs : List Int) (w : World) : Prop :=
 ∀ W, Drawn0 w W → ∀ x ∈ xs, Calls Tryd.prog k (pre.push (.int .i64 x) ++ post) W fun e W' => e = .returned (.int .i64 (f x)) ∧ Drawn0 W W'
theorem drawn_trans {a b c : World} (h1 : Drawn0 a b) (h2 : Drawn0 b c) : Drawn0 a c := by
 obtain ⟨q, rfl⟩ := h2;exact h1.step q
theorem mem_listN_nn {x : Nat} {a : Int} (h : a ∈ listN x) : 0 ≤ a := by
 obtain ⟨i, rfl, _⟩ := mem_listN.1 h;omega
set_option maxHeartbeats 8000000 in
theorem least_walk (bp base : Nat) (v : Value) (l : List Int) (L : Nat) (w : World) (hTb : Tab64 w) (hB : Board w bp base v l (L : Int)) (hL : L < 18446744073709551616) (f : Int → Int) (kf : Nat) (pre post : Array Value)
  (eg : ∀ args w, (callFunc kf args).run Tryd.prog w = .ok (.enter kf args) w) (hp : Worth kf pre post f (listN L) w) :
  Calls Tryd.prog 46 #[.pointer (some ⟨bp, 0, none⟩), .func (.func kf) pre post] w fun e w' => e = .returned (.int .i64 (leastF f (listN L))) ∧ Drawn0 w w' := by
 have hcL : w.cell? ⟨bp, 1, none⟩ = some (.int .u64 (L : Int)) := (blk_cell hB.obj 1).trans rfl;have HP := Aside0.mk hp;have HT := Aside0.mk hTb;have HL := Aside0.mk hL;clear hB hp hTb hL;go_enter Tryd.func46, Tryd.ntmps46
 go_wp2
 go_loopg [5, 6] 64 (fun gg s5 s6 wr => ∃ (z : Nat) (best : Int), s5 = .int .i64 best ∧ s6 = .int .u64 z ∧ Aside0 (z < 18446744073709551616) ∧ Aside0 ((listN z).length ≤ gg) ∧ Aside0 (∀ a ∈ listN z, a ∈ listN L) ∧ Aside0 (best < 0 ∨ best ∈ listN L) ∧ Aside0 (Drawn0 w wr) ∧ Aside0 ((listN z).foldl (lessW f) best = leastF f (listN L)))
 case atStart => exact ⟨L, -1, rfl, rfl, HL, ⟨listN_len L⟩, ⟨fun a ha => ha⟩, ⟨.inl (by decide)⟩, ⟨Drawn0.refl _⟩, ⟨rfl⟩⟩
 case round =>
  obtain ⟨z, best, rfl, rfl, HZ, HG, HIN, HBE, HD, HF⟩ := hrel;by_cases hz : z = 0
  ·have HF2 := Aside0.mk (show best = leastF f (listN L) by have := HF.out; rw [hz, listN_zero] at this; exact this);subst hz;go_wp2
   go_ret
   exact ⟨by rw [← HF2.out]; rfl, HD.out⟩
  ·have hs := listN_step z hz HZ.out;have hc := ctz_le z hz HZ.out;obtain ⟨t, ht⟩ : ∃ t, t = Lib.ctz 64 z := ⟨_, rfl⟩;rw [← ht] at hs hc
   have HTZ := Aside0.mk (show bits_TrailingZeros64.f (z : Int) = some (t : Int) by unfold bits_TrailingZeros64.f; rw [if_pos ⟨by omega, by have := HZ.out; omega⟩, Int.toNat_natCast, ← ht]);have hg2 := HG.out;rw [hs, List.length_cons] at hg2
   have HG2 := Aside0.mk hg2;have hIN := HIN.out;rw [hs] at hIN
   have HTM := Aside0.mk (hIN _ List.mem_cons_self);have HIN2 := Aside0.mk (fun a ha => hIN a (List.mem_cons_of_mem _ ha) : ∀ a ∈ listN (z &&& (z - 1)), a ∈ listN L);have hne : ((z : Int) != 0) = true := by simp; omega
   have hw1 : IntKind.u64.wrap ((z : Int) - 1) = ((z - 1 : Nat) : Int) := by rw [IntKind.wrap_u64]; have := HZ.out; omega
   have hw2 : bits BinOp.and IntKind.u64 (z : Int) ((z - 1 : Nat) : Int) = ((z &&& (z - 1) : Nat) : Int) := bits_and_u64_nat z (z - 1) HZ.out (by have := HZ.out; omega);have HX2 := Aside0.mk (show z &&& (z - 1) < 18446744073709551616 from Nat.lt_of_le_of_lt Nat.and_le_left HZ.out);have HFF := HF.out;rw [hs, List.foldl_cons] at HFF
   have HF2 := Aside0.mk HFF;have HT2 := Aside0.mk (tab_below HT.out HD.out.below);clear hg2 hs hIN ht hz HFF hc;by_cases hb : best < 0
   ·have hnew : lessW f best (t : Int) = (t : Int) := by unfold lessW; rw [if_pos hb]
    have HF3 := Aside0.mk (by have := HF2.out; rw [hnew] at this; exact this : (listN (z &&& (z - 1))).foldl (lessW f) (t : Int) = leastF f (listN L));clear hnew;go_wp2_with (first | (go_at_call 58; refine (bits_TrailingZeros64.calls _ _ _ HT2.out HTZ.out).mono ?_; rintro e w2 ⟨rfl, hd⟩; have HD2 := Aside0.mk (drawn_trans HD.out hd); clear hd))
    go_roundg ((listN (z &&& (z - 1))).length)
    case measure => have := HG2.out; omega
    case rel => exact ⟨z &&& (z - 1), (t : Int), by go_num, by go_num, HX2, ⟨Nat.le_refl _⟩, HIN2, ⟨.inr HTM.out⟩, HD2, HF3⟩
   ·have HBM := Aside0.mk (HBE.out.resolve_left hb);have hbd : decide (best < 0) = false := by simpa using hb
    have HCT := Aside0.mk (fun W hW => HP.out W hW (t : Int) HTM.out);have HCB := Aside0.mk (fun W hW => HP.out W hW best HBM.out);obtain ⟨ft, hft⟩ : ∃ ft, ft = f (t : Int) := ⟨_, rfl⟩;obtain ⟨fb, hfb⟩ : ∃ fb, fb = f best := ⟨_, rfl⟩;by_cases hlt : ft < fb
    ·have hnew : lessW f best (t : Int) = (t : Int) := by unfold lessW; rw [if_neg hb, if_pos (by rw [← hft, ← hfb]; exact hlt)]
     have HF3 := Aside0.mk (by have := HF2.out; rw [hnew] at this; exact this : (listN (z &&& (z - 1))).foldl (lessW f) (t : Int) = leastF f (listN L));rw [← hft] at HCT
     rw [← hfb] at HCB
     clear hnew hft hfb hb;go_wp2_with (first | (go_at_call 58; refine (bits_TrailingZeros64.calls _ _ _ HT2.out HTZ.out).mono ?_; rintro e w2 ⟨rfl, hd⟩; have HD2 := Aside0.mk (drawn_trans HD.out hd); clear hd) | (go_at_fn kf; refine (HCT.out _ HD2.out).mono ?_; rintro e w3 ⟨rfl, hd⟩; have HD3 := Aside0.mk (drawn_trans HD2.out hd); clear hd) | (go_at_fn kf; refine (HCB.out _ HD3.out).mono ?_; rintro e w4 ⟨rfl, hd⟩; have HD4 := Aside0.mk (drawn_trans HD3.out hd); clear hd))
     go_roundg ((listN (z &&& (z - 1))).length)
     case measure => have := HG2.out; omega
     case rel => exact ⟨z &&& (z - 1), (t : Int), by go_num, by go_num, HX2, ⟨Nat.le_refl _⟩, HIN2, ⟨.inr HTM.out⟩, HD4, HF3⟩
    ·have hnew : lessW f best (t : Int) = best := by unfold lessW; rw [if_neg hb, if_neg (by rw [← hft, ← hfb]; exact hlt)]
     have HF3 := Aside0.mk (by have := HF2.out; rw [hnew] at this; exact this : (listN (z &&& (z - 1))).foldl (lessW f) best = leastF f (listN L));rw [← hft] at HCT
     rw [← hfb] at HCB
     have hltd : decide (ft < fb) = false := by simpa using hlt
     clear hnew hft hfb hb;go_wp2_with (first | (go_at_call 58; refine (bits_TrailingZeros64.calls _ _ _ HT2.out HTZ.out).mono ?_; rintro e w2 ⟨rfl, hd⟩; have HD2 := Aside0.mk (drawn_trans HD.out hd); clear hd) | (go_at_fn kf; refine (HCT.out _ HD2.out).mono ?_; rintro e w3 ⟨rfl, hd⟩; have HD3 := Aside0.mk (drawn_trans HD2.out hd); clear hd) | (go_at_fn kf; refine (HCB.out _ HD3.out).mono ?_; rintro e w4 ⟨rfl, hd⟩; have HD4 := Aside0.mk (drawn_trans HD3.out hd); clear hd))
     go_roundg ((listN (z &&& (z - 1))).length)
     case measure => have := HG2.out; omega
     case rel => exact ⟨z &&& (z - 1), best, by go_num, by go_num, HX2, ⟨Nat.le_refl _⟩, HIN2, ⟨.inr HBM.out⟩, HD4, HF3⟩
def cardF (l0 : List Int) (All L : Nat) (x : Int) : Int := -((popW (anl ((rd l0 x).toNat &&& All) L) : Nat) : Int)
set_option maxHeartbeats 4000000 in
theorem card_walk (gb ab pb bp : Nat) (A0 : Option Addr) (n0 c0 : Nat) (l0 : List Int) (All L : Nat) (v : Value) (w : World)
  (hG : w.heap[gb]? = some (.cells #[.slice A0 n0 c0] 29 (0, 0))) (hC : Kd.C (Kd.int .u64) w A0 n0 l0) (hA : w.heap[ab]? = some (.cells #[.int .u64 (All : Int)] 61 (0, 0))) (hP : w.heap[pb]? = some (.cells #[.pointer (some ⟨bp, 0, none⟩)] 72 (0, 0)))
  (hB : w.heap[bp]? = some (.cells #[v, .int .u64 (L : Int)] 74 (0, 0))) (hl : ∀ y ∈ l0, 0 ≤ y ∧ y < 18446744073709551616) (hAll : All < 18446744073709551616) (hL : L < 18446744073709551616) (x : Int) (h0 : 0 ≤ x) (h1 : x < n0) :
  Calls Tryd.prog 44 #[.int .i64 x, .pointer (some ⟨gb, 0, none⟩), .pointer (some ⟨ab, 0, none⟩), .pointer (some ⟨pb, 0, none⟩)] w fun e w' => e = .returned (.int .i64 (cardF l0 All L x)) ∧ Drawn0 w w' := by
 have hcg : w.cell? ⟨gb, 0, none⟩ = some (.slice A0 n0 c0) := (blk_cell hG 0).trans rfl;have hca : w.cell? ⟨ab, 0, none⟩ = some (.int .u64 (All : Int)) := (blk_cell hA 0).trans rfl;have hcp : w.cell? ⟨pb, 0, none⟩ = some (.pointer (some ⟨bp, 0, none⟩)) := (blk_cell hP 0).trans rfl;have hcb : w.cell? ⟨bp, 1, none⟩ = some (.int .u64 (L : Int)) := (blk_cell hB 1).trans rfl;have hn := hC.1;have hm0 := hl _ (rd_mem h0 (by omega : x < l0.length));obtain ⟨ad, rfl, hx⟩ := Kd.at_int hC x h0 h1;obtain ⟨y, hy⟩ : ∃ y : Nat, rd l0 x = (y : Int) := Int.eq_ofNat_of_zero_le hm0.1;rw [hy] at hx hm0
 have hyl : y < 18446744073709551616 := by omega
 have e1 := bits_and_u64_nat y All hyl hAll;have hal : y &&& All < 18446744073709551616 := Nat.lt_of_le_of_lt Nat.and_le_left hyl;have e2 := anl_eq (y &&& All) L hal hL;have HO := Aside0.mk (ones_eq (anl (y &&& All) L) (anl_lt hal));have hp64 := popW_le (anl (y &&& All) L);have HF := Aside0.mk (show cardF l0 All L x = -((popW (anl (y &&& All) L) : Nat) : Int) by unfold cardF; rw [hy, Int.toNat_natCast]);obtain ⟨u, hu⟩ : ∃ u, u = anl (y &&& All) L := ⟨_, rfl⟩;rw [← hu] at e2 HO hp64 HF
 obtain ⟨p, hp⟩ : ∃ p, p = popW u := ⟨_, rfl⟩;rw [← hp] at HO hp64 HF
 have hw : IntKind.i64.wrap (-(p : Int)) = -(p : Int) := by rw [IntKind.wrap_i64]; omega
 clear hG hC hA hP hB hl hm0 hy hu hp hn;go_enter Tryd.func44, Tryd.ntmps44
 go_wp2
 go_quiet ((go_at_call 45; exact quiet_one (bits_OnesCount64.calls _ _ _ HO.out)))
 go_wp2
 go_ret
 rw [HF.out]
 exact ⟨rfl, ⟨⟨_, rfl⟩⟩⟩
theorem worth_missing (bp base : Nat) (v : Value) (l : List Int) (L : Int) (w : World) (hTb : Tab64 w) (hB : Board w bp base v l L) (xs : List Int) (hx : ∀ x ∈ xs, 0 ≤ x ∧ x < l.length) :
  Worth 42 #[.pointer (some ⟨bp, 0, none⟩)] #[] (missF l) xs w := fun W hW x hm =>
 miss_walk bp base v l L W (tab_below hTb hW.below) (hB.below hW.below) x (hx x hm).1 (hx x hm).2
theorem worth_degree (bp base : Nat) (v : Value) (l : List Int) (L : Int) (w : World) (hB : Board w bp base v l L) (xs : List Int) (hx : ∀ x ∈ xs, 0 ≤ x ∧ x < l.length) :
  Worth 43 #[.pointer (some ⟨bp, 0, none⟩)] #[] (degreeF l) xs w := fun W hW x hm =>
 order_board_degree.walk bp base v l L W (hB.below hW.below) x (hx x hm).1 (hx x hm).2
theorem worth_card (gb ab pb bp : Nat) (A0 : Option Addr) (n0 c0 : Nat) (l0 : List Int) (All L : Nat) (v : Value) (w : World)
  (hG : w.heap[gb]? = some (.cells #[.slice A0 n0 c0] 29 (0, 0))) (hC : Kd.C (Kd.int .u64) w A0 n0 l0) (hA : w.heap[ab]? = some (.cells #[.int .u64 (All : Int)] 61 (0, 0))) (hP : w.heap[pb]? = some (.cells #[.pointer (some ⟨bp, 0, none⟩)] 72 (0, 0)))
  (hB : w.heap[bp]? = some (.cells #[v, .int .u64 (L : Int)] 74 (0, 0))) (hl : ∀ y ∈ l0, 0 ≤ y ∧ y < 18446744073709551616) (hAll : All < 18446744073709551616) (hL : L < 18446744073709551616) (xs : List Int) (hx : ∀ x ∈ xs, 0 ≤ x ∧ x < (n0 : Int)) :
  Worth 44 #[] #[.pointer (some ⟨gb, 0, none⟩), .pointer (some ⟨ab, 0, none⟩), .pointer (some ⟨pb, 0, none⟩)] (cardF l0 All L) xs w := fun W hW x hm =>
 have k : ∀ i o, w.heap[i]? = some o → W.heap[i]? = some o := fun i o h => (hW.below.block i (blk_lt h)).trans h
 card_walk gb ab pb bp A0 n0 c0 l0 All L v W (k _ _ hG) (Kd.C_below hC hW.below) (k _ _ hA) (k _ _ hP) (k _ _ hB) hl hAll hL x (hx x hm).1 (hx x hm).2
end Go.Proofs.YtopjffgmpphdbaaDoor.Pr
