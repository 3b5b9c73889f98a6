/- FillWhole: where each is beside each, bags fall from n to one; where none is beside any each bag is one point. -/
-- merge
import Derived.Laws.BitsAllLaws
import Derived.Test.YtopjffgmpphdbaaDoorPr0
import Derived.Test.YtopjffgmpphdbaaDoorPr1
import Derived.Test.YtopjffgmpphdbaaDoorPr11
import Derived.Test.YtopjffgmpphdbaaDoorPr12
import Derived.Test.YtopjffgmpphdbaaDoorPr17
import Derived.Test.YtopjffgmpphdbaaDoorPr18
import Derived.Test.YtopjffgmpphdbaaDoorPr19
import Derived.Test.YtopjffgmpphdbaaDoorPr20
import Derived.Test.YtopjffgmpphdbaaDoorPr21
import Derived.Test.YtopjffgmpphdbaaDoorPr22
import Derived.Test.YtopjffgmpphdbaaDoorPr26
import Derived.Test.YtopjffgmpphdbaaDoorPr28
import Derived.Test.YtopjffgmpphdbaaDoorPr29
import Derived.Test.YtopjffgmpphdbaaDoorPr30
import Derived.Test.YtopjffgmpphdbaaDoorPr33
import Derived.Test.YtopjffgmpphdbaaDoorPr43
import Derived.Test.YtopjffgmpphdbaaDoorPr55
namespace Go.Proofs.YtopjffgmpphdbaaDoor.Pr
open Go.RowKit Go.Proofs.YtopjffgmpphdbaaDoorW.PrintWords Go.Proofs.YtopjffgmpphdbaaDoorW.PrintLast
theorem evs0 {ρ : Type} {F : Nat → Option ρ} {r : ρ} (H : ∀ k, F (k + 1) = some r) : Ev F r := ⟨1, fun k hk => by obtain ⟨m, rfl⟩ : ∃ m, k = m + 1 := ⟨k - 1, by omega⟩; exact H m⟩
theorem evu0 {ρ : Type} {F : Nat → Option ρ} {r : ρ} (H : ∀ k, F k = some r) : Ev F r := ⟨0, fun k _ => H k⟩
theorem evu1 {ρ : Type} {F : Nat → Option ρ} {r : ρ} {α1 : Type} {g1 : Nat → Option α1} {a1 : α1} (h1 : Ev g1 a1) (H : ∀ k, g1 k = some a1 → F k = some r) : Ev F r := by
  obtain ⟨K1, e1⟩ := h1
  exact ⟨K1, fun k hk => H k (e1 _ (by omega))⟩
theorem evs1 {ρ : Type} {F : Nat → Option ρ} {r : ρ} {α1 : Type} {g1 : Nat → Option α1} {a1 : α1} (h1 : Ev g1 a1) (H : ∀ k, g1 k = some a1 → F (k + 1) = some r) : Ev F r := by
  obtain ⟨K1, e1⟩ := h1
  refine ⟨K1 + 1, fun k hk => ?_⟩
  obtain ⟨m, rfl⟩ : ∃ m, k = m + 1 := ⟨k - 1, by omega⟩
  exact H m (e1 _ (by omega))
theorem evu2 {ρ : Type} {F : Nat → Option ρ} {r : ρ} {α1 : Type} {g1 : Nat → Option α1} {a1 : α1} {α2 : Type} {g2 : Nat → Option α2} {a2 : α2} (h1 : Ev g1 a1) (h2 : Ev g2 a2) (H : ∀ k, g1 k = some a1 → g2 k = some a2 → F k = some r) : Ev F r := by
  obtain ⟨K1, e1⟩ := h1; obtain ⟨K2, e2⟩ := h2
  exact ⟨K1 + K2, fun k hk => H k (e1 _ (by omega)) (e2 _ (by omega))⟩
theorem evs2 {ρ : Type} {F : Nat → Option ρ} {r : ρ} {α1 : Type} {g1 : Nat → Option α1} {a1 : α1} {α2 : Type} {g2 : Nat → Option α2} {a2 : α2} (h1 : Ev g1 a1) (h2 : Ev g2 a2) (H : ∀ k, g1 k = some a1 → g2 k = some a2 → F (k + 1) = some r) : Ev F r := by
  obtain ⟨K1, e1⟩ := h1; obtain ⟨K2, e2⟩ := h2
  refine ⟨K1 + K2 + 1, fun k hk => ?_⟩
  obtain ⟨m, rfl⟩ : ∃ m, k = m + 1 := ⟨k - 1, by omega⟩
  exact H m (e1 _ (by omega)) (e2 _ (by omega))
theorem evu5 {ρ : Type} {F : Nat → Option ρ} {r : ρ} {α1 : Type} {g1 : Nat → Option α1} {a1 : α1} {α2 : Type} {g2 : Nat → Option α2} {a2 : α2} {α3 : Type} {g3 : Nat → Option α3} {a3 : α3} {α4 : Type} {g4 : Nat → Option α4} {a4 : α4} {α5 : Type} {g5 : Nat → Option α5} {a5 : α5} (h1 : Ev g1 a1) (h2 : Ev g2 a2) (h3 : Ev g3 a3) (h4 : Ev g4 a4) (h5 : Ev g5 a5) (H : ∀ k, g1 k = some a1 → g2 k = some a2 → g3 k = some a3 → g4 k = some a4 → g5 k = some a5 → F k = some r) : Ev F r := by
  obtain ⟨K1, e1⟩ := h1; obtain ⟨K2, e2⟩ := h2; obtain ⟨K3, e3⟩ := h3; obtain ⟨K4, e4⟩ := h4; obtain ⟨K5, e5⟩ := h5
  exact ⟨K1 + K2 + K3 + K4 + K5, fun k hk => H k (e1 _ (by omega)) (e2 _ (by omega)) (e3 _ (by omega)) (e4 _ (by omega)) (e5 _ (by omega))⟩
theorem evs5 {ρ : Type} {F : Nat → Option ρ} {r : ρ} {α1 : Type} {g1 : Nat → Option α1} {a1 : α1} {α2 : Type} {g2 : Nat → Option α2} {a2 : α2} {α3 : Type} {g3 : Nat → Option α3} {a3 : α3} {α4 : Type} {g4 : Nat → Option α4} {a4 : α4} {α5 : Type} {g5 : Nat → Option α5} {a5 : α5} (h1 : Ev g1 a1) (h2 : Ev g2 a2) (h3 : Ev g3 a3) (h4 : Ev g4 a4) (h5 : Ev g5 a5) (H : ∀ k, g1 k = some a1 → g2 k = some a2 → g3 k = some a3 → g4 k = some a4 → g5 k = some a5 → F (k + 1) = some r) : Ev F r := by
  obtain ⟨K1, e1⟩ := h1; obtain ⟨K2, e2⟩ := h2; obtain ⟨K3, e3⟩ := h3; obtain ⟨K4, e4⟩ := h4; obtain ⟨K5, e5⟩ := h5
  refine ⟨K1 + K2 + K3 + K4 + K5 + 1, fun k hk => ?_⟩
  obtain ⟨m, rfl⟩ : ∃ m, k = m + 1 := ⟨k - 1, by omega⟩
  exact H m (e1 _ (by omega)) (e2 _ (by omega)) (e3 _ (by omega)) (e4 _ (by omega)) (e5 _ (by omega))
end Go.Proofs.YtopjffgmpphdbaaDoor.Pr

set_option linter.unusedVariables false
namespace Go.Proofs.YtopjffgmpphdbaaDoor.Pr
open Go.RowKit Go.Proofs.YtopjffgmpphdbaaDoorW.PrintWords Go.Proofs.YtopjffgmpphdbaaDoorW.PrintLast

theorem wrap_nat (i : Nat) (h : i < 9223372036854775807) : wrap64 ((i : Int) + 1) = ((i + 1 : Nat) : Int) := by rw [wrap_succ (by omega) (by omega)]; rfl
def inB (l : List Int) (v : Int) : Bool := l.any (fun x => x == v)
def cmpL : List Int → List Int → Int
  | [], [] => 0
  | [], _ :: _ => -1
  | _ :: _, [] => 1
  | a :: l, b :: m => if a < b then -1 else if b < a then 1 else cmpL l m
end Go.Proofs.YtopjffgmpphdbaaDoor.Pr

set_option linter.unusedVariables false
set_option linter.unusedSimpArgs false
namespace Go.Proofs.YtopjffgmpphdbaaDoor.Pr
open Go.RowKit Go.Proofs.YtopjffgmpphdbaaDoorW.PrintWords Go.Proofs.YtopjffgmpphdbaaDoorW.PrintLast Go.Proofs.YtopjffgmpphdbaaDoorW.PrintMore

/-- The word of the truths of f below n. -/
def wd : Nat → (Nat → Bool) → Nat
  | 0, _ => 0
  | n + 1, f => 2 ^ n * (if f n = true then 1 else 0) + wd n f
theorem wd_lt : ∀ (n : Nat) (f : Nat → Bool), wd n f < 2 ^ n
  | 0, _ => by simp [wd]
  | n + 1, f => by
    have := wd_lt n f
    rw [wd, Nat.pow_succ]
    split <;> omega
theorem one_bit (j : Nat) : (1 : Nat).testBit (j + 1) = false := by rw [Nat.testBit_succ]; simp
theorem wd_bit : ∀ (n : Nat) (f : Nat → Bool) (i : Nat), (wd n f).testBit i = (decide (i < n) && f i)
  | 0, f, i => by simp [wd]
  | n + 1, f, i => by
    rw [wd, Nat.testBit_two_pow_mul_add _ (wd_lt n f), wd_bit n f i]
    by_cases h : i < n
    · rw [if_pos h, decide_eq_true h, decide_eq_true (show i < n + 1 by omega)]
    · rw [if_neg h]
      by_cases e : i = n
      · subst e
        rw [Nat.sub_self, decide_eq_true (show i < i + 1 by omega), Bool.true_and]
        by_cases hf : f i = true
        · rw [if_pos hf, hf]; decide
        · rw [if_neg hf, Bool.not_eq_true _ |>.mp hf]; decide
      · obtain ⟨j, rfl⟩ : ∃ j, i = n + (j + 1) := ⟨i - n - 1, by omega⟩
        rw [decide_eq_false (show ¬ n + (j + 1) < n + 1 by omega), Bool.false_and, show n + (j + 1) - n = j + 1 by omega]
        split
        · exact one_bit j
        · simp
theorem bits_ge {x n : Nat} (h : x < 2 ^ n) {i : Nat} (hi : n ≤ i) : x.testBit i = false := Nat.testBit_lt_two_pow (Nat.lt_of_lt_of_le h (Nat.pow_le_pow_right (by omega) hi))
theorem pow_64 : (2 : Nat) ^ 64 = 18446744073709551616 := by decide
theorem wd_64 {n : Nat} (h : n ≤ 64) (f : Nat → Bool) : wd n f < 18446744073709551616 := by
  rw [← pow_64]
  exact Nat.lt_of_lt_of_le (wd_lt n f) (Nat.pow_le_pow_right (by omega) h)
theorem shr_nat (x y : Nat) (hx : x < 18446744073709551616) : shr .u64 (x : Int) (y : Int) = ((x / 2 ^ y : Nat) : Int) := by
  unfold shr
  have hb : IntKind.bits .u64 = 64 := rfl
  rw [Int.toNat_natCast, hb]
  by_cases h : y ≤ 64
  · rw [Nat.min_eq_left h]
    push_cast
    rfl
  · rw [Nat.min_eq_right (by omega)]
    have e : x / 2 ^ y = 0 := Nat.div_eq_of_lt (Nat.lt_of_lt_of_le hx (by rw [← pow_64]; exact Nat.pow_le_pow_right (by omega) (by omega)))
    rw [e]
    omega
theorem shr_zero (x n : Nat) (hx : x < 18446744073709551616) : (shr .u64 (x : Int) (n : Int) = 0) ↔ x < 2 ^ n := by
  rw [shr_nat x n hx]
  have hp : 0 < 2 ^ n := Nat.two_pow_pos n
  constructor
  · intro h
    have h0 : x / 2 ^ n = 0 := by omega
    exact (Nat.div_eq_zero_iff_lt hp).1 h0
  · intro h
    rw [Nat.div_eq_of_lt h]; rfl
theorem and_one (x y : Nat) (hx : x < 18446744073709551616) : Go.bits .and .u64 (shr .u64 (x : Int) (y : Int)) 1 = if x.testBit y = true then 1 else 0 := by
  have h1 : x / 2 ^ y < 18446744073709551616 := Nat.lt_of_le_of_lt (Nat.div_le_self _ _) hx
  rw [shr_nat x y hx, show (1 : Int) = ((1 : Nat) : Int) from rfl, u64_and_nat _ _ h1 (by decide), Nat.and_one_is_mod, Nat.testBit_eq_decide_div_mod_eq]
  by_cases c : x / 2 ^ y % 2 = 1
  · rw [c]; simp
  · rw [show x / 2 ^ y % 2 = 0 by omega]; simp
theorem shl_one (b : Nat) (h : b < 64) : shl .u64 1 (b : Int) = ((2 ^ b : Nat) : Int) := by
  unfold shl
  have hb : IntKind.bits .u64 = 64 := rfl
  have hp : 2 ^ b < 18446744073709551616 := by rw [← pow_64]; exact Nat.pow_lt_pow_right (by omega) h
  rw [Int.toNat_natCast, hb, Nat.min_eq_left (by omega), IntKind.wrap_u64, Int.one_mul]
  have e : ((2 : Int) ^ b) = ((2 ^ b : Nat) : Int) := by push_cast; rfl
  rw [e]
  obtain ⟨p, hp1⟩ : ∃ p : Nat, p = 2 ^ b := ⟨_, rfl⟩
  rw [← hp1] at hp ⊢
  omega
theorem pow_bit (b i : Nat) : (2 ^ b).testBit i = decide (b = i) := Nat.testBit_two_pow
theorem or_u64 (a b : Nat) (ha : a < 18446744073709551616) (hb : b < 18446744073709551616) : a ||| b < 18446744073709551616 ∧ Go.bits .or .u64 (a : Int) (b : Int) = ((a ||| b : Nat) : Int) := by
  refine ⟨?_, u64_or_nat a b ha hb⟩
  rw [← pow_64] at ha hb ⊢
  exact Nat.or_lt_two_pow ha hb
theorem pow_lt_64 (b : Nat) (h : b < 64) : 2 ^ b < 18446744073709551616 := by rw [← pow_64]; exact Nat.pow_lt_pow_right (by omega) h
/-! ### the places of a word's bits -/
theorem mem_listW (x : Nat) (v : Int) : v ∈ listN x ↔ ∃ i : Nat, i < 64 ∧ x.testBit i = true ∧ v = (i : Int) := by
  unfold listN
  simp only [List.mem_map, List.mem_filter, List.mem_range]
  constructor
  · rintro ⟨i, ⟨h1, h2⟩, rfl⟩
    exact ⟨i, h1, h2, rfl⟩
  · rintro ⟨i, h1, h2, rfl⟩
    exact ⟨i, ⟨h1, h2⟩, rfl⟩
/-- the numbers below n of which f is true -/
def ofT (n : Nat) (f : Nat → Bool) : List Int := ((List.range n).filter f).map fun (i : Nat) => (i : Int)
theorem filter_range (f : Nat → Bool) (n : Nat) : ∀ d, (List.range (n + d)).filter (fun i => decide (i < n) && f i) = (List.range n).filter f
  | 0 => List.filter_congr (fun i hi => by rw [decide_eq_true (show i < n by have := List.mem_range.1 hi; omega), Bool.true_and])
  | d + 1 => by
    rw [show n + (d + 1) = (n + d) + 1 by omega, List.range_succ, List.filter_append, filter_range f n d, List.filter_cons_of_neg (by rw [decide_eq_false (by omega)]; simp), List.filter_nil, List.append_nil]
theorem listN_wd {n : Nat} (h : n ≤ 64) (f : Nat → Bool) : listN (wd n f) = ofT n f := by
  unfold listN ofT
  congr 1
  obtain ⟨d, hd⟩ : ∃ d, 64 = n + d := ⟨64 - n, by omega⟩
  rw [hd, ← filter_range f n d]
  exact List.filter_congr (fun i _ => wd_bit n f i)
theorem list_f (x : Nat) (h : x < 18446744073709551616) : graph_list.f (x : Int) = some (listN x) := by
  unfold graph_list.f
  rw [if_pos ⟨by omega, by omega⟩, Int.toNat_natCast]
end Go.Proofs.YtopjffgmpphdbaaDoor.Pr

set_option linter.unusedVariables false
set_option linter.unusedSimpArgs false
namespace Go.Proofs.YtopjffgmpphdbaaDoor.Pr
open Go.RowKit Go.Proofs.YtopjffgmpphdbaaDoorW.PrintWords Go.Proofs.YtopjffgmpphdbaaDoorW.PrintLast Go.Proofs.YtopjffgmpphdbaaDoorW.PrintMore

def gI (ws : List Nat) : List Int := ws.map fun (x : Nat) => (x : Int)
def wAt (ws : List Nat) (i : Nat) : Nat := ws.getD i 0
def Wok (ws : List Nat) : Prop := ∀ x ∈ ws, x < 18446744073709551616
theorem gI_len (ws : List Nat) : (gI ws).length = ws.length := by simp [gI]
theorem gI_rd (ws : List Nat) (i : Nat) : rd (gI ws) (i : Int) = ((wAt ws i : Nat) : Int) := by
  unfold rd gI wAt
  rw [Int.toNat_natCast, List.getD_eq_getElem?_getD, List.getD_eq_getElem?_getD, List.getElem?_map]
  cases ws[i]? <;> rfl
theorem wAt_get (ws : List Nat) (i : Nat) (h : i < ws.length) : wAt ws i = ws[i] := by
  unfold wAt
  rw [List.getD_eq_getElem?_getD, List.getElem?_eq_getElem h]
  rfl
theorem wAt_lt {ws : List Nat} (h : Wok ws) (i : Nat) : wAt ws i < 18446744073709551616 := by
  by_cases c : i < ws.length
  · rw [wAt_get ws i c]; exact h _ (List.getElem_mem c)
  · unfold wAt
    rw [List.getD_eq_getElem?_getD, List.getElem?_eq_none (by omega)]
    decide
theorem gI_ext {a b : List Nat} (hl : a.length = b.length) (h : ∀ i, i < a.length → wAt a i = wAt b i) : a = b := List.ext_getElem hl (fun i h1 h2 => by
  have := h i h1
  rwa [wAt_get a i h1, wAt_get b i h2] at this)
/-- a number is a point of n -/
def isP (n : Nat) (a : Int) : Bool := decide (0 ≤ a ∧ a < (n : Int))
theorem is_f (ws : List Nat) (a : Int) : graph_is.f (gI ws) a = some (isP ws.length a) := by
  unfold graph_is.f isP
  rw [gI_len]
  by_cases h : a ≥ 0
  · rw [if_pos h]
    congr 1
    simp [h]
  · rw [if_neg h, decide_eq_false (by omega)]
def besB (ws : List Nat) (a b : Int) : Bool := isP ws.length a && isP ws.length b && (wAt ws a.toNat).testBit b.toNat
def nbL (ws : List Nat) (a : Int) : List Int := if isP ws.length a = true then listN (wAt ws a.toNat) else []
theorem neighbors_f (ws : List Nat) (hw : Wok ws) (a : Int) : graph_Neighbors.f (gI ws) a = some (nbL ws a) := by
  unfold graph_Neighbors.f nbL
  rw [is_f, Option.bind_some]
  by_cases ha : isP ws.length a = true
  · have h1 := of_decide_eq_true ha
    obtain ⟨i, rfl⟩ := Int.eq_ofNat_of_zero_le h1.1
    rw [if_pos ha, if_pos (by omega), if_pos (by rw [gI_len]; omega), gI_rd, list_f _ (wAt_lt hw i), Option.bind_some, if_pos ha, Int.toNat_natCast]
  · rw [if_neg ha, if_neg ha]
def joinW (ws : List Nat) (a b : Int) : List Nat := if isP ws.length a = true ∧ isP ws.length b = true ∧ a ≠ b then
  (ws.set a.toNat (wAt ws a.toNat ||| 2 ^ b.toNat)).set b.toNat (wAt (ws.set a.toNat (wAt ws a.toNat ||| 2 ^ b.toNat)) b.toNat ||| 2 ^ a.toNat) else ws
theorem wok_set {ws : List Nat} (hw : Wok ws) (i v : Nat) (hv : v < 18446744073709551616) : Wok (ws.set i v) := fun x hx => by
  rcases List.mem_or_eq_of_mem_set hx with h | h
  · exact hw x h
  · rw [h]; exact hv
theorem gI_set (ws : List Nat) (i v : Nat) : (gI ws).set i (v : Int) = gI (ws.set i v) := by unfold gI; rw [List.map_set]
theorem or_pow {x b : Nat} (hx : x < 18446744073709551616) (hb : b < 64) : x ||| 2 ^ b < 18446744073709551616 ∧ Go.bits .or .u64 (x : Int) (shl .u64 1 (b : Int)) = ((x ||| 2 ^ b : Nat) : Int) := by
  rw [shl_one b hb]
  exact or_u64 x (2 ^ b) hx (pow_lt_64 b hb)
theorem join_f (ws : List Nat) (hw : Wok ws) (hn : ws.length ≤ 64) (a b : Int) : graph_Join.f (gI ws) a b = some (gI (joinW ws a b)) ∧ Wok (joinW ws a b) := by
  unfold graph_Join.f joinW
  have hc : slices_Clone_uint64_uint64.f (gI ws) = some (gI ws) := by unfold slices_Clone_uint64_uint64.f; rw [if_pos (by rw [gI_len]; omega)]
  rw [hc, Option.bind_some, is_f, Option.bind_some, is_f]
  by_cases ha : isP ws.length a = true
  · by_cases hb : isP ws.length b = true
    · by_cases e : a = b
      · rw [if_pos ha, Option.bind_some, if_pos hb, if_pos e, if_neg (by simp [e])]
        exact ⟨rfl, hw⟩
      · have h1 := of_decide_eq_true ha
        have h2 := of_decide_eq_true hb
        obtain ⟨i, rfl⟩ := Int.eq_ofNat_of_zero_le h1.1
        obtain ⟨k, rfl⟩ := Int.eq_ofNat_of_zero_le h2.1
        obtain ⟨o1, o2⟩ := or_pow (wAt_lt hw i) (show k < 64 by omega)
        have hw2 := wok_set hw i _ o1
        obtain ⟨o3, o4⟩ := or_pow (wAt_lt hw2 k) (show i < 64 by omega)
        rw [if_pos ha, Option.bind_some, if_pos hb, if_neg e, if_pos (by omega), if_pos (by rw [gI_len]; omega), if_pos (by omega), if_pos ⟨ha, hb, e⟩]
        simp only [Option.bind_some, Int.toNat_natCast]
        rw [if_pos (by rw [gI_len]; omega), gI_rd, o2, gI_set, gI_rd, o4, gI_set]
        exact ⟨rfl, wok_set hw2 k _ o3⟩
    · rw [if_pos ha, Option.bind_some, if_neg hb, if_neg (by simp [hb])]
      exact ⟨rfl, hw⟩
  · rw [if_neg ha, if_neg (by simp [ha])]
    exact ⟨rfl, hw⟩
theorem joinW_len (ws : List Nat) (a b : Int) : (joinW ws a b).length = ws.length := by
  unfold joinW
  split <;> simp
theorem wAt_set (ws : List Nat) (i v k : Nat) (h : i < ws.length) : wAt (ws.set i v) k = if k = i then v else wAt ws k := by
  unfold wAt
  rw [List.getD_eq_getElem?_getD, List.getD_eq_getElem?_getD, List.getElem?_set]
  by_cases e : i = k
  · rw [if_pos e, if_pos h, if_pos e.symm]; rfl
  · rw [if_neg e, if_neg (fun h => e h.symm)]
/-- what is beside what, joined -/
theorem join_bit (ws : List Nat) (a b : Int) (i k : Nat) : (wAt (joinW ws a b) i).testBit k = ((wAt ws i).testBit k || (isP ws.length a && isP ws.length b && decide (a ≠ b) && (decide ((i : Int) = a ∧ (k : Int) = b) || decide ((i : Int) = b ∧ (k : Int) = a)))) := by
  unfold joinW
  by_cases c : isP ws.length a = true ∧ isP ws.length b = true ∧ a ≠ b
  · rw [if_pos c]
    obtain ⟨ha, hb, e⟩ := c
    have h1 := of_decide_eq_true ha
    have h2 := of_decide_eq_true hb
    obtain ⟨p, rfl⟩ := Int.eq_ofNat_of_zero_le h1.1
    obtain ⟨q, rfl⟩ := Int.eq_ofNat_of_zero_le h2.1
    have e2 : p ≠ q := fun h => e (by rw [h])
    rw [ha, hb, Bool.and_self, Bool.true_and, decide_eq_true e, Bool.true_and]
    simp only [Int.toNat_natCast]
    rw [wAt_set _ q _ i (by rw [List.length_set]; omega), wAt_set ws p _ q (by omega), wAt_set ws p _ i (by omega), if_neg (show ¬ q = p from fun h => e2 h.symm)]
    by_cases c1 : i = q
    · subst c1
      rw [if_pos rfl, Nat.testBit_or, pow_bit]
      have : ¬ i = p := fun h => e2 h.symm
      congr 1
      rw [Bool.eq_iff_iff, Bool.or_eq_true, decide_eq_true_iff, decide_eq_true_iff, decide_eq_true_iff]
      exact ⟨fun h => .inr ⟨rfl, by omega⟩, fun h => by rcases h with ⟨h1, h2⟩ | ⟨h1, h2⟩ <;> omega⟩
    · rw [if_neg c1]
      by_cases c2 : i = p
      · subst c2
        rw [if_pos rfl, Nat.testBit_or, pow_bit]
        congr 1
        rw [Bool.eq_iff_iff, Bool.or_eq_true, decide_eq_true_iff, decide_eq_true_iff, decide_eq_true_iff]
        exact ⟨fun h => .inl ⟨rfl, by omega⟩, fun h => by rcases h with ⟨h1, h2⟩ | ⟨h1, h2⟩ <;> omega⟩
      · rw [if_neg c2]
        have : (decide ((i : Int) = (p : Int) ∧ (k : Int) = (q : Int)) || decide ((i : Int) = (q : Int) ∧ (k : Int) = (p : Int))) = false := by
          rw [decide_eq_false (by omega), decide_eq_false (by omega)]; rfl
        rw [this, Bool.or_false]
  · rw [if_neg c]
    have : (isP ws.length a && isP ws.length b && decide (a ≠ b) && (decide ((i : Int) = a ∧ (k : Int) = b) || decide ((i : Int) = b ∧ (k : Int) = a))) = false := by
      rw [Bool.eq_false_iff]
      intro h
      simp only [Bool.and_eq_true, decide_eq_true_eq] at h
      exact c ⟨h.1.1.1, h.1.1.2, h.1.2⟩
    rw [this, Bool.or_false]
/-! ### Right -/
def rowR (ws : List Nat) (i : Nat) : Bool := decide (wAt ws i < 2 ^ ws.length) && (listN (wAt ws i)).all fun k => !(k == (i : Int)) && (wAt ws k.toNat).testBit i
def rightB (ws : List Nat) : Bool := decide (ws.length ≤ 40) && (List.range ws.length).all (rowR ws)
theorem rdn (l : List Int) (j : Nat) (h : j < l.length) : rd l (j : Int) = l[j] := rd_nat l j _ (List.getElem?_eq_getElem h)
theorem right_l1 (ws : List Nat) (hw : Wok ws) (hn : ws.length ≤ 40) (i : Nat) (hi : i < ws.length) (l : List Int) (hl : ∀ x ∈ l, 0 ≤ x ∧ x < (ws.length : Int)) (hll : l.length ≤ 64) (R : Bool)
    (H : Ev (fun k => graph_Right.l0 k (gI ws) (ws.length : Int) ((i + 1 : Nat) : Int) (gI ws)) R) : ∀ (d j : Nat), j + d = l.length →
    Ev (fun k => graph_Right.l1 k (i : Int) (gI ws) (ws.length : Int) (i : Int) l (l.length : Int) (j : Int) (gI ws)) (((l.drop j).all fun k => !(k == (i : Int)) && (wAt ws k.toNat).testBit i) && R)
  | 0, j, h => by
    rw [List.drop_eq_nil_of_le (by omega), List.all_nil, Bool.true_and]
    refine evs1 H (fun k e => ?_)
    rw [graph_Right.l1, if_neg (by omega), wrap_nat i (by omega)]
    exact e
  | d + 1, j, h => by
    have hj : j < l.length := by omega
    rw [List.drop_eq_getElem_cons hj, List.all_cons]
    obtain ⟨b1, b2⟩ := hl _ (List.getElem_mem hj)
    obtain ⟨x, hx⟩ : ∃ x, x = l[j] := ⟨_, rfl⟩
    rw [← hx] at b1 b2 ⊢
    have hr : rd l (j : Int) = x := by rw [hx]; exact rdn l j hj
    obtain ⟨m, rfl⟩ := Int.eq_ofNat_of_zero_le b1
    by_cases c : (m : Int) = (i : Int)
    · rw [show ((m : Int) == (i : Int)) = true by simpa using c]
      refine evs0 (fun k => ?_)
      rw [graph_Right.l1, if_pos (by omega), if_pos (by omega), if_pos (by omega), hr, if_pos c]
      simp
    · rw [show ((m : Int) == (i : Int)) = false from beq_false_of_ne c, Bool.not_false, Bool.true_and, Int.toNat_natCast]
      by_cases c2 : (wAt ws m).testBit i = true
      · rw [c2, Bool.true_and]
        refine evs1 (right_l1 ws hw hn i hi l hl hll R H d (j + 1) (by omega)) (fun k e => ?_)
        rw [graph_Right.l1, if_pos (by omega), if_pos (by omega), if_pos (by omega), hr, if_neg c, if_pos (by omega), if_pos (by rw [gI_len]; omega), if_pos (by omega), gI_rd, and_one _ _ (wAt_lt hw m), if_pos c2, if_neg (by decide), wrap_nat j (by omega)]
        exact e
      · rw [Bool.not_eq_true _ |>.mp c2, Bool.false_and, Bool.false_and]
        refine evs0 (fun k => ?_)
        rw [graph_Right.l1, if_pos (by omega), if_pos (by omega), if_pos (by omega), hr, if_neg c, if_pos (by omega), if_pos (by rw [gI_len]; omega), if_pos (by omega), gI_rd, and_one _ _ (wAt_lt hw m), if_neg c2, if_pos rfl]
theorem listN_in {x n : Nat} (h : x < 2 ^ n) (v : Int) (hv : v ∈ listN x) : 0 ≤ v ∧ v < (n : Int) := by
  obtain ⟨i, h1, h2, rfl⟩ := (mem_listW x v).1 hv
  refine ⟨by omega, ?_⟩
  by_cases c : i < n
  · omega
  · rw [bits_ge h (by omega)] at h2
    cases h2
theorem right_l0 (ws : List Nat) (hw : Wok ws) (hn : ws.length ≤ 40) : ∀ (d i : Nat), i + d = ws.length →
    Ev (fun k => graph_Right.l0 k (gI ws) (ws.length : Int) (i : Int) (gI ws)) ((List.range' i d).all (rowR ws))
  | 0, i, h => by
    refine evs0 (fun k => ?_)
    rw [graph_Right.l0, if_neg (by omega)]
    rfl
  | d + 1, i, h => by
    rw [List.range'_succ, List.all_cons]
    have hx := wAt_lt hw i
    by_cases c : wAt ws i < 2 ^ ws.length
    · have hr := right_l0 ws hw hn d (i + 1) (by omega)
      have h1 := right_l1 ws hw hn i (by omega) (listN (wAt ws i)) (listN_in c) (listN_len _) _ hr (listN (wAt ws i)).length 0 (by omega)
      rw [List.drop_zero] at h1
      refine evs1 h1 (fun k e => ?_)
      rw [graph_Right.l0, if_pos (by omega), if_pos (by omega), if_pos (by rw [gI_len]; omega), gI_rd, gI_len, if_pos ((shr_zero _ _ hx).2 c), list_f _ hx, Option.bind_some]
      unfold rowR
      rw [decide_eq_true c, Bool.true_and]
      exact e
    · refine evs0 (fun k => ?_)
      rw [graph_Right.l0, if_pos (by omega), if_pos (by omega), if_pos (by rw [gI_len]; omega), gI_rd, gI_len, if_neg (fun h => c ((shr_zero _ _ hx).1 h))]
      unfold rowR
      rw [decide_eq_false c, Bool.false_and, Bool.false_and]
theorem right_ev (ws : List Nat) (hw : Wok ws) : Ev (fun k => graph_Right.f k (gI ws)) (rightB ws) := by
  unfold rightB
  by_cases c : ws.length ≤ 40
  · rw [decide_eq_true c, Bool.true_and, List.range_eq_range']
    refine evu1 (right_l0 ws hw c ws.length 0 (by omega)) (fun k e => ?_)
    rw [graph_Right.f, gI_len, if_neg (by omega)]
    exact e
  · rw [decide_eq_false c, Bool.false_and]
    exact evu0 (fun k => by rw [graph_Right.f, gI_len, if_pos (by omega)])
/-- Right, by points -/
theorem rightB_iff (ws : List Nat) : rightB ws = true ↔ ws.length ≤ 40 ∧ ∀ i, i < ws.length → wAt ws i < 2 ^ ws.length ∧ ∀ k, k < ws.length → (wAt ws i).testBit k = true → k ≠ i ∧ (wAt ws k).testBit i = true := by
  unfold rightB rowR
  simp only [Bool.and_eq_true, decide_eq_true_eq, List.all_eq_true, List.mem_range]
  constructor
  · rintro ⟨h1, h2⟩
    refine ⟨h1, fun i hi => ⟨(h2 i hi).1, fun k hk hb => ?_⟩⟩
    have := (h2 i hi).2 (k : Int) ((mem_listW _ _).2 ⟨k, by omega, hb, rfl⟩)
    simp only [Bool.not_eq_true', beq_eq_false_iff_ne, Int.toNat_natCast] at this
    exact ⟨fun e => this.1 (by rw [e]), this.2⟩
  · rintro ⟨h1, h2⟩
    refine ⟨h1, fun i hi => ⟨(h2 i hi).1, fun v hv => ?_⟩⟩
    obtain ⟨k, k1, k2, rfl⟩ := (mem_listW _ _).1 hv
    have hk := listN_in (h2 i hi).1 _ hv
    obtain ⟨g1, g2⟩ := (h2 i hi).2 k (by omega) k2
    simp only [Bool.not_eq_true', beq_eq_false_iff_ne, Int.toNat_natCast]
    exact ⟨fun e => g1 (by omega), g2⟩
end Go.Proofs.YtopjffgmpphdbaaDoor.Pr

set_option linter.unusedVariables false
set_option linter.unusedSimpArgs false
namespace Go.Proofs.YtopjffgmpphdbaaDoor.Pr
open Go.RowKit Go.Proofs.YtopjffgmpphdbaaDoorW.PrintWords Go.Proofs.YtopjffgmpphdbaaDoorW.PrintLast Go.Proofs.YtopjffgmpphdbaaDoorW.PrintMore

def rowT (n : Nat) (f : Nat → Bool) : List Bool := (List.range n).map f
def mat (n : Nat) (f : Nat → Nat → Bool) : List (List Bool) := (List.range n).map fun i => rowT n (f i)
theorem rowT_len (n : Nat) (f : Nat → Bool) : (rowT n f).length = n := by simp [rowT]
theorem mat_len (n : Nat) (f : Nat → Nat → Bool) : (mat n f).length = n := by simp [mat]
theorem rowT_rd (n : Nat) (f : Nat → Bool) (k : Nat) (h : k < n) : rdOf false (rowT n f) (k : Int) = f k := by
  unfold rdOf rowT
  rw [Int.toNat_natCast, List.getD_eq_getElem?_getD, List.getElem?_map, List.getElem?_range h]
  rfl
theorem mat_rd (n : Nat) (f : Nat → Nat → Bool) (i : Nat) (h : i < n) : rd_L7 (mat n f) (i : Int) = rowT n (f i) := by
  unfold rd_L7 mat
  rw [Int.toNat_natCast, List.getD_eq_getElem?_getD, List.getElem?_map, List.getElem?_range h]
  rfl
theorem rowT_set (n : Nat) (f : Nat → Bool) (k : Nat) (b : Bool) : (rowT n f).set k b = rowT n fun j => if j = k then b else f j := by
  unfold rowT
  apply List.ext_getElem
  · simp
  · intro j h1 h2
    rw [List.getElem_set]
    simp only [List.getElem_map, List.getElem_range]
    by_cases e : k = j
    · rw [if_pos e, if_pos e.symm]
    · rw [if_neg e, if_neg (fun h => e h.symm)]
theorem mat_set (n : Nat) (f : Nat → Nat → Bool) (i : Nat) (g : Nat → Bool) : (mat n f).set i (rowT n g) = mat n fun j => if j = i then g else f j := by
  unfold mat
  apply List.ext_getElem
  · simp
  · intro j h1 h2
    rw [List.getElem_set]
    simp only [List.getElem_map, List.getElem_range]
    by_cases e : i = j
    · rw [if_pos e, if_pos e.symm]
    · rw [if_neg e, if_neg (fun h => e h.symm)]
theorem rowT_congr {n : Nat} {f g : Nat → Bool} (h : ∀ k, k < n → f k = g k) : rowT n f = rowT n g := List.map_congr_left (fun k hk => h k (List.mem_range.1 hk))
theorem mat_congr {n : Nat} {f g : Nat → Nat → Bool} (h : ∀ i k, i < n → k < n → f i k = g i k) : mat n f = mat n g := List.map_congr_left (fun i hi => rowT_congr (fun k hk => h i k (List.mem_range.1 hi) hk))
theorem rep_row (n : Nat) : List.replicate n false = rowT n fun _ => false := by
  unfold rowT
  apply List.ext_getElem
  · simp
  · intro j h1 h2; simp
/-- the graph of truths -/
def gW (n : Nat) (f : Nat → Nat → Bool) : List Nat := (List.range n).map fun i => wd n (f i)
theorem gW_len (n : Nat) (f : Nat → Nat → Bool) : (gW n f).length = n := by simp [gW]
theorem gW_at (n : Nat) (f : Nat → Nat → Bool) (i : Nat) (h : i < n) : wAt (gW n f) i = wd n (f i) := by
  unfold wAt gW
  rw [List.getD_eq_getElem?_getD, List.getElem?_map, List.getElem?_range h]
  rfl
theorem gW_ok {n : Nat} (h : n ≤ 64) (f : Nat → Nat → Bool) : Wok (gW n f) := fun x hx => by
  obtain ⟨i, _, rfl⟩ := List.mem_map.1 hx
  exact wd_64 h _
theorem gW_bit (n : Nat) (f : Nat → Nat → Bool) (i k : Nat) : (wAt (gW n f) i).testBit k = (decide (i < n) && (decide (k < n) && f i k)) := by
  by_cases h : i < n
  · rw [gW_at n f i h, wd_bit, decide_eq_true h, Bool.true_and]
  · rw [decide_eq_false h, Bool.false_and]
    unfold wAt
    rw [List.getD_eq_getElem?_getD, List.getElem?_eq_none (by rw [gW_len]; omega)]
    simp
theorem gW_congr {n : Nat} {f g : Nat → Nat → Bool} (h : ∀ i k, i < n → k < n → f i k = g i k) : gW n f = gW n g := gI_ext (by rw [gW_len, gW_len]) (fun i hi => Nat.eq_of_testBit_eq (fun k => by
  rw [gW_len] at hi
  rw [gW_bit, gW_bit, decide_eq_true hi]
  simp only [Bool.true_and]
  by_cases c : k < n
  · rw [h i k hi c]
  · rw [decide_eq_false c]; rfl))
theorem gW_right (n : Nat) (hn : n ≤ 40) (f : Nat → Nat → Bool) (h : ∀ i k, i < n → k < n → f i k = true → k ≠ i ∧ f k i = true) : rightB (gW n f) = true := by
  rw [rightB_iff, gW_len]
  refine ⟨hn, fun i hi => ⟨by rw [gW_at n f i hi]; exact wd_lt _ _, fun k hk hb => ?_⟩⟩
  rw [gW_bit, decide_eq_true hi, decide_eq_true hk] at hb
  obtain ⟨h1, h2⟩ := h i k hi hk (by simpa using hb)
  refine ⟨h1, ?_⟩
  rw [gW_bit, decide_eq_true hi, decide_eq_true hk, h2]
  rfl
/-! ### arboristref08.Graph -/
theorem graph_l1 (n : Nat) (hn : n ≤ 64) (f : Nat → Nat → Bool) (i : Nat) (hi : i < n) (o : List Int) (ho : o.length < 17592186044416) (R : List Int) (H : Ev (fun k => arboristref08_Graph.l0 k (mat n f) ((i + 1 : Nat) : Int) (o ++ [((wd n (f i) : Nat) : Int)])) R) :
    ∀ (d j : Nat), j + d = n → Ev (fun k => arboristref08_Graph.l1 k (mat n f) (i : Int) ((wd j (f i) : Nat) : Int) (j : Int) o) R
  | 0, j, h => by
    obtain rfl : j = n := by omega
    refine evs1 H (fun k e => ?_)
    rw [arboristref08_Graph.l1, mat_len, if_neg (by omega), if_pos ho, wrap_nat i (by omega)]
    exact e
  | d + 1, j, h => by
    refine evs1 (graph_l1 n hn f i hi o ho R H d (j + 1) (by omega)) (fun k e => ?_)
    have hw : IntKind.u64.wrap (j : Int) = (j : Int) := by rw [IntKind.wrap_u64]; omega
    rw [arboristref08_Graph.l1, mat_len, if_pos (by omega), if_pos (by omega), if_pos (by omega), if_pos (by omega), mat_rd n f i hi, rowT_len, if_pos (by omega), rowT_rd n (f i) j (by omega), hw, wrap_nat j (by omega)]
    rw [wd] at e
    by_cases c : f i j = true
    · rw [if_pos c] at e ⊢
      have h1 := wd_lt j (f i)
      have h2 := pow_lt_64 j (by omega)
      have h3 : IntKind.u64.wrap (((wd j (f i) : Nat) : Int) + ((2 ^ j : Nat) : Int)) = ((2 ^ j * 1 + wd j (f i) : Nat) : Int) := by
        have h4 : 2 ^ j * 1 + wd j (f i) < 18446744073709551616 := by
          have := wd_64 (show j + 1 ≤ 64 by omega) (f i)
          rw [wd, if_pos c] at this
          exact this
        obtain ⟨p, hp⟩ : ∃ p : Nat, p = 2 ^ j := ⟨_, rfl⟩
        rw [← hp] at h4 ⊢
        rw [IntKind.wrap_u64]
        omega
      rw [if_pos (by omega), shl_one j (by omega), h3]
      exact e
    · rw [if_neg c] at e ⊢
      rw [Nat.mul_zero, Nat.zero_add] at e
      exact e
theorem graph_l0 (n : Nat) (hn : n ≤ 64) (f : Nat → Nat → Bool) : ∀ (d i : Nat), i + d = n → Ev (fun k => arboristref08_Graph.l0 k (mat n f) (i : Int) (gI ((List.range i).map fun j => wd n (f j)))) (gI (gW n f))
  | 0, i, h => by
    obtain rfl : i = n := by omega
    exact evs0 (fun k => by rw [arboristref08_Graph.l0, mat_len, if_neg (by omega)]; rfl)
  | d + 1, i, h => by
    have hr := graph_l0 n hn f d (i + 1) (by omega)
    rw [List.range_succ, List.map_append] at hr
    have e0 : gI ((List.range i).map (fun j => wd n (f j)) ++ [i].map (fun j => wd n (f j))) = gI ((List.range i).map fun j => wd n (f j)) ++ [((wd n (f i) : Nat) : Int)] := by simp [gI]
    rw [e0] at hr
    have hl : (gI ((List.range i).map fun j => wd n (f j))).length < 17592186044416 := by rw [gI_len]; simp; omega
    refine evs1 (graph_l1 n hn f i (by omega) _ hl _ hr n 0 (by omega)) (fun k e => ?_)
    rw [arboristref08_Graph.l0, mat_len, if_pos (by omega)]
    exact e
theorem graph_ev (n : Nat) (hn : n ≤ 64) (f : Nat → Nat → Bool) : Ev (fun k => arboristref08_Graph.f k (mat n f)) (gI (gW n f)) := graph_l0 n hn f n 0 (by omega)
/-! ### arboristref08.Empty -/
theorem empty_l0 (n : Nat) (hn : n ≤ 1000) : ∀ (d i : Nat), i + d = n → Ev (fun k => arboristref08_Empty.l0 k (n : Int) (List.replicate i (rowT n fun _ => false)) (i : Int)) (mat n fun _ _ => false)
  | 0, i, h => by
    obtain rfl : i = n := by omega
    refine evs0 (fun k => ?_)
    rw [arboristref08_Empty.l0, if_neg (by omega)]
    congr 1
    unfold mat
    apply List.ext_getElem
    · simp
    · intro j h1 h2; simp
  | d + 1, i, h => by
    have hr := empty_l0 n hn d (i + 1) (by omega)
    rw [List.replicate_succ'] at hr
    refine evs1 hr (fun k e => ?_)
    rw [arboristref08_Empty.l0, if_pos (by omega), if_pos (by omega), if_pos (by omega), if_pos (by simp; omega), Int.toNat_natCast, rep_row, wrap_nat i (by omega)]
    exact e
theorem empty_ev (n : Nat) (hn : n ≤ 1000) : Ev (fun k => arboristref08_Empty.f k (n : Int)) (mat n fun _ _ => false) := empty_l0 n hn n 0 (by omega)
theorem evp {ρ : Type} {F g : Nat → Option ρ} {r : ρ} (h : Ev g r) (H : ∀ k, g k = some r → F (k + 1) = some r) : Ev F r := evs1 h H
end Go.Proofs.YtopjffgmpphdbaaDoor.Pr

set_option linter.unusedVariables false
set_option linter.unusedSimpArgs false
namespace Go.Proofs.YtopjffgmpphdbaaDoor.Pr
open Go.RowKit Go.Proofs.YtopjffgmpphdbaaDoorW.PrintWords Go.Proofs.YtopjffgmpphdbaaDoorW.PrintLast Go.Proofs.YtopjffgmpphdbaaDoorW.PrintMore

section
variable (ws : List Nat)
def bF (i k : Nat) : Bool := (wAt ws i).testBit k
def qT (i k : Nat) : Bool := decide (k < ws.length) || !bF ws i k
def rT (i k : Nat) : Bool := (bF ws i k == bF ws k i) && !(decide (i = k) && bF ws i k)
def okT : Bool := ((List.range' 0 ws.length).all fun i => (List.range' 0 64).all (qT ws i)) && ((List.range' 0 ws.length).all fun i => (List.range' 0 ws.length).all (rT ws i))
end
end Go.Proofs.YtopjffgmpphdbaaDoor.Pr

set_option linter.unusedVariables false
set_option linter.unusedSimpArgs false
namespace Go.Proofs.YtopjffgmpphdbaaDoor.Pr
open Go.RowKit Go.Proofs.YtopjffgmpphdbaaDoorW.PrintWords Go.Proofs.YtopjffgmpphdbaaDoorW.PrintLast Go.Proofs.YtopjffgmpphdbaaDoorW.PrintMore

theorem low16 (x : Int) : 0 ≤ Go.bits .and .i64 x 65535 ∧ Go.bits .and .i64 x 65535 ≤ 65535 := by
  have h2 : (BitVec.ofInt 64 (65535 : Int)).toNat = 65535 := by decide
  have h3 : (BitVec.ofInt 64 x &&& BitVec.ofInt 64 (65535 : Int)).toNat ≤ 65535 := by
    rw [BitVec.toNat_and, h2]; exact Nat.and_le_right
  have e : Go.bits .and .i64 x 65535 = IntKind.i64.wrap ((BitVec.ofInt 64 x &&& BitVec.ofInt 64 (65535 : Int)).toNat : Int) := rfl
  rw [e, IntKind.wrap_i64]
  omega
theorem kT_in {n : Nat} (h : 0 < n) (x : Int) : ∃ k : Nat, k < n ∧ Int.tmod (Go.bits .and .i64 x 65535) (n : Int) = (k : Int) := by
  obtain ⟨h1, h2⟩ := low16 x
  have a := Int.tmod_nonneg (n : Int) h1
  have b := Int.tmod_lt_of_pos (Go.bits .and .i64 x 65535) (show (0 : Int) < (n : Int) by omega)
  exact ⟨(Int.tmod (Go.bits .and .i64 x 65535) (n : Int)).toNat, by omega, by omega⟩
/-- a graph's truths: from either end, none with itself, of n points -/
def Sy (n : Nat) (f : Nat → Nat → Bool) : Prop := (∀ i k, f i k = f k i) ∧ (∀ i, f i i = false) ∧ ∀ i k, f i k = true → i < n ∧ k < n
def addE (f : Nat → Nat → Bool) (a b : Nat) : Nat → Nat → Bool := fun i k => f i k || (decide (i = a ∧ k = b) || decide (i = b ∧ k = a))
theorem Sy.no (n : Nat) : Sy n fun _ _ => false := ⟨fun _ _ => rfl, fun _ => rfl, fun _ _ h => by cases h⟩
theorem Sy.right {n : Nat} {f : Nat → Nat → Bool} (h : Sy n f) (hn : n ≤ 40) : rightB (gW n f) = true := gW_right n hn f (fun i k _ _ hb => ⟨fun e => (by rw [e, h.2.1] at hb; cases hb), (by rw [h.1]; exact hb)⟩)
theorem joinW_gW {n : Nat} (f : Nat → Nat → Bool) {a b : Nat} (ha : a < n) (hb : b < n) (e : a ≠ b) : joinW (gW n f) (a : Int) (b : Int) = gW n (addE f a b) := by
  refine gI_ext (by rw [joinW_len, gW_len, gW_len]) (fun i hi => Nat.eq_of_testBit_eq (fun k => ?_))
  rw [joinW_len, gW_len] at hi
  have pa : isP n (a : Int) = true := decide_eq_true (by omega)
  have pb : isP n (b : Int) = true := decide_eq_true (by omega)
  rw [join_bit, gW_bit, gW_bit, gW_len, pa, pb, decide_eq_true hi]
  simp only [Bool.true_and, Bool.and_self]
  rw [decide_eq_true (show (a : Int) ≠ (b : Int) by omega), Bool.true_and]
  unfold addE
  by_cases c : k < n
  · rw [decide_eq_true c, Bool.true_and, Bool.true_and]
    congr 1
    rw [Bool.eq_iff_iff]
    simp only [Bool.or_eq_true, decide_eq_true_eq]
    omega
  · rw [decide_eq_false c, Bool.false_and, Bool.false_and, Bool.false_or, decide_eq_false (by omega), decide_eq_false (by omega)]
    rfl
/-! ### cliques -/
def cliqB (n : Nat) (f : Nat → Nat → Bool) (l : List Int) : Bool := l.all (isP n) && l.all fun x => l.all fun y => x == y || f x.toNat y.toNat
def cliqR (ws : List Nat) (l : List Int) (x : Int) : Bool := l.all fun y => x == y || (wAt ws x.toNat).testBit y.toNat
end Go.Proofs.YtopjffgmpphdbaaDoor.Pr

set_option linter.unusedVariables false
set_option linter.unusedSimpArgs false
namespace Go.Proofs.YtopjffgmpphdbaaDoor.Pr
open Go.RowKit Go.Proofs.YtopjffgmpphdbaaDoorW.PrintWords Go.Proofs.YtopjffgmpphdbaaDoorW.PrintLast Go.Proofs.YtopjffgmpphdbaaDoorW.PrintMore

theorem shown_9 : Ev (fun k => arboristlaw10_shown.f k) true := Ev.of (fun k => arboristlaw10_shown.mono k) (k := 100) (by decide +kernel)
/-! ### an order -/
def idI (n : Nat) : List Int := (List.range n).map fun (i : Nat) => (i : Int)
theorem idI_len (n : Nat) : (idI n).length = n := by simp [idI]
theorem idI_succ (n : Nat) : idI (n + 1) = idI n ++ [(n : Int)] := by simp [idI, List.range_succ]
theorem mem_idI {n : Nat} {x : Int} : x ∈ idI n ↔ ∃ k : Nat, k < n ∧ x = (k : Int) := by
  unfold idI
  simp only [List.mem_map, List.mem_range]
  constructor
  · rintro ⟨k, h, rfl⟩; exact ⟨k, h, rfl⟩
  · rintro ⟨k, h, rfl⟩; exact ⟨k, h, rfl⟩
theorem idI_nodup (n : Nat) : (idI n).Nodup := by
  unfold idI
  rw [List.Nodup, List.pairwise_map]
  exact List.nodup_range.imp (fun h e => h (by omega))
theorem given_step (out left : List Int) (p : Nat) (h : p < left.length) {I : List Int} (hp : (out ++ left).Perm I) : ((out ++ [rd left (p : Int)]) ++ (left.take p ++ left.drop (p + 1))).Perm I := by
  have hx : left[p]? = some (left[p]) := List.getElem?_eq_getElem h
  rw [rd_nat left p _ hx]
  have e : left = left.take p ++ left[p] :: left.drop (p + 1) := by rw [← List.drop_eq_getElem_cons h, List.take_append_drop]
  refine List.Perm.trans ?_ hp
  rw [List.append_assoc]
  refine List.Perm.append_left out ?_
  rw [List.singleton_append]
  conv => rhs; rw [e]
  exact List.perm_middle.symm
theorem given_l1 (n : Nat) (hn : n ≤ 1000) (l : List Int) (I : List Int) (d : Nat) : ∀ (i : Nat) (left out : List Int), i + d = n → left.length = d → out.length = i → (out ++ left).Perm I → ∃ o, o.Perm I ∧ Ev (fun k => arboristlaw10_given.l1 k (n : Int) l left out (i : Int)) o := by
  induction d with
  | zero =>
    intro i left out h hl ho hp
    obtain rfl := List.eq_nil_of_length_eq_zero hl
    exact ⟨out, by simpa using hp, evs0 (fun k => by rw [arboristlaw10_given.l1, if_neg (by omega)])⟩
  | succ d ih =>
    intro i left out h hl ho hp
    have next : ∀ p : Nat, p < left.length → ∃ o, o.Perm I ∧ Ev (fun k => arboristlaw10_given.l1 k (n : Int) l (left.take p ++ left.drop (p + 1)) (out ++ [rd left (p : Int)]) ((i + 1 : Nat) : Int)) o := fun p hpl =>
      ih (i + 1) _ _ (by omega) (by rw [List.length_append, List.length_take, List.length_drop]; omega) (by rw [List.length_append, ho]; rfl) (given_step out left p hpl hp)
    clear ih hp
    by_cases c : i < l.length
    · obtain ⟨p, hpl, hp2⟩ := kT_in (show 0 < left.length by omega) (rd l (i : Int))
      obtain ⟨o, ho1, ho2⟩ := next p hpl
      refine ⟨o, ho1, evp ho2 (fun k e => ?_)⟩
      have hq : wrap64 ((p : Int) + 1) = ((p + 1 : Nat) : Int) := wrap_nat p (by omega)
      have hw : wrap64 ((i : Int) + 1) = ((i + 1 : Nat) : Int) := wrap_nat i (by omega)
      have g1 : ([] : List Int).length + (left.take p).length < 17592186044416 := by rw [List.length_take]; simp; omega
      have g2 : (left.take p).length + (left.drop (p + 1)).length < 17592186044416 := by rw [List.length_take, List.length_drop]; omega
      rw [arboristlaw10_given.l1, if_pos (by omega), if_pos (by omega), if_pos (by omega), if_neg (by omega), hp2, if_pos (by omega), if_pos (by omega), if_pos (by omega)]
      rw [Option.bind_some, if_pos (by omega), Option.bind_some, Int.toNat_natCast, if_pos g1, Option.bind_some, hq, if_pos (by omega), if_pos (by omega), Option.bind_some, List.nil_append, Int.toNat_natCast, if_pos g2, hw]
      exact e
    · obtain ⟨o, ho1, ho2⟩ := next 0 (by omega)
      refine ⟨o, ho1, evp ho2 (fun k e => ?_)⟩
      have hw : wrap64 ((i : Int) + 1) = ((i + 1 : Nat) : Int) := wrap_nat i (by omega)
      have g1 : ([] : List Int).length + (left.take 0).length < 17592186044416 := by simp
      have g2 : (left.take 0).length + (left.drop 1).length < 17592186044416 := by simp; omega
      rw [arboristlaw10_given.l1, if_pos (by omega), if_neg (by omega), if_pos (by omega), if_pos (by omega)]
      rw [Option.bind_some, if_pos (by omega), Option.bind_some, if_pos g1, Option.bind_some, if_pos (by omega), Option.bind_some, List.nil_append, if_pos g2, hw]
      exact e
theorem given_l0 (n : Nat) (hn : n ≤ 1000) (l : List Int) : ∀ (d i : Nat), i + d = n → ∃ o, o.Perm (idI n) ∧ Ev (fun k => arboristlaw10_given.l0 k (n : Int) l (idI i) (i : Int)) o
  | 0, i, h => by
    obtain rfl : i = n := by omega
    obtain ⟨o, ho1, ho2⟩ := given_l1 i hn l (idI i) i 0 (idI i) [] (by omega) (idI_len i) rfl (by simp)
    refine ⟨o, ho1, evp ho2 (fun k e => ?_)⟩
    rw [arboristlaw10_given.l0, if_neg (by omega)]
    exact e
  | d + 1, i, h => by
    obtain ⟨o, ho1, ho2⟩ := given_l0 n hn l d (i + 1) (by omega)
    refine ⟨o, ho1, evp ho2 (fun k e => ?_)⟩
    rw [arboristlaw10_given.l0, if_pos (by omega), if_pos (by rw [idI_len]; omega), wrap_nat i (by omega), ← idI_succ]
    exact e
theorem given_ev (n : Nat) (hn : n ≤ 1000) (l : List Int) : ∃ o, o.Perm (idI n) ∧ Ev (fun k => arboristlaw10_given.f k (n : Int) l) o := given_l0 n hn l n 0 (by omega)
end Go.Proofs.YtopjffgmpphdbaaDoor.Pr

set_option linter.unusedVariables false
set_option linter.unusedSimpArgs false
namespace Go.Proofs.YtopjffgmpphdbaaDoor.Pr
open Go.RowKit Go.Proofs.YtopjffgmpphdbaaDoorW.PrintWords Go.Proofs.YtopjffgmpphdbaaDoorW.PrintLast Go.Proofs.YtopjffgmpphdbaaDoorW.PrintMore

/-- a point goes: all beside it are joined, it is beside none -/
def goT (f : Nat → Nat → Bool) (v : Nat) : Nat → Nat → Bool := fun i k => !decide (i = v) && (!decide (k = v) && (f i k || (f v i && (f v k && !decide (i = k)))))
theorem Sy.go {n : Nat} {f : Nat → Nat → Bool} (h : Sy n f) (v : Nat) : Sy n (goT f v) := by
  refine ⟨fun i k => ?_, fun i => ?_, fun i k e => ?_⟩
  · unfold goT
    rw [h.1 i k, show decide (i = k) = decide (k = i) by simp [eq_comm]]
    generalize decide (i = v) = a; generalize decide (k = v) = b; generalize f k i = c; generalize f v i = d; generalize f v k = e; generalize decide (k = i) = g
    revert a b c d e g; decide
  · unfold goT
    rw [h.2.1 i]; simp
  · unfold goT at e
    simp only [Bool.and_eq_true, Bool.or_eq_true] at e
    rcases e.2.2 with e | e
    · exact h.2.2 _ _ e
    · exact ⟨(h.2.2 _ _ e.1).2, (h.2.2 _ _ e.2.1).2⟩
def nbN (n : Nat) (f : Nat → Nat → Bool) (v : Nat) : List Nat := (List.range n).filter (f v)
theorem mem_nbN {n : Nat} {f : Nat → Nat → Bool} {v x : Nat} : x ∈ nbN n f v ↔ x < n ∧ f v x = true := by unfold nbN; rw [List.mem_filter, List.mem_range]
theorem nbN_len (n : Nat) (f : Nat → Nat → Bool) (v : Nat) : (nbN n f v).length ≤ n := Nat.le_trans (List.length_filter_le _ _) (by simp)
theorem ofT_nbN (n : Nat) (f : Nat → Nat → Bool) (v : Nat) : ofT n (f v) = gI (nbN n f v) := rfl
theorem wAt_in {l : List Nat} {i : Nat} (h : i < l.length) : wAt l i ∈ l := by rw [wAt_get l i h]; exact List.getElem_mem h
theorem nodup_at {l : List Nat} (h : l.Nodup) {i k : Nat} (hi : i < l.length) (hk : k < l.length) (e : l[i] = l[k]) : i = k := by
  have hp := List.pairwise_iff_getElem.1 h
  rcases Nat.lt_trichotomy i k with c | c | c
  · exact absurd e (hp i k hi hk c)
  · exact c
  · exact absurd e.symm (hp k i hk hi c)
/-! ### Missing -/
def cntP (f : Nat → Nat → Bool) (l : List Nat) (i j : Nat) : Nat := (l.take j).countP (fun b => !f (wAt l i) b)
def ms (f : Nat → Nat → Bool) (l : List Nat) : Nat → Nat
  | 0 => 0
  | i + 1 => ms f l i + cntP f l i i
def missT (n : Nat) (f : Nat → Nat → Bool) (v : Nat) : Nat := ms f (nbN n f v) (nbN n f v).length
theorem take_one (l : List Nat) (j : Nat) (h : j < l.length) : l.take (j + 1) = l.take j ++ [wAt l j] := by rw [List.take_succ_eq_append_getElem h, wAt_get l j h]
/-! ### Go -/
def setT (f : Nat → Nat → Bool) (p q : Nat) (b : Bool) : Nat → Nat → Bool := fun i => if i = p then (fun k => if k = q then b else f p k) else f i
theorem setT_mat (n : Nat) (f : Nat → Nat → Bool) (p q : Nat) (b : Bool) (hp : p < n) (hq : q < n) : (mat n f).set p ((rd_L7 (mat n f) (p : Int)).set q b) = mat n (setT f p q b) := by
  rw [mat_rd n f p hp, rowT_set, mat_set]
  rfl
def Did (f : Nat → Nat → Bool) (l : List Nat) (i k : Nat) (g : Nat → Nat → Bool) : Prop := ∀ p q, g p q = true ↔ f p q = true ∨ ∃ i' k', i' < l.length ∧ k' < l.length ∧ i' ≠ k' ∧ (i' < i ∨ (i' = i ∧ k' < k)) ∧ wAt l i' = p ∧ wAt l k' = q
end Go.Proofs.YtopjffgmpphdbaaDoor.Pr

set_option linter.unusedVariables false
set_option linter.unusedSimpArgs false
namespace Go.Proofs.YtopjffgmpphdbaaDoor.Pr
open Go.RowKit Go.Proofs.YtopjffgmpphdbaaDoorW.PrintWords Go.Proofs.YtopjffgmpphdbaaDoorW.PrintLast Go.Proofs.YtopjffgmpphdbaaDoorW.PrintMore

theorem rd_gW (n : Nat) (f : Nat → Nat → Bool) (i : Nat) (h : i < n) : rd (gI (gW n f)) (i : Int) = ((wd n (f i) : Nat) : Int) := by rw [gI_rd, gW_at n f i h]
theorem popW_wd {n : Nat} (h : n ≤ 64) (g : Nat → Bool) : popW (wd n g) = (List.range n).countP g := by
  unfold popW
  rw [listN_wd h]
  unfold ofT
  rw [List.length_map, List.countP_eq_length_filter]
theorem degree9 (n : Nat) (hn : n ≤ 64) (f : Nat → Nat → Bool) (v : Nat) (hv : v < n) : degreeF (gI (gW n f)) (v : Int) = ((nbN n f v).length : Int) := by
  unfold degreeF
  rw [rd_gW n f v hv, Int.toNat_natCast, popW_wd hn, List.countP_eq_length_filter]
  rfl
theorem anl_bit (a b i : Nat) (ha : a < 18446744073709551616) (hb : b < 18446744073709551616) : (anl a b).testBit i = (a.testBit i && !b.testBit i) := by
  unfold anl
  rw [Nat.testBit_and]
  by_cases h : i < 64
  · congr 1
    have := Nat.testBit_two_pow_sub_succ (x := b) (n := 64) hb i
    rw [show 2 ^ 64 - (b + 1) = 18446744073709551615 - b by omega] at this
    rw [this, decide_eq_true h, Bool.true_and]
  · have e : a.testBit i = false := bits_ge (n := 64) ha (by omega)
    rw [e, Bool.false_and, Bool.false_and]
theorem anl_wd {n : Nat} (hn : n ≤ 64) (f g : Nat → Bool) : anl (wd n f) (wd n g) = wd n (fun i => f i && !g i) := Nat.eq_of_testBit_eq (fun i => by
  rw [anl_bit _ _ _ (wd_64 hn f) (wd_64 hn g), wd_bit, wd_bit, wd_bit]
  cases decide (i < n) <;> simp)
theorem anl_pow {n : Nat} (hn : n ≤ 64) (f : Nat → Bool) (v : Nat) (hv : v < 64) : anl (wd n f) (2 ^ v) = wd n (fun i => f i && !decide (v = i)) := Nat.eq_of_testBit_eq (fun i => by
  rw [anl_bit _ _ _ (wd_64 hn f) (pow_lt_64 v hv), wd_bit, wd_bit, pow_bit, Bool.and_assoc])
theorem all_wd (n : Nat) : 2 ^ n - 1 = wd n (fun _ => true) := Nat.eq_of_testBit_eq (fun i => by rw [Nat.testBit_two_pow_sub_one, wd_bit, Bool.and_true])
/-! ### missing -/
theorem sum_if (l : List Nat) (p : Nat → Bool) : (l.map fun x => if p x = true then 1 else 0).sum = l.countP p := by
  induction l with
  | nil => rfl
  | cons x l ih =>
    rw [List.map_cons, List.sum_cons, List.countP_cons, ih]
    omega
theorem sum_add (l : List Nat) (a b : Nat → Nat) : (l.map fun x => a x + b x).sum = (l.map a).sum + (l.map b).sum := by
  induction l with
  | nil => rfl
  | cons x l ih => rw [List.map_cons, List.sum_cons, List.map_cons, List.sum_cons, List.map_cons, List.sum_cons, ih]; omega
theorem ms_pre (f : Nat → Nat → Bool) (l : List Nat) (y : Nat) : ∀ i, i ≤ l.length → ms f (l ++ [y]) i = ms f l i
  | 0, _ => rfl
  | i + 1, h => by
    rw [ms, ms, ms_pre f l y i (by omega)]
    unfold cntP
    rw [List.take_append_of_le_length (by omega)]
    have e : wAt (l ++ [y]) i = wAt l i := by unfold wAt; rw [List.getD_eq_getElem?_getD, List.getD_eq_getElem?_getD, List.getElem?_append_left (by omega)]
    rw [e]
theorem pairs_two (f : Nat → Nat → Bool) (hs : ∀ i k, f i k = f k i) : ∀ (m : Nat) (l : List Nat), l.length = m → l.Nodup → (l.map fun x => l.countP (fun k => !f x k && !decide (x = k))).sum = 2 * ms f l l.length
  | 0, l, h, _ => by
    obtain rfl := List.eq_nil_of_length_eq_zero h
    rfl
  | m + 1, l, h, hd => by
    obtain ⟨l, y, rfl⟩ : ∃ l' y, l = l' ++ [y] := ⟨l.dropLast, l.getLast (by intro e; rw [e] at h; cases h), (List.dropLast_concat_getLast _).symm⟩
    have hl : l.length = m := by simpa using h
    have hdl : l.Nodup := (List.nodup_append.1 hd).1
    have hy : ∀ x ∈ l, x ≠ y := fun x hx => (List.nodup_append.1 hd).2.2 x hx y (by simp)
    have ih := pairs_two f hs m l hl hdl
    have e1 : ms f (l ++ [y]) (l ++ [y]).length = ms f l l.length + l.countP (fun b => !f y b) := by
      rw [List.length_append, show [y].length = 1 from rfl, ms, ms_pre f l y _ (Nat.le_refl _)]
      unfold cntP
      rw [List.take_append_of_le_length (Nat.le_refl _), List.take_length]
      have e : wAt (l ++ [y]) l.length = y := by unfold wAt; rw [List.getD_eq_getElem?_getD, List.getElem?_append_right (Nat.le_refl _)]; simp
      rw [e]
    have e2 : (l.map fun x => (l ++ [y]).countP (fun k => !f x k && !decide (x = k))).sum = (l.map fun x => l.countP (fun k => !f x k && !decide (x = k))).sum + l.countP (fun b => !f y b) := by
      rw [← sum_if l (fun b => !f y b), ← sum_add]
      congr 1
      refine List.map_congr_left (fun x hx => ?_)
      rw [List.countP_append, List.countP_cons, List.countP_nil]
      rw [hs x y, decide_eq_false (hy x hx)]
      simp
    have e3 : (l ++ [y]).countP (fun k => !f y k && !decide (y = k)) = l.countP (fun b => !f y b) := by
      rw [List.countP_append, List.countP_cons, List.countP_nil]
      rw [List.countP_congr (p := fun k => !f y k && !decide (y = k)) (q := fun b => !f y b) (fun x hx => by
        have := hy x hx
        simp [Ne.symm this])]
      simp
    rw [List.map_append, List.sum_append, e2, e1, ih, List.map_cons, List.map_nil, List.sum_cons, List.sum_nil, e3]
    omega
theorem nbN_nodup (n : Nat) (f : Nat → Nat → Bool) (v : Nat) : (nbN n f v).Nodup := List.Nodup.sublist List.filter_sublist List.nodup_range
theorem missing9 (n : Nat) (hn : n ≤ 64) (f : Nat → Nat → Bool) (hs : ∀ i k, f i k = f k i) (v : Nat) (hv : v < n) : missF (gI (gW n f)) (v : Int) = ((missT n f v : Nat) : Int) := by
  unfold missF
  rw [rd_gW n f v hv, Int.toNat_natCast, listN_wd hn, ofT_nbN]
  have e : missSum (gI (gW n f)) (wd n (f v)) (gI (nbN n f v)) = 2 * missT n f v := by
    unfold missT
    rw [← pairs_two f hs _ (nbN n f v) rfl (nbN_nodup n f v)]
    unfold missSum gI
    rw [List.map_map]
    congr 1
    refine List.map_congr_left (fun x hx => ?_)
    have hx2 := (mem_nbN.1 hx).1
    show missN (gI (gW n f)) (wd n (f v)) (x : Int) = _
    unfold missN
    rw [rd_gW n f x hx2, Int.toNat_natCast, Int.toNat_natCast, anl_wd hn, anl_pow hn _ x (by omega), popW_wd hn]
    unfold nbN
    rw [List.countP_filter]
    congr 1
    funext k
    cases f v k <;> cases f x k <;> simp
  rw [e, Nat.mul_div_cancel_left _ (by decide)]
/-! ### goes -/
def rowsF (n : Nat) (F : Nat → Nat) : List Nat := (List.range n).map F
theorem rowsF_at (n : Nat) (F : Nat → Nat) (i : Nat) (h : i < n) : wAt (rowsF n F) i = F i := by
  unfold wAt rowsF
  rw [List.getD_eq_getElem?_getD, List.getElem?_map, List.getElem?_range h]
  rfl
theorem rowsF_set (n : Nat) (F : Nat → Nat) (i v : Nat) : (rowsF n F).set i v = rowsF n fun j => if j = i then v else F j := by
  unfold rowsF
  apply List.ext_getElem
  · simp
  · intro j h1 h2
    rw [List.getElem_set]
    simp only [List.getElem_map, List.getElem_range]
    by_cases e : i = j
    · rw [if_pos e, if_pos e.symm]
    · rw [if_neg e, if_neg (fun h => e h.symm)]
theorem rowsF_congr {n : Nat} {F G : Nat → Nat} (h : ∀ i, i < n → F i = G i) : rowsF n F = rowsF n G := List.map_congr_left (fun i hi => h i (List.mem_range.1 hi))
theorem goes_fold (n b v : Nat) : ∀ (ys : List Nat) (F : Nat → Nat), (∀ y ∈ ys, y < n) → ys.Nodup → (gI ys).foldl (goStep b v) (gI (rowsF n F)) = gI (rowsF n fun j => if j ∈ ys then anl (F j ||| b) (2 ^ j ||| 2 ^ v) else F j)
  | [], F, _, _ => by simp [gI]
  | y :: ys, F, hy, hd => by
    have h1 := hy y List.mem_cons_self
    have hny : y ∉ ys := (List.nodup_cons.1 hd).1
    show (gI ys).foldl (goStep b v) (goStep b v (gI (rowsF n F)) (y : Int)) = _
    have e : goStep b v (gI (rowsF n F)) (y : Int) = gI (rowsF n fun j => if j = y then anl (F y ||| b) (2 ^ y ||| 2 ^ v) else F j) := by
      unfold goStep
      rw [gI_rd, rowsF_at n F y h1, Int.toNat_natCast, Int.toNat_natCast, gI_set, rowsF_set]
    rw [e, goes_fold n b v ys _ (fun z hz => hy z (List.mem_cons_of_mem _ hz)) (List.nodup_cons.1 hd).2]
    congr 1
    refine rowsF_congr (fun j hj => ?_)
    by_cases c : j = y
    · subst c
      rw [if_neg hny, if_pos rfl, if_pos List.mem_cons_self]
    · by_cases c2 : j ∈ ys
      · rw [if_pos c2, if_neg c, if_pos (List.mem_cons_of_mem _ c2)]
      · rw [if_neg c2, if_neg c, if_neg (by rw [List.mem_cons]; exact fun h => h.elim c c2)]
theorem goes9 (n : Nat) (hn : n ≤ 64) (f : Nat → Nat → Bool) (hf : Sy n f) (v : Nat) (hv : v < n) : goRows (gI (gW n f)) v = gI (gW n (goT f v)) := by
  unfold goRows
  rw [rd_gW n f v hv, Int.toNat_natCast, listN_wd hn, ofT_nbN]
  have h0 := goes_fold n (wd n (f v)) v (nbN n f v) (fun i => wd n (f i)) (fun y hy => (mem_nbN.1 hy).1) (nbN_nodup n f v)
  rw [show gW n f = rowsF n (fun i => wd n (f i)) from rfl, h0]
  show (gI _).set v ((0 : Nat) : Int) = _
  rw [gI_set, rowsF_set]
  congr 1
  show rowsF n _ = rowsF n (fun i => wd n (goT f v i))
  refine rowsF_congr (fun j hj => Nat.eq_of_testBit_eq (fun k => ?_))
  rw [wd_bit]
  by_cases c : j = v
  · subst c
    rw [if_pos rfl]
    unfold goT
    simp
  · rw [if_neg c]
    by_cases c2 : j ∈ nbN n f v
    · have hfv := (mem_nbN.1 c2).2
      rw [if_pos c2, anl_bit _ _ _ (or_lt64 (wd_64 hn _) (wd_64 hn _)) (or_lt64 (pow_lt_64 j (by omega)) (pow_lt_64 v (by omega))), Nat.testBit_or, Nat.testBit_or, wd_bit, wd_bit, pow_bit, pow_bit]
      unfold goT
      rw [hfv, decide_eq_false c, show decide (v = k) = decide (k = v) by simp [eq_comm]]
      have hjj := hf.2.1 j
      by_cases ck : j = k
      · subst ck
        rw [hjj]; simp
      · rw [decide_eq_false ck]
        cases decide (k < n) <;> cases f j k <;> cases f v k <;> cases decide (k = v) <;> rfl
    · rw [if_neg c2, wd_bit]
      have hfv : f v j = false := by
        cases h : f v j with
        | false => rfl
        | true => exact absurd (mem_nbN.2 ⟨hj, h⟩) c2
      unfold goT
      rw [hfv, decide_eq_false c]
      by_cases ck : k = v
      · subst ck
        rw [hf.1 j k, hfv]; simp
      · rw [decide_eq_false ck]
        cases f j k <;> simp
/-! ### the run -/
def cardC (n : Nat) (f : Nat → Nat → Bool) (left : Nat → Bool) (x : Nat) : Nat := (List.range n).countP (fun k => f x k && !left k)
theorem card9 (n : Nat) (hn : n ≤ 64) (f : Nat → Nat → Bool) (left : Nat → Bool) (x : Nat) (hx : x < n) : cardF (gI (gW n f)) (2 ^ n - 1) (wd n left) (x : Int) = -((cardC n f left x : Nat) : Int) := by
  unfold cardF cardC
  rw [rd_gW n f x hx, Int.toNat_natCast, all_wd]
  have e : wd n (f x) &&& wd n (fun _ => true) = wd n (f x) := Nat.eq_of_testBit_eq (fun i => by
    rw [Nat.testBit_and, wd_bit, wd_bit]
    cases decide (i < n) <;> simp)
  rw [e, anl_wd hn, popW_wd hn]
def wT (how : Int) (n : Nat) (f0 f : Nat → Nat → Bool) (left : Nat → Bool) (x : Int) : Int :=
  if how = 1 then ((missT n f x.toNat : Nat) : Int) else if how = 2 then ((nbN n f x.toNat).length : Int) else -((cardC n f0 left x.toNat : Nat) : Int)
def without (left : Nat → Bool) (v : Nat) : Nat → Bool := fun i => left i && !decide (v = i)
def planT (how : Int) (n : Nat) (f0 : Nat → Nat → Bool) : Nat → (Nat → Nat → Bool) → (Nat → Bool) → List Int
  | 0, _, _ => []
  | k + 1, f, left => if ofT n left = [] then [] else
      let v := (leastF (wT how n f0 f left) (ofT n left)).toNat
      (v : Int) :: planT how n f0 k (if how = 3 then f else goT f v) (without left v)
theorem mem_ofT {n : Nat} {g : Nat → Bool} {x : Int} : x ∈ ofT n g ↔ ∃ i : Nat, i < n ∧ g i = true ∧ x = (i : Int) := by
  unfold ofT
  simp only [List.mem_map, List.mem_filter, List.mem_range]
  constructor
  · rintro ⟨i, ⟨h1, h2⟩, rfl⟩; exact ⟨i, h1, h2, rfl⟩
  · rintro ⟨i, h1, h2, rfl⟩; exact ⟨i, ⟨h1, h2⟩, rfl⟩
theorem lessW_congr {g h : Int → Int} {S : List Int} (hgh : ∀ x ∈ S, g x = h x) : ∀ (xs : List Int) (b : Int), (∀ x ∈ xs, x ∈ S) → (b < 0 ∨ b ∈ S) → xs.foldl (lessW g) b = xs.foldl (lessW h) b
  | [], _, _, _ => rfl
  | x :: xs, b, hx, hb => by
    have e : lessW g b x = lessW h b x := by
      unfold lessW
      by_cases c : b < 0
      · rw [if_pos c, if_pos c]
      · rw [if_neg c, if_neg c, hgh x (hx x List.mem_cons_self), hgh b (hb.resolve_left c)]
    rw [List.foldl_cons, List.foldl_cons, e]
    refine lessW_congr hgh xs _ (fun z hz => hx z (List.mem_cons_of_mem _ hz)) ?_
    unfold lessW
    split
    · exact .inr (hx x List.mem_cons_self)
    · split
      · exact .inr (hx x List.mem_cons_self)
      · exact hb
theorem leastF_congr {g h : Int → Int} {xs : List Int} (hgh : ∀ x ∈ xs, g x = h x) : leastF g xs = leastF h xs := lessW_congr hgh xs (-1) (fun _ hx => hx) (.inl (by decide))
theorem wd_nil {n : Nat} (hn : n ≤ 64) (left : Nat → Bool) : wd n left = 0 ↔ ofT n left = [] := by
  rw [← listN_wd hn left]
  constructor
  · intro h; rw [h]; exact listN_zero
  · intro h; exact listN_nil (wd_64 hn left) h
theorem least9 {n : Nat} {left : Nat → Bool} (g : Int → Int) (h : ofT n left ≠ []) : ∃ v : Nat, v < n ∧ left v = true ∧ leastF g (ofT n left) = (v : Int) := by
  have hm := leastF_in g (ofT n left) (fun x hx => by obtain ⟨i, _, _, rfl⟩ := mem_ofT.1 hx; omega) h
  obtain ⟨i, h1, h2, h3⟩ := mem_ofT.1 hm
  exact ⟨i, h1, h2, h3⟩
theorem run9 (how : Int) (h1 : 1 ≤ how) (h3 : how ≤ 3) (n : Nat) (hn : n ≤ 64) (f0 : Nat → Nat → Bool) (hf0 : Sy n f0) : ∀ (k : Nat) (f : Nat → Nat → Bool) (left : Nat → Bool) (out : List Int), Sy n f →
    ofRun how (gI (gW n f0)) (2 ^ n - 1) k (gI (gW n f)) (wd n left) out = out ++ planT how n f0 k f left
  | 0, f, left, out, hf => by rw [ofRun, planT, List.append_nil]
  | k + 1, f, left, out, hf => by
    rw [ofRun, planT]
    by_cases c : ofT n left = []
    · rw [if_pos ((wd_nil hn left).2 c), if_pos c, List.append_nil]
    · rw [if_neg (fun h => c ((wd_nil hn left).1 h)), if_neg c, listN_wd hn]
      have e : leastF (worthF how (gI (gW n f0)) (2 ^ n - 1) (gI (gW n f)) (wd n left)) (ofT n left) = leastF (wT how n f0 f left) (ofT n left) := leastF_congr (fun x hx => by
        obtain ⟨i, hi, _, rfl⟩ := mem_ofT.1 hx
        unfold worthF wT
        rw [Int.toNat_natCast]
        by_cases c1 : how = 1
        · rw [if_pos c1, if_pos c1, missing9 n hn f hf.1 i hi]
        · rw [if_neg c1, if_neg c1]
          by_cases c2 : how = 2
          · rw [if_pos c2, if_pos c2, degree9 n hn f i hi]
          · rw [if_neg c2, if_neg c2, card9 n hn f0 left i hi])
      obtain ⟨v, hv, hlv, ev⟩ := least9 (wT how n f0 f left) c
      simp only [e, ev, Int.toNat_natCast]
      rw [anl_pow hn left v (by omega)]
      by_cases c3 : how = 3
      · rw [if_pos c3, if_pos c3]
        have := run9 how h1 h3 n hn f0 hf0 k f (without left v) (out ++ [(v : Int)]) hf
        rw [List.append_assoc] at this
        exact this
      · rw [if_neg c3, if_neg c3, goes9 n hn f hf v hv]
        have := run9 how h1 h3 n hn f0 hf0 k (goT f v) (without left v) (out ++ [(v : Int)]) (hf.go v)
        rw [List.append_assoc] at this
        exact this
def orderT (how : Int) (n : Nat) (f : Nat → Nat → Bool) : List Int := if how = 3 then (planT how n f 64 f (fun _ => true)).reverse else planT how n f 64 f (fun _ => true)
theorem good9 (n : Nat) (hn : n ≤ 64) (f : Nat → Nat → Bool) : Good (gI (gW n f)) := fun x hx => by
  unfold gI gW at hx
  rw [List.map_map] at hx
  obtain ⟨i, hi, rfl⟩ := List.mem_map.1 hx
  have hw := wd_64 hn (f i)
  refine ⟨⟨Int.natCast_nonneg _, by show ((wd n (f i) : Nat) : Int) < _; omega⟩, fun a ha => ?_⟩
  have ha2 : a ∈ listN (wd n (f i)) := ha
  rw [listN_wd hn] at ha2
  obtain ⟨j, hj, _, rfl⟩ := mem_ofT.1 ha2
  rw [gI_len, gW_len]
  omega
theorem of_ev (how : Int) (h1 : 1 ≤ how) (h3 : how ≤ 3) (n : Nat) (hn : n ≤ 40) (f : Nat → Nat → Bool) (hf : Sy n f) : Ev (fun k => order_Of.f k (gI (gW n f)) how) (orderT how n f, 0) := by
  have hw := gW_ok (show n ≤ 64 by omega) f
  have e1 := right_ev (gW n f) hw
  rw [hf.right hn] at e1
  refine evu1 e1 (fun k e => ?_)
  unfold order_Of.f
  rw [if_neg (by omega), e, Option.bind_some, if_neg (by decide), if_pos ⟨good9 n (by omega) f, by rw [gI_len, gW_len]; exact hn⟩]
  rw [gI_len, gW_len]
  have hr := run9 how h1 h3 n (by omega) f hf 64 f (fun _ => true) [] hf
  rw [← all_wd, List.nil_append] at hr
  simp only [hr]
  rfl
end Go.Proofs.YtopjffgmpphdbaaDoor.Pr

set_option linter.unusedVariables false
set_option linter.unusedSimpArgs false
namespace Go.Proofs.YtopjffgmpphdbaaDoor.Pr
open Go.RowKit Go.Proofs.YtopjffgmpphdbaaDoorW.PrintWords Go.Proofs.YtopjffgmpphdbaaDoorW.PrintLast Go.Proofs.YtopjffgmpphdbaaDoorW.PrintMore

def fromT (n : Nat) (left : Nat → Bool) (j : Nat) : List Int := ((List.range' j (n - j)).filter left).map fun (i : Nat) => (i : Int)
theorem cnt_without (left : Nat → Bool) (v : Nat) : ∀ n, (List.range n).countP left = (List.range n).countP (without left v) + (if v < n ∧ left v = true then 1 else 0)
  | 0 => by simp
  | n + 1 => by
    have ih := cnt_without left v n
    rw [List.range_succ, List.countP_append, List.countP_append, List.countP_cons, List.countP_cons, List.countP_nil, List.countP_nil, ih]
    unfold without
    by_cases c : v = n
    · subst c
      cases h : left v <;> simp
    · rw [decide_eq_false c]
      have e : (v < n + 1 ∧ left v = true) ↔ (v < n ∧ left v = true) := ⟨fun h => ⟨by omega, h.2⟩, fun h => ⟨by omega, h.2⟩⟩
      cases h : left n <;> by_cases c2 : v < n ∧ left v = true <;> simp [c2, e]
      all_goals omega
theorem ofT_count (n : Nat) (left : Nat → Bool) : (ofT n left).length = (List.range n).countP left := by unfold ofT; rw [List.length_map, List.countP_eq_length_filter]
theorem ofT_without {n : Nat} {left : Nat → Bool} {v : Nat} (hv : v < n) (hl : left v = true) : (ofT n left).length = (ofT n (without left v)).length + 1 := by
  rw [ofT_count, ofT_count, cnt_without left v n, if_pos ⟨hv, hl⟩]
theorem ofT_all (n : Nat) : (ofT n fun _ => true).length = n := by rw [ofT_count]; simp
/-! ### card -/
def cntJ (n : Nat) (f : Nat → Nat → Bool) (left : Nat → Bool) (x j : Nat) : Nat := (List.range j).countP (fun k => f x k && !left k)
end Go.Proofs.YtopjffgmpphdbaaDoor.Pr

set_option linter.unusedVariables false
set_option linter.unusedSimpArgs false
namespace Go.Proofs.YtopjffgmpphdbaaDoor.Pr
open Go.RowKit Go.Proofs.YtopjffgmpphdbaaDoorW.PrintWords Go.Proofs.YtopjffgmpphdbaaDoorW.PrintLast Go.Proofs.YtopjffgmpphdbaaDoorW.PrintMore

theorem perm_of_in : ∀ (xs l : List Int), xs.Nodup → (∀ x ∈ xs, x ∈ l) → l.length ≤ xs.length → l.Perm xs
  | [], l, _, _, h => by
    have : l = [] := List.eq_nil_of_length_eq_zero (by simpa using h)
    rw [this]
  | x :: xs, l, hd, hin, hl => by
    have hx : x ∈ l := hin x List.mem_cons_self
    have h1 : l.Perm (x :: l.erase x) := List.perm_cons_erase hx
    have hlen := h1.length_eq
    have h2 := perm_of_in xs (l.erase x) (List.nodup_cons.1 hd).2 (fun y hy => by
      have hne : y ≠ x := fun e => (List.nodup_cons.1 hd).1 (e ▸ hy)
      exact (List.mem_erase_of_ne hne).2 (hin y (List.mem_cons_of_mem _ hy))) (by simp at hlen hl ⊢; omega)
    exact h1.trans (h2.cons x)
def validB (n : Nat) (l : List Int) : Bool := decide (l.length = n ∧ ∀ v, v < n → l.count (v : Int) = 1)
theorem idI_count (n v : Nat) (h : v < n) : (idI n).count (v : Int) = 1 := List.Nodup.count (idI_nodup n) |>.trans (if_pos (mem_idI.2 ⟨v, h, rfl⟩))
theorem validB_perm (n : Nat) (l : List Int) : validB n l = true ↔ l.Perm (idI n) := by
  unfold validB
  rw [decide_eq_true_iff]
  constructor
  · rintro ⟨h1, h2⟩
    refine perm_of_in (idI n) l (idI_nodup n) (fun x hx => ?_) (by rw [idI_len]; omega)
    obtain ⟨v, hv, rfl⟩ := mem_idI.1 hx
    exact List.count_pos_iff.1 (by rw [h2 v hv]; decide)
  · intro h
    exact ⟨by rw [h.length_eq, idI_len], fun v hv => by rw [h.count_eq, idI_count n v hv]⟩
/-! ### the program's -/
theorem chkN_iff : ∀ (l : List Int) (i : Nat), chkN i l = true ↔ l = (List.range' i l.length).map fun (k : Nat) => (k : Int)
  | [], i => by simp [chkN]
  | x :: l, i => by
    rw [chkN, List.length_cons, List.range'_succ, List.map_cons]
    by_cases c : (i : Int) = x
    · rw [if_pos c, chkN_iff l (i + 1)]
      constructor
      · intro h; rw [← h, c]
      · intro h; exact (List.cons.inj h).2
    · rw [if_neg c]
      constructor
      · intro h; cases h
      · intro h; exact absurd (List.cons.inj h).1.symm c
theorem idI_sorted (n : Nat) : (idI n).Pairwise (· ≤ ·) := by
  unfold idI
  rw [List.pairwise_map]
  exact List.pairwise_lt_range.imp (fun h => by omega)
theorem chk_perm (l : List Int) : chkN 0 (SortedSeq.sortZ l) = true ↔ l.Perm (idI l.length) := by
  rw [chkN_iff, SortedSeq.sortZ_len, ← List.range_eq_range']
  constructor
  · intro h
    have hp := (SortedSeq.sortZ_perm l).symm
    have e : SortedSeq.sortZ l = idI l.length := h
    rw [e] at hp
    exact hp
  · intro h
    exact SortedSeq.sortZ_uniq ((SortedSeq.sortZ_perm l).trans h) (SortedSeq.sortZ_sorted l) (idI_sorted _)
theorem pvalid_f (n : Nat) (l : List Int) (hl : l.length < 17592186043904) : order_Valid.f (n : Int) l = some (validB n l) := by
  unfold order_Valid.f
  by_cases c : l.length = n
  · rw [if_pos (by omega), if_pos hl]
    congr 1
    have h1 := chk_perm l
    rw [c] at h1
    have h2 := validB_perm n l
    rw [Bool.eq_iff_iff, h1, h2]
  · rw [if_neg (by omega)]
    congr 1
    unfold validB
    rw [decide_eq_false (fun h => c h.1)]
/-! ### the document's -/
def cntV (l : List Int) (v : Int) (j : Nat) : Nat := (l.take j).count v
theorem validB_of {n : Nat} {l : List Int} (h : l.Perm (idI n)) : validB n l = true := (validB_perm n l).2 h
end Go.Proofs.YtopjffgmpphdbaaDoor.Pr

set_option linter.unusedVariables false
set_option linter.unusedSimpArgs false
namespace Go.Proofs.YtopjffgmpphdbaaDoor.Pr
open Go.RowKit Go.Proofs.YtopjffgmpphdbaaDoorW.PrintWords Go.Proofs.YtopjffgmpphdbaaDoorW.PrintLast Go.Proofs.YtopjffgmpphdbaaDoorW.PrintMore

theorem ofT_nodup (n : Nat) (g : Nat → Bool) : (ofT n g).Nodup := by
  unfold ofT
  rw [List.Nodup, List.pairwise_map]
  exact (List.Nodup.sublist List.filter_sublist List.nodup_range).imp (fun h e => h (by omega))
theorem ofT_id (n : Nat) : (ofT n fun _ => true) = idI n := by unfold ofT idI; rw [List.filter_eq_self.2 (fun _ _ => rfl)]
theorem ofT_perm {n : Nat} {left : Nat → Bool} {v : Nat} (hv : v < n) (hl : left v = true) : ((v : Int) :: ofT n (without left v)).Perm (ofT n left) := by
  refine (perm_of_in ((v : Int) :: ofT n (without left v)) (ofT n left) (List.nodup_cons.2 ⟨fun h => ?_, ofT_nodup n _⟩) (fun x hx => ?_) (by rw [List.length_cons, ofT_without hv hl]; exact Nat.le_refl _)).symm
  · obtain ⟨i, _, h2, h3⟩ := mem_ofT.1 h
    obtain rfl : v = i := by omega
    unfold without at h2
    simp at h2
  · rcases List.mem_cons.1 hx with rfl | hx
    · exact mem_ofT.2 ⟨v, hv, hl, rfl⟩
    · obtain ⟨i, h1, h2, rfl⟩ := mem_ofT.1 hx
      unfold without at h2
      rw [Bool.and_eq_true] at h2
      exact mem_ofT.2 ⟨i, h1, h2.1, rfl⟩
theorem planT_perm (how : Int) (n : Nat) (f0 : Nat → Nat → Bool) : ∀ (k : Nat) (f : Nat → Nat → Bool) (left : Nat → Bool), (ofT n left).length ≤ k → (planT how n f0 k f left).Perm (ofT n left)
  | 0, f, left, h => by
    rw [planT, List.eq_nil_of_length_eq_zero (Nat.le_zero.1 h)]
  | k + 1, f, left, h => by
    rw [planT]
    by_cases c : ofT n left = []
    · rw [if_pos c, c]
    · rw [if_neg c]
      obtain ⟨v, hv, hlv, ev⟩ := least9 (wT how n f0 f left) c
      simp only [ev, Int.toNat_natCast]
      have hc := ofT_without hv hlv
      exact ((planT_perm how n f0 k _ (without left v) (by omega)).cons _).trans (ofT_perm hv hlv)
theorem orderT_perm (how : Int) (n : Nat) (hn : n ≤ 64) (f : Nat → Nat → Bool) : (orderT how n f).Perm (idI n) := by
  have h := planT_perm how n f 64 f (fun _ => true) (by rw [ofT_all]; exact hn)
  rw [ofT_id] at h
  unfold orderT
  by_cases c : how = 3
  · rw [if_pos c]; exact (List.reverse_perm _).trans h
  · rw [if_neg c]; exact h
end Go.Proofs.YtopjffgmpphdbaaDoor.Pr

set_option linter.unusedVariables false
set_option linter.unusedSimpArgs false
namespace Go.Proofs.YtopjffgmpphdbaaDoor.Pr
open Go.RowKit Go.Proofs.YtopjffgmpphdbaaDoorW.PrintWords Go.Proofs.YtopjffgmpphdbaaDoorW.PrintLast Go.Proofs.YtopjffgmpphdbaaDoorW.PrintMore

theorem lessW_least (g : Int → Int) : ∀ (xs : List Int) (b : Int), 0 ≤ b → (∀ x ∈ xs, b < x) → xs.Pairwise (· < ·) →
    (g (xs.foldl (lessW g) b) < g b ∨ xs.foldl (lessW g) b = b) ∧ ∀ y ∈ xs, g (xs.foldl (lessW g) b) ≤ g y ∧ (g y = g (xs.foldl (lessW g) b) → xs.foldl (lessW g) b ≤ y)
  | [], b, _, _, _ => ⟨.inr rfl, fun y hy => by cases hy⟩
  | x :: xs, b, h0, hb, hp => by
    rw [List.foldl_cons]
    have hbx := hb x List.mem_cons_self
    have hpx := List.pairwise_cons.1 hp
    by_cases c : g x < g b
    · have e : lessW g b x = x := by unfold lessW; rw [if_neg (by omega), if_pos c]
      rw [e]
      obtain ⟨h1, h2⟩ := lessW_least g xs x (by omega) hpx.1 hpx.2
      refine ⟨.inl ?_, fun y hy => ?_⟩
      · rcases h1 with h1 | h1
        · omega
        · rw [h1]; exact c
      · rcases List.mem_cons.1 hy with rfl | hy
        · rcases h1 with h1 | h1
          · exact ⟨by omega, fun e => by omega⟩
          · rw [h1]; exact ⟨Int.le_refl _, fun _ => Int.le_refl _⟩
        · exact h2 y hy
    · have e : lessW g b x = b := by unfold lessW; rw [if_neg (by omega), if_neg c]
      rw [e]
      obtain ⟨h1, h2⟩ := lessW_least g xs b h0 (fun y hy => hb y (List.mem_cons_of_mem _ hy)) hpx.2
      refine ⟨h1, fun y hy => ?_⟩
      rcases List.mem_cons.1 hy with rfl | hy
      · rcases h1 with h1 | h1
        · exact ⟨by omega, fun e => by omega⟩
        · rw [h1]; exact ⟨by omega, fun _ => by omega⟩
      · exact h2 y hy
theorem leastF_least (g : Int → Int) (xs : List Int) (h0 : ∀ x ∈ xs, 0 ≤ x) (hp : xs.Pairwise (· < ·)) : ∀ y ∈ xs, g (leastF g xs) ≤ g y ∧ (g y = g (leastF g xs) → leastF g xs ≤ y) := by
  intro y hy
  cases xs with
  | nil => cases hy
  | cons x xs =>
    have e : leastF g (x :: xs) = xs.foldl (lessW g) x := by
      unfold leastF
      rw [List.foldl_cons]
      have : lessW g (-1) x = x := by unfold lessW; rw [if_pos (by decide)]
      rw [this]
    rw [e]
    have hpx := List.pairwise_cons.1 hp
    obtain ⟨h1, h2⟩ := lessW_least g xs x (h0 x List.mem_cons_self) hpx.1 hpx.2
    rcases List.mem_cons.1 hy with rfl | hy
    · rcases h1 with h1 | h1
      · exact ⟨by omega, fun e => by omega⟩
      · rw [h1]; exact ⟨Int.le_refl _, fun _ => Int.le_refl _⟩
    · exact h2 y hy
theorem ofT_rising (n : Nat) (g : Nat → Bool) : (ofT n g).Pairwise (· < ·) := by
  unfold ofT
  rw [List.pairwise_map]
  exact (List.Pairwise.sublist List.filter_sublist List.pairwise_lt_range).imp (fun h => by omega)
theorem ofT_nn {n : Nat} {g : Nat → Bool} {x : Int} (h : x ∈ ofT n g) : 0 ≤ x := by
  obtain ⟨i, _, _, rfl⟩ := mem_ofT.1 h
  omega
end Go.Proofs.YtopjffgmpphdbaaDoor.Pr

/- Graphs by truths: if some order joins nothing, then one in which each point that is chosen has most chosen beside it joins nothing. Plain; no program in sight. -/
set_option linter.unusedVariables false
set_option linter.unusedSimpArgs false
namespace Go.Proofs.YtopjffgmpphdbaaDoor.Mcs
/-- a graph of n points -/
structure Gr (n : Nat) (A : Nat → Nat → Bool) : Prop where
  sym : ∀ i k, A i k = A k i
  irr : ∀ i, A i i = false
  rng : ∀ i k, A i k = true → i < n ∧ k < n
/-- by these places each point's later ones are beside each other -/
def Late (A : Nat → Nat → Bool) (pos : Nat → Nat) : Prop := ∀ v a b, pos v < pos a → pos v < pos b → A v a = true → A v b = true → a ≠ b → A a b = true
/-- points in a row, each beside the next one, and beside no other one -/
structure Way (A : Nat → Nat → Bool) (p : Nat → Nat) (m : Nat) : Prop where
  beside : ∀ i k, i ≤ m → k ≤ m → (A (p i) (p k) = true ↔ (k = i + 1 ∨ i = k + 1))
  once : ∀ i k, i ≤ m → k ≤ m → p i = p k → i = k
theorem ex_min (g : Nat → Nat) : ∀ N, ∃ i, i ≤ N ∧ ∀ k, k ≤ N → g i ≤ g k
  | 0 => ⟨0, Nat.le_refl _, fun k hk => by obtain rfl : k = 0 := by omega
                                           exact Nat.le_refl _⟩
  | N + 1 => by
    obtain ⟨i, hi, h⟩ := ex_min g N
    by_cases c : g i ≤ g (N + 1)
    · refine ⟨i, by omega, fun k hk => ?_⟩
      by_cases e : k = N + 1
      · rw [e]; exact c
      · exact h k (by omega)
    · refine ⟨N + 1, Nat.le_refl _, fun k hk => ?_⟩
      by_cases e : k = N + 1
      · rw [e]; exact Nat.le_refl _
      · have := h k (by omega); omega
theorem no_ring {n : Nat} {A : Nat → Nat → Bool} (hA : Gr n A) (pos : Nat → Nat) (hp : ∀ x y, x < n → y < n → pos x = pos y → x = y) (hL : Late A pos) (p : Nat → Nat) (m : Nat) (hm : 2 ≤ m) (hw : Way A p m) (d : Nat)
    (h0 : A d (p 0) = true) (hdm : A d (p m) = true) (hdi : ∀ i, 0 < i → i < m → A d (p i) = false) (hne : ∀ i, i ≤ m → d ≠ p i) : False := by
  obtain ⟨i, hi, hmin⟩ := ex_min (fun i => pos (p i)) m
  have hdn : d < n := (hA.rng _ _ h0).1
  have hpn : ∀ k, k ≤ m → p k < n := fun k hk => by
    by_cases c : k = m
    · rw [c]; exact (hA.rng _ _ hdm).2
    · exact (hA.rng (p k) (p (k + 1)) ((hw.beside k (k + 1) hk (by omega)).2 (.inl rfl))).1
  have hlt : ∀ k, k ≤ m → k ≠ i → pos (p i) < pos (p k) := fun k hk hki => by
    have h1 : pos (p i) ≤ pos (p k) := hmin k hk
    have h2 : pos (p i) ≠ pos (p k) := fun e => hki (hw.once i k hi hk (hp _ _ (hpn i hi) (hpn k hk) e)).symm
    omega
  have b : ∀ k, k ≤ m → (k + 1 = i ∨ k = i + 1) → A (p i) (p k) = true := fun k hk h => (hw.beside i k hi hk).2 (by omega)
  by_cases hd : pos d < pos (p i)
  · have h1 := hL d (p 0) (p m) (Nat.lt_of_lt_of_le hd (hmin 0 (by omega))) (Nat.lt_of_lt_of_le hd (hmin m (Nat.le_refl m))) h0 hdm (fun e => by have := hw.once 0 m (by omega) (Nat.le_refl m) e; omega)
    have h2 := (hw.beside 0 m (by omega) (Nat.le_refl m)).1 h1
    omega
  · have hd2 : pos (p i) < pos d := by
      have h2 : pos (p i) ≠ pos d := fun e => hne i hi (hp _ _ (hpn i hi) hdn e).symm
      omega
    by_cases c0 : i = 0
    · have h1 := hL (p i) (p 1) d (hlt 1 (by omega) (by omega)) hd2 (b 1 (by omega) (by omega)) (by rw [hA.sym, c0]; exact h0) (fun e => hne 1 (by omega) e.symm)
      rw [hA.sym, hdi 1 (by omega) (by omega)] at h1
      cases h1
    · by_cases cm : i = m
      · have h1 := hL (p i) (p (m - 1)) d (hlt (m - 1) (by omega) (by omega)) hd2 (b (m - 1) (by omega) (by omega)) (by rw [hA.sym, cm]; exact hdm) (fun e => hne (m - 1) (by omega) e.symm)
        rw [hA.sym, hdi (m - 1) (by omega) (by omega)] at h1
        cases h1
      · have h1 := hL (p i) (p (i - 1)) (p (i + 1)) (hlt (i - 1) (by omega) (by omega)) (hlt (i + 1) (by omega) (by omega)) (b (i - 1) (by omega) (by omega)) (b (i + 1) (by omega) (by omega)) (fun e => by have := hw.once (i - 1) (i + 1) (by omega) (by omega) e; omega)
        have h2 := (hw.beside (i - 1) (i + 1) (by omega) (by omega)).1 h1
        omega
/-- who is chosen has most chosen beside it -/
def Most (A : Nat → Nat → Bool) (n : Nat) (c : Nat → Nat) : Prop := ∀ x y z, z < n → y < n → c x < c y → c y < c z → A x z = true → A x y = false → ∃ d, c d < c y ∧ A d y = true ∧ A d z = false
theorem ex_first (q : Nat → Bool) (a : Nat) : ∀ N, a ≤ N → q N = true → ∃ j, a ≤ j ∧ j ≤ N ∧ q j = true ∧ ∀ k, a ≤ k → k < j → q k = false := by
  intro N
  induction N using Nat.strongRecOn with
  | ind N ih =>
    intro ha hq
    by_cases c : ∃ k, a ≤ k ∧ k < N ∧ q k = true
    · obtain ⟨k, h1, h2, h3⟩ := c
      obtain ⟨j, j1, j2, j3, j4⟩ := ih k h2 h1 h3
      exact ⟨j, j1, by omega, j3, j4⟩
    · refine ⟨N, ha, Nat.le_refl _, hq, fun k h1 h2 => ?_⟩
      cases h : q k with
      | false => rfl
      | true => exact absurd ⟨k, h1, h2, h⟩ c
theorem way_back {A : Nat → Nat → Bool} {p : Nat → Nat} {m : Nat} (h : Way A p m) : Way A (fun i => p (m - i)) m :=
  ⟨fun i k hi hk => by
    have := h.beside (m - i) (m - k) (by omega) (by omega)
    rw [this]
    omega, fun i k hi hk e => by
    have := h.once (m - i) (m - k) (by omega) (by omega) e
    omega⟩
theorem no_way {n : Nat} {A : Nat → Nat → Bool} (hA : Gr n A) (pos : Nat → Nat) (hp : ∀ x y, x < n → y < n → pos x = pos y → x = y) (hL : Late A pos) (c : Nat → Nat) (hc : ∀ x y, x < n → y < n → c x = c y → x = y) (hM : Most A n c) :
    ∀ (N : Nat) (p : Nat → Nat) (m : Nat), 2 ≤ m → Way A p m → (∀ i, 0 < i → i < m → c (p m) < c (p i)) → c (p 0) < c (p m) → c (p m) = N → False := by
  intro N
  induction N using Nat.strongRecOn with
  | ind N ih =>
    intro p m hm hw hi h0 hN
    have hpn : ∀ k, k ≤ m → p k < n := fun k hk => by
      by_cases e : k = m
      · rw [e]; exact (hA.rng (p (m - 1)) (p m) ((hw.beside (m - 1) m (by omega) (Nat.le_refl m)).2 (by omega))).2
      · exact (hA.rng (p k) (p (k + 1)) ((hw.beside k (k + 1) hk (by omega)).2 (.inl rfl))).1
    have e0m : A (p 0) (p m) = false := by
      cases h : A (p 0) (p m) with
      | false => rfl
      | true => have := (hw.beside 0 m (by omega) (Nat.le_refl m)).1 h; omega
    obtain ⟨d, d1, d2, d3⟩ := hM (p 0) (p m) (p 1) (hpn 1 (by omega)) (hpn m (Nat.le_refl m)) h0 (hi 1 (by omega) (by omega)) ((hw.beside 0 1 (by omega) (by omega)).2 (.inl rfl)) e0m
    have hdn : d < n := (hA.rng _ _ d2).1
    obtain ⟨j, j1, j2, j3, j4⟩ := ex_first (fun j => A d (p j)) 1 m (by omega) d2
    have hj2 : 2 ≤ j := by
      rcases Nat.lt_or_ge j 2 with h | h
      · obtain rfl : j = 1 := by omega
        simp only [d3] at j3
        cases j3
      · exact h
    have hne : ∀ i, i ≤ m → d ≠ p i := fun i him e => by
      by_cases e0 : i = 0
      · rw [e, e0, e0m] at d2; cases d2
      · by_cases em : i = m
        · rw [e, em, hA.irr] at d2; cases d2
        · have := hi i (by omega) (by omega); rw [← e] at this; omega
    have hwj : Way A p j := ⟨fun i k h1 h2 => hw.beside i k (by omega) (by omega), fun i k h1 h2 => hw.once i k (by omega) (by omega)⟩
    have hjm : ∀ i, 0 < i → i ≤ j → c (p m) ≤ c (p i) := fun i h1 h2 => by
      by_cases e : i = m
      · rw [e]; exact Nat.le_refl _
      · exact Nat.le_of_lt (hi i h1 (by omega))
    cases hd0 : A d (p 0) with
    | true => exact no_ring hA pos hp hL p j hj2 hwj d hd0 j3 (fun i h1 h2 => j4 i (by omega) h2) (fun i h => hne i (by omega))
    | false =>
      have hq : Way A (fun i => if i ≤ j then p i else d) (j + 1) := by
        have key : ∀ i, i ≤ j → (A d (p i) = true ↔ i = j) := fun i h => by
          constructor
          · intro h1
            rcases Nat.eq_zero_or_pos i with e | e
            · rw [e, hd0] at h1; cases h1
            · rcases Nat.lt_or_ge i j with h2 | h2
              · have h3 : A d (p i) = false := j4 i (by omega) h2
                rw [h3] at h1; cases h1
              · omega
          · rintro rfl; exact j3
        refine ⟨fun i k h1 h2 => ?_, fun i k h1 h2 => ?_⟩
        · by_cases a1 : i ≤ j
          · by_cases a2 : k ≤ j
            · simp only [if_pos a1, if_pos a2]; exact hwj.beside i k a1 a2
            · simp only [if_pos a1, if_neg a2]
              rw [hA.sym, key i a1]; omega
          · by_cases a2 : k ≤ j
            · simp only [if_neg a1, if_pos a2]
              rw [key k a2]; omega
            · simp only [if_neg a1, if_neg a2]
              rw [hA.irr]
              constructor
              · intro h; cases h
              · intro h; omega
        · by_cases a1 : i ≤ j
          · by_cases a2 : k ≤ j
            · simp only [if_pos a1, if_pos a2]; exact hwj.once i k a1 a2
            · simp only [if_pos a1, if_neg a2]
              intro e; exact absurd e.symm (hne i (by omega))
          · by_cases a2 : k ≤ j
            · simp only [if_neg a1, if_pos a2]
              intro e; exact absurd e (hne k (by omega))
            · intro _; omega
      have hcd : c (p 0) ≠ c d := fun e => hne 0 (by omega) (hc _ _ (hpn 0 (by omega)) hdn e).symm
      rcases Nat.lt_or_ge (c (p 0)) (c d) with h | h
      · refine ih (c d) (by omega) (fun i => if i ≤ j then p i else d) (j + 1) (by omega) hq (fun i h1 h2 => ?_) ?_ ?_
        · simp only [if_neg (show ¬ j + 1 ≤ j by omega), if_pos (show i ≤ j by omega)]
          have := hjm i h1 (by omega); omega
        · simp only [if_neg (show ¬ j + 1 ≤ j by omega), if_pos (Nat.zero_le j)]
          exact h
        · simp only [if_neg (show ¬ j + 1 ≤ j by omega)]
      · refine ih (c (p 0)) (by omega) (fun i => (fun i => if i ≤ j then p i else d) (j + 1 - i)) (j + 1) (by omega) (way_back hq) (fun i h1 h2 => ?_) ?_ ?_
        · simp only [Nat.sub_self, if_pos (Nat.zero_le j), if_pos (show j + 1 - i ≤ j by omega)]
          have := hjm (j + 1 - i) (by omega) (by omega); omega
        · simp only [Nat.sub_self, if_pos (Nat.zero_le j), Nat.sub_zero, if_neg (show ¬ j + 1 ≤ j by omega)]
          omega
        · simp only [Nat.sub_self, if_pos (Nat.zero_le j)]
/-- the theorem: who is chosen earlier, beside a point, is beside each other one such -/
theorem mcs {n : Nat} {A : Nat → Nat → Bool} (hA : Gr n A) (pos : Nat → Nat) (hp : ∀ x y, x < n → y < n → pos x = pos y → x = y) (hL : Late A pos) (c : Nat → Nat) (hc : ∀ x y, x < n → y < n → c x = c y → x = y) (hM : Most A n c)
    (v a b : Nat) (ha : c a < c v) (hb : c b < c v) (hva : A v a = true) (hvb : A v b = true) (hab : a ≠ b) : A a b = true := by
  cases h : A a b with
  | true => rfl
  | false =>
    exfalso
    have main : ∀ a b, c a < c v → c b < c v → A v a = true → A v b = true → a ≠ b → A a b = false → c a < c b → False := by
      intro a b ha hb hva hvb hab h hlt
      have hne1 : a ≠ v := fun e => by rw [e, hA.irr] at hva; cases hva
      have hne2 : b ≠ v := fun e => by rw [e, hA.irr] at hvb; cases hvb
      refine no_way hA pos hp hL c hc hM (c b) (fun i => if i = 0 then a else if i = 1 then v else b) 2 (Nat.le_refl 2) ⟨fun i k hi hk => ?_, fun i k hi hk => ?_⟩ (fun i h1 h2 => ?_) hlt rfl
      · obtain rfl | rfl | rfl : i = 0 ∨ i = 1 ∨ i = 2 := by omega
        all_goals obtain rfl | rfl | rfl : k = 0 ∨ k = 1 ∨ k = 2 := by omega
        all_goals simp [hA.irr, hva, hvb, h, hA.sym a v, hA.sym b v, hA.sym b a]
      · obtain rfl | rfl | rfl : i = 0 ∨ i = 1 ∨ i = 2 := by omega
        all_goals obtain rfl | rfl | rfl : k = 0 ∨ k = 1 ∨ k = 2 := by omega
        all_goals simp [hab, hne1, hne2, Ne.symm hab, Ne.symm hne1, Ne.symm hne2]
      · obtain rfl : i = 1 := by omega
        simpa using hb
    rcases Nat.lt_or_ge (c a) (c b) with hlt | hge
    · exact main a b ha hb hva hvb hab h hlt
    · have hne : c a ≠ c b := fun e => hab (hc _ _ (hA.rng _ _ hva).2 (hA.rng _ _ hvb).2 e)
      exact main b a hb ha hvb hva (Ne.symm hab) (by rw [hA.sym]; exact h) (by omega)
end Go.Proofs.YtopjffgmpphdbaaDoor.Mcs

set_option linter.unusedVariables false
set_option linter.unusedSimpArgs false
namespace Go.Proofs.YtopjffgmpphdbaaDoor.Pr
open Go.RowKit Go.Proofs.YtopjffgmpphdbaaDoorW.PrintWords Go.Proofs.YtopjffgmpphdbaaDoorW.PrintLast Go.Proofs.YtopjffgmpphdbaaDoorW.PrintMore

theorem Sy.gr {n : Nat} {f : Nat → Nat → Bool} (h : Sy n f) : Mcs.Gr n f := ⟨h.1, h.2.1, h.2.2⟩
/-- among those that are left -/
def rst (f : Nat → Nat → Bool) (left : Nat → Bool) : Nat → Nat → Bool := fun p q => f p q && (left p && left q)
theorem rst_iff (f : Nat → Nat → Bool) (left : Nat → Bool) (p q : Nat) : rst f left p q = true ↔ f p q = true ∧ left p = true ∧ left q = true := by unfold rst; simp
theorem Sy.rst {n : Nat} {f : Nat → Nat → Bool} (h : Sy n f) (left : Nat → Bool) : Sy n (rst f left) := by
  refine ⟨fun p q => ?_, fun p => ?_, fun p q e => h.2.2 p q ((rst_iff _ _ _ _).1 e).1⟩
  · unfold Pr.rst; rw [h.1 p q, Bool.and_comm (left p)]
  · unfold Pr.rst; rw [h.2.1 p]; rfl
theorem without_iff (left : Nat → Bool) (v k : Nat) : without left v k = true ↔ left k = true ∧ v ≠ k := by unfold without; simp
def Simp (f : Nat → Nat → Bool) : List Int → Prop
  | [] => True
  | v :: L => (∀ a ∈ L, ∀ b ∈ L, f v.toNat a.toNat = true → f v.toNat b.toNat = true → a ≠ b → f a.toNat b.toNat = true) ∧ Simp f L
theorem simp_of (f : Nat → Nat → Bool) : ∀ L : List Int, (∀ i, i < L.length → ∀ a ∈ L.drop (i + 1), ∀ b ∈ L.drop (i + 1), f (rd L (i : Int)).toNat a.toNat = true → f (rd L (i : Int)).toNat b.toNat = true → a ≠ b → f a.toNat b.toNat = true) → Simp f L
  | [], _ => trivial
  | v :: L, h => by
    refine ⟨fun a ha b hb => h 0 (by simp) a ha b hb, simp_of f L (fun i hi a ha b hb => ?_)⟩
    have h2 := h (i + 1) (by simp; omega) a ha b hb
    have e : rd (v :: L) ((i + 1 : Nat) : Int) = rd L (i : Int) := by
      rw [rd_nat (v :: L) (i + 1) (L[i]) (by simp [hi]), rd_nat L i _ (List.getElem?_eq_getElem hi)]
    rw [e] at h2
    exact h2
/-! ### each point of the run, as it went -/
theorem plan_at (how : Int) (n : Nat) (f0 : Nat → Nat → Bool) : ∀ (kk : Nat) (f : Nat → Nat → Bool) (left : Nat → Bool) (j v : Nat), (planT how n f0 kk f left)[j]? = some (v : Int) →
    ∃ f' left', left' v = true ∧ v < n ∧ leastF (wT how n f0 f' left') (ofT n left') = (v : Int) ∧ ∀ k : Nat, left' k = true ↔ (left k = true ∧ (k : Int) ∉ (planT how n f0 kk f left).take j)
  | 0, f, left, j, v, h => by rw [planT] at h; simp at h
  | kk + 1, f, left, j, v, h => by
    rw [planT] at h
    by_cases c : ofT n left = []
    · rw [if_pos c] at h; simp at h
    · rw [if_neg c] at h
      obtain ⟨u, hu, hlu, eu⟩ := least9 (wT how n f0 f left) c
      simp only [eu, Int.toNat_natCast] at h
      have ep : planT how n f0 (kk + 1) f left = (u : Int) :: planT how n f0 kk (if how = 3 then f else goT f u) (without left u) := by
        rw [planT, if_neg c]; simp only [eu, Int.toNat_natCast]
      cases j with
      | zero =>
        rw [List.getElem?_cons_zero] at h
        have : u = v := by have := Option.some.inj h; omega
        subst this
        exact ⟨f, left, hlu, hu, eu, fun k => by simp⟩
      | succ j =>
        rw [List.getElem?_cons_succ] at h
        obtain ⟨f', left', h1, h2, h3, h4⟩ := plan_at how n f0 kk _ _ j v h
        refine ⟨f', left', h1, h2, h3, fun k => ?_⟩
        rw [h4, ep, List.take_succ_cons, List.mem_cons, without_iff]
        constructor
        · rintro ⟨⟨a, b⟩, d⟩; exact ⟨a, fun e => e.elim (fun e => b (by omega)) d⟩
        · rintro ⟨a, b⟩; exact ⟨⟨a, fun e => b (.inl (by omega))⟩, fun e => b (.inr e)⟩
theorem mem_take_idx {L : List Int} (hd : L.Nodup) (x : Int) (hx : x ∈ L) (j : Nat) : x ∈ L.take j ↔ L.idxOf x < j := by
  constructor
  · intro h
    obtain ⟨i, hi, e⟩ := List.getElem_of_mem h
    rw [List.length_take] at hi
    rw [List.getElem_take] at e
    have := List.Nodup.idxOf_getElem hd i (by omega)
    rw [e] at this
    omega
  · intro h
    have hl := List.idxOf_lt_length_of_mem hx
    have e := List.getElem_idxOf hl
    rw [← e]
    have e2 : (L.take j)[L.idxOf x]'(by rw [List.length_take]; omega) = L[L.idxOf x] := List.getElem_take
    rw [← e2]
    exact List.getElem_mem _
theorem countP_lt {l : List Nat} {p q : Nat → Bool} (h : ∀ x ∈ l, p x = true → q x = true) {z : Nat} (hz : z ∈ l) (h1 : q z = true) (h2 : p z = false) : l.countP p < l.countP q := by
  induction l with
  | nil => cases hz
  | cons y l ih =>
    rw [List.countP_cons, List.countP_cons]
    have hle : l.countP p ≤ l.countP q := List.countP_mono_left (fun x hx hp => h x (List.mem_cons_of_mem _ hx) hp)
    rcases List.mem_cons.1 hz with rfl | hz
    · rw [h1, h2]; simp; omega
    · have := ih (fun x hx => h x (List.mem_cons_of_mem _ hx)) hz
      have hy := h y List.mem_cons_self
      cases hp : p y with
      | false => simp; omega
      | true => rw [hy hp]; simp; omega
theorem card_most (n : Nat) (hn : n ≤ 64) (f : Nat → Nat → Bool) (hf : Sy n f) : Mcs.Most f n (fun x => (planT 3 n f 64 f fun _ => true).idxOf (x : Int)) := by
  intro x y z hz hy hxy hyz hxz hxy0
  obtain ⟨L, hL⟩ : ∃ L, L = planT 3 n f 64 f (fun _ => true) := ⟨_, rfl⟩
  have hperm : L.Perm (idI n) := by
    have h := planT_perm 3 n f 64 f (fun _ => true) (by rw [ofT_all]; exact hn)
    rw [ofT_id, ← hL] at h; exact h
  have hnd : L.Nodup := hperm.nodup_iff.2 (idI_nodup n)
  have hin : ∀ k, k < n → (k : Int) ∈ L := fun k hk => hperm.mem_iff.2 (mem_idI.2 ⟨k, hk, rfl⟩)
  simp only [← hL] at hxy hyz ⊢
  have hget : L[L.idxOf (y : Int)]? = some (y : Int) := by
    rw [List.getElem?_eq_getElem (List.idxOf_lt_length_of_mem (hin y hy)), List.getElem_idxOf]
  rw [hL] at hget
  obtain ⟨f', left', h1, h2, h3, h4⟩ := plan_at 3 n f 64 f (fun _ => true) _ y hget
  rw [← hL] at h4
  have hleft : ∀ k, k < n → (left' k = true ↔ ¬ L.idxOf (k : Int) < L.idxOf (y : Int)) := fun k hk => by
    rw [h4 k, mem_take_idx hnd _ (hin k hk)]
    simp
  have hxn := (hf.2.2 _ _ hxz).1
  have hzl : left' z = true := (hleft z hz).2 (by omega)
  have hleast := leastF_least (wT 3 n f f' left') (ofT n left') (fun x hx => ofT_nn hx) (ofT_rising n left') (z : Int) (mem_ofT.2 ⟨z, hz, hzl, rfl⟩)
  rw [h3] at hleast
  have hcc : cardC n f left' z ≤ cardC n f left' y := by
    have h5 := hleast.1
    unfold wT at h5
    rw [if_neg (by decide), if_neg (by decide), if_neg (by decide), if_neg (by decide), Int.toNat_natCast, Int.toNat_natCast] at h5
    omega
  apply Classical.byContradiction
  intro hno
  have hlt : cardC n f left' y < cardC n f left' z := by
    unfold cardC
    refine countP_lt (z := x) (fun k hk hp => ?_) (List.mem_range.2 hxn) ?_ ?_
    · have hkn := List.mem_range.1 hk
      simp only [Bool.and_eq_true, Bool.not_eq_true'] at hp ⊢
      refine ⟨?_, hp.2⟩
      cases hc : f z k with
      | true => rfl
      | false =>
        refine absurd ⟨k, ?_, by rw [hf.1]; exact hp.1, by rw [hf.1]; exact hc⟩ hno
        have := hleft k hkn
        rw [hp.2] at this
        simpa using this
    · simp only [Bool.and_eq_true, Bool.not_eq_true']
      refine ⟨by rw [hf.1]; exact hxz, ?_⟩
      cases hc : left' x with
      | false => rfl
      | true => exact absurd hxy ((hleft x hxn).1 hc)
    · rw [hf.1, hxy0]; rfl
  omega
theorem card_simp (n : Nat) (hn : n ≤ 64) (f : Nat → Nat → Bool) (hf : Sy n f) (pos : Nat → Nat) (hp : ∀ x y, x < n → y < n → pos x = pos y → x = y) (hL : Mcs.Late f pos) : Simp f (orderT 3 n f) := by
  obtain ⟨L, hLL⟩ : ∃ L, L = planT 3 n f 64 f (fun _ => true) := ⟨_, rfl⟩
  have hperm : L.Perm (idI n) := by
    have h := planT_perm 3 n f 64 f (fun _ => true) (by rw [ofT_all]; exact hn)
    rw [ofT_id, ← hLL] at h; exact h
  have hnd : L.Nodup := hperm.nodup_iff.2 (idI_nodup n)
  have hin : ∀ k, k < n → (k : Int) ∈ L := fun k hk => hperm.mem_iff.2 (mem_idI.2 ⟨k, hk, rfl⟩)
  have hlen : L.length = n := by rw [hperm.length_eq, idI_len]
  have hmost := card_most n hn f hf
  rw [← hLL] at hmost
  have hinj : ∀ x y, x < n → y < n → L.idxOf (x : Int) = L.idxOf (y : Int) → x = y := fun x y hx hy e => by
    have e1 := List.getElem_idxOf (List.idxOf_lt_length_of_mem (hin x hx))
    have e2 := List.getElem_idxOf (List.idxOf_lt_length_of_mem (hin y hy))
    have : (x : Int) = (y : Int) := by rw [← e1, ← e2]; congr 1
    omega
  have hmcs := Mcs.mcs hf.gr pos hp hL (fun x => L.idxOf (x : Int)) hinj hmost
  unfold orderT
  rw [if_pos rfl, ← hLL]
  refine simp_of f _ (fun i hi a ha b hb h1 h2 hab => ?_)
  rw [List.length_reverse] at hi
  have hr : rd L.reverse (i : Int) = L[L.length - 1 - i]'(by omega) := by
    refine rd_nat _ i _ ?_
    rw [List.getElem?_reverse hi, List.getElem?_eq_getElem]
  rw [hr] at h1 h2
  have hv : L[L.length - 1 - i]'(by omega) ∈ L := List.getElem_mem _
  have hidx := List.Nodup.idxOf_getElem hnd (L.length - 1 - i) (by omega)
  obtain ⟨v, hvn, ev⟩ := mem_idI.1 (hperm.mem_iff.1 hv)
  rw [ev] at h1 h2 hidx
  have hmem : ∀ x ∈ L.reverse.drop (i + 1), x ∈ L.take (L.length - (i + 1)) := fun x hx => by
    rw [List.drop_reverse] at hx
    exact List.mem_reverse.1 hx
  have ha2 := hmem a ha
  have hb2 := hmem b hb
  obtain ⟨a', han, rfl⟩ := mem_idI.1 (hperm.mem_iff.1 (List.mem_of_mem_take ha2))
  obtain ⟨b', hbn, rfl⟩ := mem_idI.1 (hperm.mem_iff.1 (List.mem_of_mem_take hb2))
  rw [mem_take_idx hnd _ (hin a' han)] at ha2
  rw [mem_take_idx hnd _ (hin b' hbn)] at hb2
  rw [Int.toNat_natCast] at h1 h2 ⊢
  rw [Int.toNat_natCast] at h1 h2
  rw [Int.toNat_natCast]
  exact hmcs v a' b' (by show L.idxOf (a' : Int) < L.idxOf (v : Int); omega) (by show L.idxOf (b' : Int) < L.idxOf (v : Int); omega) h1 h2 (fun e => hab (by rw [e]))
end Go.Proofs.YtopjffgmpphdbaaDoor.Pr

set_option linter.unusedVariables false
set_option linter.unusedSimpArgs false
namespace Go.Proofs.YtopjffgmpphdbaaDoor.Pr
open Go.RowKit Go.Proofs.YtopjffgmpphdbaaDoorW.PrintWords Go.Proofs.YtopjffgmpphdbaaDoorW.PrintLast Go.Proofs.YtopjffgmpphdbaaDoorW.PrintMore

def joinOne (h : Nat → Nat → Bool) (a : Nat) (bs : List Nat) : Nat → Nat → Bool := fun i k => h i k || (decide (i = a ∧ k ∈ bs) || decide (k = a ∧ i ∈ bs))
def joinBd (h : Nat → Nat → Bool) (l : List Nat) : Nat → Nat → Bool := fun i k => h i k || decide (i ∈ l ∧ k ∈ l ∧ i ≠ k)
theorem joinIn_gW {n : Nat} (hn : n ≤ 40) (a : Nat) (ha : a < n) : ∀ (bs : List Nat) (h : Nat → Nat → Bool), (∀ b ∈ bs, b < n) → a ∉ bs → joinIn (a : Int) (gI bs) (gI (gW n h)) = some (gI (gW n (joinOne h a bs)))
  | [], h, _, _ => by
    show some _ = some _
    congr 2
    exact gW_congr (fun i k _ _ => by unfold joinOne; simp)
  | b :: bs, h, hb, hna => by
    have hbn := hb b List.mem_cons_self
    have hab : a ≠ b := fun e => hna (e ▸ List.mem_cons_self)
    show (graph_Join.f (gI (gW n h)) (a : Int) (b : Int)).bind _ = _
    rw [(join_f (gW n h) (gW_ok (by omega) h) (by rw [gW_len]; omega) (a : Int) (b : Int)).1, Option.bind_some, joinW_gW h ha hbn hab]
    show joinIn (a : Int) (gI bs) (gI (gW n (addE h a b))) = _
    rw [joinIn_gW hn a ha bs (addE h a b) (fun c hc => hb c (List.mem_cons_of_mem _ hc)) (fun hc => hna (List.mem_cons_of_mem _ hc))]
    congr 2
    refine gW_congr (fun i k _ _ => ?_)
    unfold joinOne addE
    rw [Bool.eq_iff_iff]
    simp only [Bool.or_eq_true, decide_eq_true_eq, List.mem_cons]
    constructor
    · rintro ((h1 | h1 | h1) | h1 | h1)
      · exact .inl h1
      · exact .inr (.inl ⟨h1.1, .inl h1.2⟩)
      · exact .inr (.inr ⟨h1.2, .inl h1.1⟩)
      · exact .inr (.inl ⟨h1.1, .inr h1.2⟩)
      · exact .inr (.inr ⟨h1.1, .inr h1.2⟩)
    · rintro (h1 | ⟨h1, h2 | h2⟩ | ⟨h1, h2 | h2⟩)
      · exact .inl (.inl h1)
      · exact .inl (.inr (.inl ⟨h1, h2⟩))
      · exact .inr (.inl ⟨h1, h2⟩)
      · exact .inl (.inr (.inr ⟨h2, h1⟩))
      · exact .inr (.inr ⟨h1, h2⟩)
theorem gI_take (l : List Nat) (i : Nat) : (gI l).take i = gI (l.take i) := by unfold gI; rw [List.map_take]
theorem hm' {bd : List Nat} (hd : bd.Nodup) {i : Nat} (hi : i < bd.length) : wAt bd i ∉ bd.take i := fun h => by
  obtain ⟨q, hq, e⟩ := List.getElem_of_mem h
  rw [List.length_take] at hq
  rw [List.getElem_take, wAt_get bd i hi] at e
  have := nodup_at hd (by omega) hi e
  omega
theorem joinAll_gW {n : Nat} (hn : n ≤ 40) (bd : List Nat) (hb : ∀ b ∈ bd, b < n) (hd : bd.Nodup) (h : Nat → Nat → Bool) (d : Nat) : ∀ i, i + d = bd.length → joinAll (gI bd) d i (gI (gW n (joinBd h (bd.take i)))) = some (gI (gW n (joinBd h bd))) := by
  induction d with
  | zero =>
    intro i hi
    obtain rfl : i = bd.length := by omega
    rw [joinAll, List.take_length]
  | succ d ih =>
    intro i hi
    have hil : i < bd.length := by omega
    rw [joinAll, gI_rd, gI_take, joinIn_gW hn (wAt bd i) (hb _ (wAt_in hil)) (bd.take i) _ (fun b hb2 => hb b (List.mem_of_mem_take hb2)) (fun hm => ?_), Option.bind_some]
    · rw [show gW n (joinOne (joinBd h (bd.take i)) (wAt bd i) (bd.take i)) = gW n (joinBd h (bd.take (i + 1))) from ?_]
      · exact ih (i + 1) (by omega)
      · refine gW_congr (fun p q _ _ => ?_)
        unfold joinOne joinBd
        rw [take_one bd i hil, Bool.eq_iff_iff]
        simp only [Bool.or_eq_true, decide_eq_true_eq, List.mem_append, List.mem_singleton]
        constructor
        · rintro ((h1 | h1) | h1 | h1)
          · exact .inl h1
          · exact .inr ⟨.inl h1.1, .inl h1.2.1, h1.2.2⟩
          · exact .inr ⟨.inr h1.1, .inl h1.2, fun e => hm' hd hil (by rw [← h1.1, e]; exact h1.2)⟩
          · exact .inr ⟨.inl h1.2, .inr h1.1, fun e => hm' hd hil (by rw [← h1.1, ← e]; exact h1.2)⟩
        · rintro (h1 | ⟨h1 | h1, h2 | h2, h3⟩)
          · exact .inl (.inl h1)
          · exact .inl (.inr ⟨h1, h2, h3⟩)
          · exact .inr (.inr ⟨h2, h1⟩)
          · exact .inr (.inl ⟨h1, h2⟩)
          · exact absurd (h1.trans h2.symm) h3
    · exact hm' hd hil hm
/-! ### the points go -/
def laterN (n : Nat) (h : Nat → Nat → Bool) (left : Nat → Bool) (v : Nat) : List Nat := (nbN n h v).filter left
def bagT (n : Nat) (h : Nat → Nat → Bool) (left : Nat → Bool) (v : Nat) : List Int := ofT n fun k => decide (k = v) || (h v k && left k)
def fillB (n : Nat) : List Nat → (Nat → Nat → Bool) → (Nat → Bool) → List (List Int) × (Nat → Nat → Bool)
  | [], h, _ => ([], h)
  | v :: l, h, left => (bagT n h left v :: (fillB n l (joinBd h (laterN n h left v)) (without left v)).1, (fillB n l (joinBd h (laterN n h left v)) (without left v)).2)
theorem joinBd_sy {n : Nat} {h : Nat → Nat → Bool} (hh : Sy n h) {l : List Nat} (hl : ∀ x ∈ l, x < n) : Sy n (joinBd h l) := by
  refine ⟨fun i k => ?_, fun i => ?_, fun i k e => ?_⟩
  · unfold joinBd
    rw [hh.1 i k]
    congr 1
    rw [Bool.eq_iff_iff, decide_eq_true_iff, decide_eq_true_iff]
    exact ⟨fun ⟨a, b, c⟩ => ⟨b, a, Ne.symm c⟩, fun ⟨a, b, c⟩ => ⟨b, a, Ne.symm c⟩⟩
  · unfold joinBd; rw [hh.2.1 i]; simp
  · unfold joinBd at e
    simp only [Bool.or_eq_true, decide_eq_true_eq] at e
    rcases e with e | e
    · exact hh.2.2 _ _ e
    · exact ⟨hl _ e.1, hl _ e.2.1⟩
theorem mem_laterN {n : Nat} {h : Nat → Nat → Bool} {left : Nat → Bool} {v x : Nat} : x ∈ laterN n h left v ↔ x < n ∧ h v x = true ∧ left x = true := by
  unfold laterN
  rw [List.mem_filter, mem_nbN]
  exact ⟨fun ⟨⟨a, b⟩, c⟩ => ⟨a, b, c⟩, fun ⟨a, b, c⟩ => ⟨⟨a, b⟩, c⟩⟩
theorem len_sub : ∀ {xs l : List Int}, xs.Nodup → (∀ x ∈ xs, x ∈ xs) → (∀ x ∈ xs, x ∈ l) → xs.length ≤ l.length
  | [], _, _, _, _ => Nat.zero_le _
  | x :: xs, l, hd, _, hin => by
    have hx := hin x List.mem_cons_self
    have h1 := (List.perm_cons_erase hx).length_eq
    have h2 := len_sub (l := l.erase x) (List.nodup_cons.1 hd).2 (fun _ h => h) (fun y hy => by
      have hne : y ≠ x := fun e => (List.nodup_cons.1 hd).1 (e ▸ hy)
      exact (List.mem_erase_of_ne hne).2 (hin y (List.mem_cons_of_mem _ hy)))
    rw [h1, List.length_cons, List.length_cons]
    omega
theorem bag_sorted {n : Nat} {h : Nat → Nat → Bool} (hh : Sy n h) (left : Nat → Bool) (v : Nat) (hv : v < n) : SortedSeq.sortZ (gI (laterN n h left v) ++ [(v : Int)]) = bagT n h left v := by
  refine SortedSeq.sortZ_uniq ((SortedSeq.sortZ_perm _).trans ?_) (SortedSeq.sortZ_sorted _) ((ofT_rising n _).imp (fun h => by omega))
  have hnd : (laterN n h left v).Nodup := List.Nodup.sublist List.filter_sublist (nbN_nodup n h v)
  have h1 : (gI (laterN n h left v) ++ [(v : Int)]).Nodup := by
    rw [List.nodup_append]
    refine ⟨?_, by simp, fun a ha b hb => ?_⟩
    · unfold gI
      rw [List.Nodup, List.pairwise_map]
      exact hnd.imp (fun h e => h (by omega))
    · unfold gI at ha
      obtain ⟨x, hx, rfl⟩ := List.mem_map.1 ha
      have hvx := (mem_laterN.1 hx).2.1
      rw [List.mem_singleton] at hb
      rw [hb]
      intro e
      have : x = v := by omega
      rw [this, hh.2.1] at hvx
      cases hvx
  have hmem : ∀ x : Int, x ∈ gI (laterN n h left v) ++ [(v : Int)] ↔ x ∈ bagT n h left v := fun x => by
    unfold bagT
    rw [mem_ofT, List.mem_append, List.mem_singleton]
    unfold gI
    rw [List.mem_map]
    constructor
    · rintro (⟨y, hy, rfl⟩ | rfl)
      · have h3 := mem_laterN.1 hy
        exact ⟨y, h3.1, by simp [h3.2.1, h3.2.2], rfl⟩
      · exact ⟨v, hv, by simp, rfl⟩
    · rintro ⟨y, hy, h3, rfl⟩
      simp only [Bool.or_eq_true, decide_eq_true_eq, Bool.and_eq_true] at h3
      rcases h3 with rfl | h3
      · exact .inr rfl
      · exact .inl ⟨y, mem_laterN.2 ⟨hy, h3.1, h3.2⟩, rfl⟩
  have h4 : (bagT n h left v).Nodup := ofT_nodup n _
  exact (perm_of_in _ _ h1 (fun x hx => (hmem x).1 hx) (by
    have := (perm_of_in _ (gI (laterN n h left v) ++ [(v : Int)]) h4 (fun x hx => (hmem x).2 hx))
    exact len_sub h4 (fun x hx => (hmem x).1 ((hmem x).2 hx)) (fun x hx => (hmem x).2 hx))).symm
end Go.Proofs.YtopjffgmpphdbaaDoor.Pr

set_option linter.unusedVariables false
set_option linter.unusedSimpArgs false
namespace Go.Proofs.YtopjffgmpphdbaaDoor.Pr
open Go.RowKit Go.Proofs.YtopjffgmpphdbaaDoorW.PrintWords Go.Proofs.YtopjffgmpphdbaaDoorW.PrintLast Go.Proofs.YtopjffgmpphdbaaDoorW.PrintMore

theorem allGo_gW {n : Nat} (hn : n ≤ 40) : ∀ (l : List Nat) (h : Nat → Nat → Bool) (left : Nat → Bool) (vs : List Int) (bags : List (List Int)), Sy n h → (∀ v ∈ l, v < n ∧ left v = true) → l.Nodup → (∀ k, k < n → (left k = true ↔ (k : Int) ∉ vs)) → bags.length + l.length ≤ 1000 →
    allGo (gI l) (gI (gW n h)) vs bags = some (bags ++ (fillB n l h left).1, gI (gW n (fillB n l h left).2))
  | [], h, left, vs, bags, _, _, _, _, _ => by
    show some (bags, _) = _
    rw [fillB, List.append_nil]
  | v :: l, h, left, vs, bags, hh, hl, hd, hleft, hb => by
    obtain ⟨hv, hlv⟩ := hl v List.mem_cons_self
    have hnb : graph_Neighbors.f (gI (gW n h)) (v : Int) = some (gI (nbN n h v)) := by
      rw [neighbors_f _ (gW_ok (by omega) h)]
      unfold nbL
      rw [gW_len, if_pos (by unfold isP; exact decide_eq_true (by omega)), Int.toNat_natCast, gW_at n h v hv, listN_wd (by omega)]
      rfl
    have hlen := nbN_len n h v
    have hfil : (gI (nbN n h v)).filter (fun a => !decide (a ∈ vs)) = gI (laterN n h left v) := by
      unfold gI laterN
      rw [List.filter_map]
      congr 1
      refine List.filter_congr (fun x hx => ?_)
      have hxn := (mem_nbN.1 hx).1
      have := hleft x hxn
      show (!decide ((x : Int) ∈ vs)) = left x
      rw [Bool.eq_iff_iff, this]
      simp
    have hlin : ∀ x ∈ laterN n h left v, x < n := fun x hx => (mem_laterN.1 hx).1
    have hlnd : (laterN n h left v).Nodup := List.Nodup.sublist List.filter_sublist (nbN_nodup n h v)
    have hj := joinAll_gW hn (laterN n h left v) hlin hlnd h (laterN n h left v).length 0 (by omega)
    rw [show gW n (joinBd h ((laterN n h left v).take 0)) = gW n h from gW_congr (fun i k _ _ => by unfold joinBd; simp)] at hj
    have hh2 := joinBd_sy hh hlin
    have ih := allGo_gW hn l (joinBd h (laterN n h left v)) (without left v) (vs ++ [(v : Int)]) (bags ++ [bagT n h left v]) hh2 (fun x hx => ⟨(hl x (List.mem_cons_of_mem _ hx)).1, (without_iff _ _ _).2 ⟨(hl x (List.mem_cons_of_mem _ hx)).2, fun e => (List.nodup_cons.1 hd).1 (e ▸ hx)⟩⟩) (List.nodup_cons.1 hd).2 (fun k hk => by
      rw [without_iff, hleft k hk, List.mem_append, List.mem_singleton]
      constructor
      · rintro ⟨a, b⟩ (c | c)
        · exact a c
        · exact b (by omega)
      · intro a
        exact ⟨fun c => a (.inl c), fun c => a (.inr (by rw [c]))⟩) (by rw [List.length_append]; simp at hb ⊢; omega)
    show (graph_Neighbors.f (gI (gW n h)) (v : Int)).bind _ = _
    rw [hnb, Option.bind_some, if_pos ⟨by rw [gI_len]; omega, (hleft v hv).1 hlv, by simp at hb; omega⟩, hfil, gI_len, hj, Option.bind_some, bag_sorted hh left v hv]
    show allGo (gI l) _ _ _ = _
    rw [ih, fillB, List.append_assoc]
    rfl
theorem toN_of {n : Nat} {o : List Int} (h : o.Perm (idI n)) : ∃ ln : List Nat, o = gI ln ∧ ln.Nodup ∧ ∀ x ∈ ln, x < n := by
  refine ⟨o.map Int.toNat, ?_, ?_, fun x hx => ?_⟩
  · unfold gI
    rw [List.map_map]
    conv => lhs; rw [← List.map_id o]
    refine List.map_congr_left (fun x hx => ?_)
    obtain ⟨k, _, rfl⟩ := mem_idI.1 (h.mem_iff.1 hx)
    rfl
  · have hd : o.Nodup := h.nodup_iff.2 (idI_nodup n)
    rw [List.Nodup, List.pairwise_map]
    refine List.Pairwise.imp_of_mem (fun ha hb hne e => hne ?_) hd
    obtain ⟨a, _, rfl⟩ := mem_idI.1 (h.mem_iff.1 ha)
    obtain ⟨b, _, rfl⟩ := mem_idI.1 (h.mem_iff.1 hb)
    rw [Int.toNat_natCast, Int.toNat_natCast] at e
    rw [e]
  · obtain ⟨y, hy, rfl⟩ := List.mem_map.1 hx
    obtain ⟨k, hk, rfl⟩ := mem_idI.1 (h.mem_iff.1 hy)
    rw [Int.toNat_natCast]; exact hk
def allL : Nat → Bool := fun _ => true
theorem all_f {n : Nat} (hn : n ≤ 40) {f : Nat → Nat → Bool} (hf : Sy n f) {ln : List Nat} (ho : (gI ln).Perm (idI n)) (hd : ln.Nodup) (hl : ∀ x ∈ ln, x < n) : fill_all.f (gI (gW n f)) (gI ln) = some ((fillB n ln f allL).1, gI (gW n (fillB n ln f allL).2), 0) := by
  have hlen : ln.length = n := by have := ho.length_eq; rw [gI_len, idI_len] at this; exact this
  unfold fill_all.f
  rw [gI_len, gW_len, pvalid_f n (gI ln) (by rw [gI_len]; omega), Option.bind_some, validB_of ho, if_pos rfl, allGo_gW hn ln f allL [] [] hf (fun v hv => ⟨hl v hv, rfl⟩) hd (fun k _ => by simp [allL]) (by simp; omega), Option.bind_some, List.nil_append]
theorem bags_f {n : Nat} (hn : n ≤ 40) {f : Nat → Nat → Bool} (hf : Sy n f) {ln : List Nat} (ho : (gI ln).Perm (idI n)) (hd : ln.Nodup) (hl : ∀ x ∈ ln, x < n) : fill_Bags.f (gI (gW n f)) (gI ln) = some ((fillB n ln f allL).1, 0) := by
  unfold fill_Bags.f
  rw [all_f hn hf ho hd hl, Option.bind_some]
theorem filled_f {n : Nat} (hn : n ≤ 40) {f : Nat → Nat → Bool} (hf : Sy n f) {ln : List Nat} (ho : (gI ln).Perm (idI n)) (hd : ln.Nodup) (hl : ∀ x ∈ ln, x < n) : fill_Filled.f (gI (gW n f)) (gI ln) = some (gI (gW n (fillB n ln f allL).2), 0) := by
  unfold fill_Filled.f
  rw [all_f hn hf ho hd hl, Option.bind_some, if_pos rfl]
  unfold slices_Clone_uint64_uint64.f
  rw [if_pos (by rw [gI_len, gW_len]; omega), Option.bind_some]
/-- an order that joins nothing of a graph -/
theorem fillB_same {n : Nat} : ∀ (l : List Nat) (h : Nat → Nat → Bool) (left : Nat → Bool), Sy n h → (∀ x, x < n → (left x = true ↔ x ∈ l)) → l.Nodup → Simp h (gI l) → (fillB n l h left).2 = h
  | [], _, _, _, _, _, _ => rfl
  | v :: l, h, left, hh, hl, hd, hs => by
    have hvl := (List.nodup_cons.1 hd).1
    have hjo : joinBd h (laterN n h left v) = h := by
      funext i k
      unfold joinBd
      rw [Bool.eq_iff_iff, Bool.or_eq_true, decide_eq_true_iff]
      constructor
      · rintro (e | ⟨h1, h2, h3⟩)
        · exact e
        · have m1 := mem_laterN.1 h1
          have m2 := mem_laterN.1 h2
          have n1 : i ≠ v := fun e => by rw [e, hh.2.1] at m1; cases m1.2.1
          have n2 : k ≠ v := fun e => by rw [e, hh.2.1] at m2; cases m2.2.1
          have i1 : i ∈ l := (List.mem_cons.1 ((hl i m1.1).1 m1.2.2)).resolve_left n1
          have i2 : k ∈ l := (List.mem_cons.1 ((hl k m2.1).1 m2.2.2)).resolve_left n2
          have := hs.1 (i : Int) (List.mem_map.2 ⟨i, i1, rfl⟩) (k : Int) (List.mem_map.2 ⟨k, i2, rfl⟩) (by rw [Int.toNat_natCast, Int.toNat_natCast]; exact m1.2.1) (by rw [Int.toNat_natCast, Int.toNat_natCast]; exact m2.2.1) (by omega)
          rw [Int.toNat_natCast, Int.toNat_natCast] at this
          exact this
      · exact .inl
    rw [fillB]
    show (fillB n l (joinBd h (laterN n h left v)) (without left v)).2 = h
    rw [hjo]
    refine fillB_same l h (without left v) hh (fun x hx => ?_) (List.nodup_cons.1 hd).2 hs.2
    rw [without_iff, hl x hx, List.mem_cons]
    constructor
    · rintro ⟨a, b⟩; exact a.resolve_left (Ne.symm b)
    · intro a; exact ⟨.inr a, fun e => hvl (e ▸ a)⟩
end Go.Proofs.YtopjffgmpphdbaaDoor.Pr

set_option linter.unusedVariables false
set_option linter.unusedSimpArgs false
namespace Go.Proofs.YtopjffgmpphdbaaDoor.Pr
open Go.RowKit Go.Proofs.YtopjffgmpphdbaaDoorW.PrintWords Go.Proofs.YtopjffgmpphdbaaDoorW.PrintLast Go.Proofs.YtopjffgmpphdbaaDoorW.PrintMore

theorem simp_late (F : Nat → Nat → Bool) : ∀ (ln : List Nat) (v a b : Nat), Simp F (gI ln) → v ∈ ln → a ∈ ln → b ∈ ln → ln.idxOf v < ln.idxOf a → ln.idxOf v < ln.idxOf b → F v a = true → F v b = true → a ≠ b → F a b = true
  | [], _, _, _, _, h, _, _, _, _, _, _, _ => absurd h List.not_mem_nil
  | x :: l, v, a, b, hs, hv, ha, hb, h1, h2, f1, f2, hab => by
    rw [List.idxOf_cons, List.idxOf_cons] at h1 h2
    have na : x ≠ a := fun e => by rw [e] at h1; simp at h1
    have nb : x ≠ b := fun e => by rw [e] at h2; simp at h2
    have ma : a ∈ l := (List.mem_cons.1 ha).resolve_left (Ne.symm na)
    have mb : b ∈ l := (List.mem_cons.1 hb).resolve_left (Ne.symm nb)
    by_cases c : x = v
    · subst c
      have := hs.1 (a : Int) (List.mem_map.2 ⟨a, ma, rfl⟩) (b : Int) (List.mem_map.2 ⟨b, mb, rfl⟩) (by rw [Int.toNat_natCast, Int.toNat_natCast]; exact f1) (by rw [Int.toNat_natCast, Int.toNat_natCast]; exact f2) (by omega)
      rw [Int.toNat_natCast, Int.toNat_natCast] at this
      exact this
    · have mv : v ∈ l := (List.mem_cons.1 hv).resolve_left (Ne.symm c)
      rw [show (x == v) = false from beq_false_of_ne c, show (x == a) = false from beq_false_of_ne na, cond_false, cond_false] at h1
      rw [show (x == v) = false from beq_false_of_ne c, show (x == b) = false from beq_false_of_ne nb, cond_false, cond_false] at h2
      exact simp_late F l v a b hs.2 mv ma mb (by omega) (by omega) f1 f2 hab
theorem late_of {n : Nat} {F : Nat → Nat → Bool} (hF : Sy n F) {ln : List Nat} (hin : ∀ k, k < n → k ∈ ln) (hs : Simp F (gI ln)) : Mcs.Late F (fun v => ln.idxOf v) := fun v a b h1 h2 f1 f2 hab => by
  have r1 := hF.2.2 _ _ f1
  have r2 := hF.2.2 _ _ f2
  exact simp_late F ln v a b hs (hin v r1.1) (hin a r1.2) (hin b r2.2) h1 h2 f1 f2 hab
theorem idx_inj {ln : List Nat} {x y : Nat} (hx : x ∈ ln) (hy : y ∈ ln) (e : ln.idxOf x = ln.idxOf y) : x = y := by
  have e1 := List.getElem_idxOf (List.idxOf_lt_length_of_mem hx)
  have e2 := List.getElem_idxOf (List.idxOf_lt_length_of_mem hy)
  rw [← e1, ← e2]
  congr 1
theorem in_of {n : Nat} {ln : List Nat} (ho : (gI ln).Perm (idI n)) (k : Nat) (hk : k < n) : k ∈ ln := by
  obtain ⟨y, hy, e⟩ := List.mem_map.1 (ho.mem_iff.2 (mem_idI.2 ⟨k, hk, rfl⟩))
  obtain rfl : y = k := by omega
  exact hy
/-- an order that joins nothing: the graph stays -/
theorem fill_same {n : Nat} {F : Nat → Nat → Bool} (hF : Sy n F) {ln : List Nat} (ho : (gI ln).Perm (idI n)) (hd : ln.Nodup) (hs : Simp F (gI ln)) : (fillB n ln F allL).2 = F :=
  fillB_same ln F allL hF (fun x hx => ⟨fun _ => in_of ho x hx, fun _ => rfl⟩) hd hs
theorem join_none {n : Nat} {v : Nat} {l : List Nat} {h : Nat → Nat → Bool} {left : Nat → Bool} (hh : Sy n h) (hl : ∀ x, x < n → (left x = true ↔ x ∈ v :: l)) (hs : Simp h (gI (v :: l))) : joinBd h (laterN n h left v) = h := by
  funext i k
  unfold joinBd
  rw [Bool.eq_iff_iff, Bool.or_eq_true, decide_eq_true_iff]
  constructor
  · rintro (e | ⟨h1, h2, h3⟩)
    · exact e
    · have m1 := mem_laterN.1 h1
      have m2 := mem_laterN.1 h2
      have n1 : i ≠ v := fun e => by rw [e, hh.2.1] at m1; cases m1.2.1
      have n2 : k ≠ v := fun e => by rw [e, hh.2.1] at m2; cases m2.2.1
      have i1 : i ∈ l := (List.mem_cons.1 ((hl i m1.1).1 m1.2.2)).resolve_left n1
      have i2 : k ∈ l := (List.mem_cons.1 ((hl k m2.1).1 m2.2.2)).resolve_left n2
      have := hs.1 (i : Int) (List.mem_map.2 ⟨i, i1, rfl⟩) (k : Int) (List.mem_map.2 ⟨k, i2, rfl⟩) (by rw [Int.toNat_natCast, Int.toNat_natCast]; exact m1.2.1) (by rw [Int.toNat_natCast, Int.toNat_natCast]; exact m2.2.1) (by omega)
      rw [Int.toNat_natCast, Int.toNat_natCast] at this
      exact this
  · exact .inl
theorem left_tail {n : Nat} {v : Nat} {l : List Nat} {left : Nat → Bool} (hl : ∀ x, x < n → (left x = true ↔ x ∈ v :: l)) (hd : (v :: l).Nodup) : ∀ x, x < n → (without left v x = true ↔ x ∈ l) := fun x hx => by
  rw [without_iff, hl x hx, List.mem_cons]
  constructor
  · rintro ⟨a, b⟩; exact a.resolve_left (Ne.symm b)
  · intro a; exact ⟨.inr a, fun e => (List.nodup_cons.1 hd).1 (e ▸ a)⟩
end Go.Proofs.YtopjffgmpphdbaaDoor.Pr

set_option linter.unusedVariables false
set_option linter.unusedSimpArgs false
namespace Go.Proofs.YtopjffgmpphdbaaDoor.Pr
open Go.RowKit Go.Proofs.YtopjffgmpphdbaaDoorW.PrintWords Go.Proofs.YtopjffgmpphdbaaDoorW.PrintLast Go.Proofs.YtopjffgmpphdbaaDoorW.PrintMore

theorem equal_l0 (l : List Int) (hl : l.length < 9223372036854775807) (c : Int) (hc : c = (l.length : Int)) : ∀ (d i : Nat), i + d = l.length → Ev (fun k => slices_Equal_uint64_uint64.l0 k l l c (i : Int)) true
  | 0, i, h => evs0 (fun k => by rw [slices_Equal_uint64_uint64.l0, if_neg (by omega)])
  | d + 1, i, h => by
    refine evp (equal_l0 l hl c hc d (i + 1) (by omega)) (fun k e => ?_)
    rw [slices_Equal_uint64_uint64.l0, if_pos (by omega), if_pos (by omega), if_pos (by omega), if_pos (by omega), if_pos rfl, wrap_nat i (by omega)]
    exact e
theorem equal_ev (l : List Int) (hl : l.length < 9223372036854775807) : Ev (fun k => slices_Equal_uint64_uint64.f k l l) true := by
  refine evu1 (equal_l0 l hl _ rfl l.length 0 (by omega)) (fun k e => ?_)
  unfold slices_Equal_uint64_uint64.f
  rw [if_pos rfl]
  exact e
theorem chordal_ev {n : Nat} (hn : n ≤ 40) {F : Nat → Nat → Bool} (hF : Sy n F) {ln : List Nat} (ho : (gI ln).Perm (idI n)) (hs : Simp F (gI ln)) : Ev (fun k => fill_Chordal.f k (gI (gW n F))) true := by
  have hS := card_simp n (by omega) F hF (fun v => ln.idxOf v) (fun x y hx hy e => idx_inj (in_of ho x hx) (in_of ho y hy) e) (late_of hF (in_of ho) hs)
  have hp := orderT_perm 3 n (by omega) F
  obtain ⟨lo, elo, hd, hl⟩ := toN_of hp
  rw [elo] at hS hp
  have hf := filled_f hn hF hp hd hl
  rw [fill_same hF hp hd hS] at hf
  refine evu2 (of_ev 3 (by decide) (by decide) n hn F hF) (equal_ev (gI (gW n F)) (by rw [gI_len, gW_len]; omega)) (fun k e1 e2 => ?_)
  unfold fill_Chordal.f
  rw [e1, Option.bind_some, elo, hf, Option.bind_some, if_pos rfl, e2]
  rfl
theorem alike_l0 (l : List Int) (hl : l.length < 9223372036854775807) : ∀ (d i : Nat), i + d = l.length → Ev (fun k => arboristlaw10_alike.l0 k (i : Int) l l) true
  | 0, i, h => evs0 (fun k => by rw [arboristlaw10_alike.l0, if_neg (by omega)])
  | d + 1, i, h => by
    refine evp (alike_l0 l hl d (i + 1) (by omega)) (fun k e => ?_)
    rw [arboristlaw10_alike.l0, if_pos (by omega), if_pos (by omega), if_pos (by omega), if_pos rfl, wrap_nat i (by omega)]
    exact e
theorem alike_ev {n : Nat} (hn : n ≤ 40) (F : Nat → Nat → Bool) : Ev (fun k => arboristlaw10_alike.f k (gI (gW n F)) (mat n F)) true := by
  refine evu2 (graph_ev n (by omega) F) (alike_l0 (gI (gW n F)) (by rw [gI_len, gW_len]; omega) _ 0 (Nat.zero_add _)) (fun k e1 e2 => ?_)
  unfold arboristlaw10_alike.f
  rw [e1, Option.bind_some, if_pos rfl]
  exact e2
theorem rdI_at (B : List (List Int)) (i : Nat) (h : i < B.length) : rd_L1 B (i : Int) = B[i] := by
  unfold rd_L1
  rw [Int.toNat_natCast, List.getD_eq_getElem?_getD, List.getElem?_eq_getElem h]
  rfl
theorem fillB_len {n : Nat} : ∀ (l : List Nat) (h : Nat → Nat → Bool) (left : Nat → Bool), (fillB n l h left).1.length = l.length
  | [], _, _ => rfl
  | v :: l, h, left => by
    show (fillB n l _ _).1.length + 1 = l.length + 1
    rw [fillB_len l]
theorem gI_perm_len {n : Nat} {ln : List Nat} (ho : (gI ln).Perm (idI n)) : ln.length = n := by have := ho.length_eq; rw [gI_len, idI_len] at this; exact this
end Go.Proofs.YtopjffgmpphdbaaDoor.Pr

set_option linter.unusedVariables false
set_option linter.unusedSimpArgs false
namespace Go.Proofs.YtopjffgmpphdbaaDoor.Pure
open Go.RowKit Go.Proofs.YtopjffgmpphdbaaDoor.Pr Go.Proofs.YtopjffgmpphdbaaDoorW.PrintWords Go.Proofs.YtopjffgmpphdbaaDoorW.PrintLast Go.Proofs.YtopjffgmpphdbaaDoorW.PrintMore

def allF (n : Nat) : Nat → Nat → Bool := fun p q => decide (p < n ∧ q < n ∧ p ≠ q)
def noF : Nat → Nat → Bool := fun _ _ => false
theorem allF_sy (n : Nat) : Sy n (allF n) := by
  refine ⟨fun p q => ?_, fun p => ?_, fun p q h => ?_⟩
  · unfold allF; rw [decide_eq_decide]; omega
  · unfold allF; exact decide_eq_false (by omega)
  · unfold allF at h; have := of_decide_eq_true h; omega
theorem allF_simp (n : Nat) : ∀ ln : List Nat, (∀ x ∈ ln, x < n) → Simp (allF n) (gI ln)
  | [], _ => trivial
  | v :: l, h => by
    refine ⟨fun a ha b hb _ _ hab => ?_, allF_simp n l (fun x hx => h x (List.mem_cons_of_mem _ hx))⟩
    obtain ⟨a', ha', rfl⟩ := List.mem_map.1 ha
    obtain ⟨b', hb', rfl⟩ := List.mem_map.1 hb
    rw [Int.toNat_natCast, Int.toNat_natCast]
    unfold allF
    exact decide_eq_true ⟨h a' (List.mem_cons_of_mem _ ha'), h b' (List.mem_cons_of_mem _ hb'), fun e => hab (by rw [e])⟩
theorem noF_simp : ∀ ln : List Nat, Simp noF (gI ln)
  | [] => trivial
  | v :: l => ⟨fun a _ b _ h _ _ => (by cases h), noF_simp l⟩
theorem ofT_left_len {n : Nat} {l : List Nat} {left : Nat → Bool} (hv : ∀ v ∈ l, v < n) (hl : ∀ x, x < n → (left x = true ↔ x ∈ l)) (hd : l.Nodup) : (ofT n left).length = l.length := by
  have h1 : (gI l).Nodup := by
    unfold gI
    rw [List.Nodup, List.pairwise_map]
    exact hd.imp (fun h e => h (by omega))
  have a := len_sub (xs := gI l) (l := ofT n left) h1 (fun _ h => h) (fun x hx => by
    obtain ⟨k, hk, rfl⟩ := List.mem_map.1 hx
    exact mem_ofT.2 ⟨k, hv k hk, (hl k (hv k hk)).2 hk, rfl⟩)
  have b := len_sub (xs := ofT n left) (l := gI l) (ofT_nodup n left) (fun _ h => h) (fun x hx => by
    obtain ⟨k, hk, e, rfl⟩ := mem_ofT.1 hx
    exact List.mem_map.2 ⟨k, (hl k hk).1 e, rfl⟩)
  rw [gI_len] at a b
  omega
theorem whole_bags {n : Nat} : ∀ (l : List Nat) (left : Nat → Bool), (∀ v ∈ l, v < n) → (∀ x, x < n → (left x = true ↔ x ∈ l)) → l.Nodup → ∀ i b, (fillB n l (allF n) left).1[i]? = some b → b.length = l.length - i
  | [], _, _, _, _, i, b, h => by
    cases h
  | v :: l, left, hv, hl, hd, i, b, h => by
    have hj := join_none (n := n) (allF_sy n) hl (allF_simp n (v :: l) hv)
    have e : (fillB n (v :: l) (allF n) left).1 = bagT n (allF n) left v :: (fillB n l (allF n) (without left v)).1 := by
      show bagT n (allF n) left v :: (fillB n l (joinBd (allF n) (laterN n (allF n) left v)) (without left v)).1 = _
      rw [hj]
    rw [e] at h
    cases i with
    | zero =>
      rw [List.getElem?_cons_zero] at h
      obtain rfl := Option.some.inj h
      have hb : bagT n (allF n) left v = ofT n left := by
        unfold bagT ofT
        congr 1
        refine List.filter_congr (fun k hk => ?_)
        have hk := List.mem_range.1 hk
        have hvn := hv v List.mem_cons_self
        have hlv := (hl v hvn).2 List.mem_cons_self
        unfold allF
        by_cases c : k = v
        · subst c; rw [hlv]; simp
        · rw [decide_eq_false c, decide_eq_true (show v < n ∧ k < n ∧ v ≠ k from ⟨hvn, hk, fun e => c e.symm⟩)]; rfl
      rw [hb, ofT_left_len hv hl hd]
      rfl
    | succ i =>
      rw [List.getElem?_cons_succ] at h
      have := whole_bags l (without left v) (fun x hx => hv x (List.mem_cons_of_mem _ hx)) (left_tail hl hd) (List.nodup_cons.1 hd).2 i b h
      rw [this, List.length_cons]
      omega
theorem filt_one (v : Nat) : ∀ n, v < n → (List.range n).filter (fun k => decide (k = v)) = [v]
  | 0, h => by omega
  | n + 1, h => by
    rw [List.range_succ, List.filter_append]
    by_cases c : v = n
    · subst c
      rw [List.filter_eq_nil_iff.2 (fun a ha => by have := List.mem_range.1 ha; simp; omega), List.filter_cons_of_pos (by simp)]
      rfl
    · rw [filt_one v n (by omega), List.filter_cons_of_neg (by simp; omega)]
      rfl
theorem no_bags {n : Nat} : ∀ (l : List Nat) (left : Nat → Bool), (∀ v ∈ l, v < n) → (∀ x, x < n → (left x = true ↔ x ∈ l)) → l.Nodup → (fillB n l noF left).1 = l.map fun v => [((v : Nat) : Int)]
  | [], _, _, _, _ => rfl
  | v :: l, left, hv, hl, hd => by
    have hsy : Sy n noF := Sy.no n
    have hj := join_none (n := n) hsy hl (noF_simp (v :: l))
    show bagT n noF left v :: (fillB n l (joinBd noF (laterN n noF left v)) (without left v)).1 = _
    rw [hj, no_bags l (without left v) (fun x hx => hv x (List.mem_cons_of_mem _ hx)) (left_tail hl hd) (List.nodup_cons.1 hd).2, List.map_cons]
    congr 1
    have hf : (List.range n).filter (fun k => decide (k = v) || (noF v k && left k)) = [v] := by
      rw [show (fun k => decide (k = v) || (noF v k && left k)) = (fun k => decide (k = v)) from funext fun k => by unfold noF; rw [Bool.false_and, Bool.or_false]]
      exact filt_one v n (hv v List.mem_cons_self)
    unfold bagT ofT
    rw [hf]
    rfl
theorem width_l0 (B : List (List Int)) (hB : B.length ≤ 1000) (M : Nat) (hM : M ≤ 1000) (hb : ∀ b ∈ B, b.length ≤ M) : ∀ (d i c : Nat), i + d = B.length → c ≤ M → (c = M ∨ ∃ (j : Nat) (h : j < B.length), i ≤ j ∧ (B[j]'h).length = M) → Ev (fun k => fill_Width.l0 k 0 (c : Int) B (B.length : Int) (i : Int)) (wrap64 ((M : Int) - 1), 0)
  | 0, i, c, h, hc, hx => by
    have e : c = M := hx.resolve_right (fun ⟨j, h1, h2, _⟩ => by omega)
    subst e
    exact evs0 (fun k => by rw [fill_Width.l0, if_neg (by omega), if_pos rfl])
  | d + 1, i, c, h, hc, hx => by
    have hl := hb (B[i]'(by omega)) (List.getElem_mem _)
    obtain ⟨c2, hc2⟩ : ∃ c2, c2 = max c (B[i]'(by omega)).length := ⟨_, rfl⟩
    have hm : mx (c : Int) (((B[i]'(by omega)).length : Nat) : Int) = (c2 : Int) := by unfold mx; split <;> omega
    refine evp (width_l0 B hB M hM hb d (i + 1) c2 (by omega) (by omega) ?_) (fun k e => ?_)
    · rcases hx with rfl | ⟨j, h1, h2, h3⟩
      · exact .inl (by omega)
      · by_cases q : j = i
        · subst q; exact .inl (by omega)
        · exact .inr ⟨j, h1, by omega, h3⟩
    · rw [fill_Width.l0, if_pos (by omega), if_pos (by omega), if_pos (by omega), rdI_at B i (by omega), hm, wrap_nat i (by omega)]
      exact e
theorem width_ev {n : Nat} (hn : n ≤ 40) {F : Nat → Nat → Bool} (hF : Sy n F) {ln : List Nat} (ho : (gI ln).Perm (idI n)) (hd : ln.Nodup) (hl : ∀ x ∈ ln, x < n) (M : Nat) (hM : M ≤ 1000) (hb : ∀ b ∈ (fillB n ln F allL).1, b.length ≤ M) (hx : ∃ (j : Nat) (h : j < (fillB n ln F allL).1.length), ((fillB n ln F allL).1[j]'h).length = M) : Ev (fun k => fill_Width.f k (gI (gW n F)) (gI ln)) (wrap64 ((M : Int) - 1), 0) := by
  have e := bags_f hn hF ho hd hl
  have hlen := fillB_len (n := n) ln F allL
  have hg := gI_perm_len ho
  generalize (fillB n ln F allL).1 = B at *
  obtain ⟨j, h1, h2⟩ := hx
  refine evu1 (width_l0 B (by omega) M hM hb B.length 0 0 (by omega) (by omega) (.inr ⟨j, h1, by omega, h2⟩)) (fun k e1 => ?_)
  unfold fill_Width.f
  rw [e, Option.bind_some]
  exact e1
/-! ### the law's own graph, cell by cell -/
def fS (i j : Nat) : Nat → Nat → Bool := fun p q => decide ((p < i ∨ (p = i ∧ q < j)) ∧ p ≠ q)
theorem fS_set (n i j : Nat) : mat n (setT (fS i j) i j (((i : Nat) : Int) != ((j : Nat) : Int))) = mat n (fS i (j + 1)) := mat_congr (fun p q _ _ => by
  unfold setT
  by_cases c : p = i
  · subst c
    rw [if_pos rfl]
    by_cases c2 : q = j
    · subst c2
      rw [if_pos rfl, Bool.eq_iff_iff, bne_iff_ne]
      unfold fS
      rw [decide_eq_true_iff]
      omega
    · rw [if_neg c2]
      unfold fS
      rw [decide_eq_decide]
      omega
  · rw [if_neg c]
    unfold fS
    rw [decide_eq_decide]
    omega)
theorem whole_l1 (n : Nat) (hn : n ≤ 40) (o G : List Int) (i : Nat) (hi : i < n) (H : Ev (fun k => arboristlaw10_FillWhole.l0 k (n : Int) true o (mat n (fS (i + 1) 0)) ((i + 1 : Nat) : Int) G) true) : ∀ (d j : Nat), j + d = n → Ev (fun k => arboristlaw10_FillWhole.l1 k (n : Int) true o (mat n (fS i j)) (i : Int) (j : Int) G) true
  | 0, j, h => by
    refine evp H (fun k e => ?_)
    rw [arboristlaw10_FillWhole.l1, if_neg (by omega), wrap_nat i (by omega), mat_congr (n := n) (f := fS i j) (g := fS (i + 1) 0) (fun p q _ hq => by unfold fS; rw [decide_eq_decide]; omega)]
    exact e
  | d + 1, j, h => by
    refine evp (whole_l1 n hn o G i hi H d (j + 1) (by omega)) (fun k e => ?_)
    rw [arboristlaw10_FillWhole.l1, if_pos (by omega), if_pos (by omega), if_pos (by rw [mat_len]; omega), if_pos (by omega), if_pos (by rw [mat_rd n _ i hi, rowT_len]; omega), Int.toNat_natCast, Int.toNat_natCast, setT_mat n (fS i j) i j _ hi (by omega), fS_set, wrap_nat j (by omega)]
    exact e
theorem whole_l2 (n : Nat) (hn : n ≤ 40) (ln : List Nat) (hln : ln.length = n) (B : List (List Int)) (hB : B.length = n) (hb : ∀ i b, B[i]? = some b → b.length = n - i) (G1 G0 : List Int) (h1 : Ev (fun k => fill_Chordal.f k G1) true) (h0 : Ev (fun k => fill_Chordal.f k G0) true) : ∀ (d i : Nat), i + d = n →
    Ev (fun k => arboristlaw10_FillWhole.l2 k (n : Int) true (gI ln) B (ln.map fun v => [((v : Nat) : Int)]) (wrap64 ((n : Int) - 1)) 0 (i : Int) G0 G1) true
  | 0, i, h => by
    refine evs2 h1 h0 (fun k e1 e2 => ?_)
    rw [arboristlaw10_FillWhole.l2, if_neg (by omega), if_pos rfl, if_pos rfl, if_pos rfl, e1, Option.bind_some, if_pos rfl, e2]
    rfl
  | d + 1, i, h => by
    have hi : i < B.length := by omega
    have hm : i < (ln.map fun v => [((v : Nat) : Int)]).length := by rw [List.length_map]; omega
    have hl := hb i _ (List.getElem?_eq_getElem hi)
    have hw : wrap64 ((n : Int) - (i : Int)) = ((n - i : Nat) : Int) := by rw [wrap_id (by omega) (by omega)]; omega
    have r2 : rd_L1 (ln.map fun v => [((v : Nat) : Int)]) (i : Int) = [((ln[i]'(by omega) : Nat) : Int)] := by rw [rdI_at _ i hm, List.getElem_map]
    refine evp (whole_l2 n hn ln hln B hB hb G1 G0 h1 h0 d (i + 1) (by omega)) (fun k e => ?_)
    rw [arboristlaw10_FillWhole.l2, if_pos (by omega), if_pos (by omega), if_pos (by omega), rdI_at B i hi, hl, hw, if_pos rfl, if_pos (by omega), r2, if_pos (by simp), if_pos (by simp), if_pos (by rw [gI_len]; omega), gI_rd, wAt_get ln i (by omega), if_pos (show rd [((ln[i]'(by omega) : Nat) : Int)] 0 = ((ln[i]'(by omega) : Nat) : Int) from rd_nat [_] 0 _ rfl), wrap_nat i (by omega)]
    exact e
theorem whole_end (n : Nat) (h1n : 1 ≤ n) (hn : n ≤ 40) (ln : List Nat) (ho : (gI ln).Perm (idI n)) (hd : ln.Nodup) (hl : ∀ x ∈ ln, x < n) : Ev (fun k => arboristlaw10_FillWhole.l0 k (n : Int) true (gI ln) (mat n (allF n)) (n : Int) (gI (gW n noF))) true := by
  have hall : ∀ x, x < n → (allL x = true ↔ x ∈ ln) := fun x hx => ⟨fun _ => in_of ho x hx, fun _ => rfl⟩
  have hln := gI_perm_len ho
  have hA := allF_sy n
  have hN : Sy n noF := Sy.no n
  have sA := allF_simp n ln hl
  have sN := noF_simp ln
  have bA := whole_bags (n := n) ln allL hl hall hd
  have bN := no_bags (n := n) ln allL hl hall hd
  have lA := fillB_len (n := n) ln (allF n) allL
  have e1 := bags_f hn hA ho hd hl
  have e2 := bags_f hn hN ho hd hl
  have e3 := filled_f hn hA ho hd hl
  rw [fill_same hA ho hd sA] at e3
  have w1 := width_ev hn hA ho hd hl n (by omega) (fun b hb => by
    obtain ⟨i, hi, rfl⟩ := List.getElem_of_mem hb
    have := bA i _ (List.getElem?_eq_getElem hi)
    omega) ⟨0, by omega, by
    have := bA 0 _ (List.getElem?_eq_getElem (show 0 < (fillB n ln (allF n) allL).1.length by omega))
    omega⟩
  have w0 := width_ev hn hN ho hd hl 1 (by omega) (fun b hb => by
    rw [bN] at hb
    obtain ⟨v, _, rfl⟩ := List.mem_map.1 hb
    exact Nat.le_refl _) ⟨0, by rw [bN, List.length_map]; omega, by simp only [bN, List.getElem_map]; rfl⟩
  rw [show wrap64 (((1 : Nat) : Int) - 1) = 0 by rw [wrap_id (by omega) (by omega)]; rfl] at w0
  have c1 := chordal_ev hn hA ho sA
  have c0 := chordal_ev hn hN ho sN
  rw [bN] at e2
  generalize (fillB n ln (allF n) allL).1 = B at *
  have hl2 := whole_l2 n hn ln hln B (by omega) (fun i b h => by have := bA i b h; omega) (gI (gW n (allF n))) (gI (gW n noF)) c1 c0 n 0 (by omega)
  have hj2 : Ev (fun k => arboristlaw10_FillWhole.j2 k (n : Int) true (gI ln) B (ln.map fun v => [((v : Nat) : Int)]) (wrap64 ((n : Int) - 1)) 0 false (gI (gW n noF)) (gI (gW n (allF n)))) true := evp hl2 (fun k e => by
    rw [arboristlaw10_FillWhole.j2, if_neg (by decide)]
    exact e)
  refine evs5 (graph_ev n (by omega) (allF n)) w1 w0 (alike_ev hn (allF n)) hj2 (fun k p1 p2 p3 p4 p5 => ?_)
  rw [arboristlaw10_FillWhole.l0, if_neg (by omega), p1, Option.bind_some, e1, Option.bind_some, e2, Option.bind_some, p2, Option.bind_some, p3, Option.bind_some, e3, Option.bind_some]
  simp only [if_true]
  rw [if_pos (by omega), if_pos (by rw [List.length_map]; omega), p4, Option.bind_some]
  exact p5
theorem whole_l0 (n : Nat) (h1n : 1 ≤ n) (hn : n ≤ 40) (ln : List Nat) (ho : (gI ln).Perm (idI n)) (hd : ln.Nodup) (hl : ∀ x ∈ ln, x < n) : ∀ (d i : Nat), i + d = n → Ev (fun k => arboristlaw10_FillWhole.l0 k (n : Int) true (gI ln) (mat n (fS i 0)) (i : Int) (gI (gW n noF))) true
  | 0, i, h => by
    obtain rfl : i = n := by omega
    have e := whole_end i h1n hn ln ho hd hl
    rw [mat_congr (n := i) (f := allF i) (g := fS i 0) (fun p q hp hq => by unfold allF fS; rw [decide_eq_decide]; omega)] at e
    exact e
  | d + 1, i, h => by
    refine evp (whole_l1 n hn (gI ln) (gI (gW n noF)) i (by omega) (whole_l0 n h1n hn ln ho hd hl d (i + 1) (by omega)) n 0 (by omega)) (fun k e => ?_)
    rw [arboristlaw10_FillWhole.l0, if_pos (by omega)]
    exact e
theorem FillWhole : arboristlaw10_FillWhole.Pure := by
  intro a0 l1 _ _
  obtain ⟨m, hm, hm2⟩ := kT_in (show 0 < 12 by omega) a0
  rw [show ((12 : Nat) : Int) = 12 from rfl] at hm2
  have hw : wrap64 (1 + (m : Int)) = ((m + 1 : Nat) : Int) := by rw [wrap_id (by omega) (by omega)]; omega
  obtain ⟨o, hop, hoe⟩ := given_ev (m + 1) (by omega) l1
  obtain ⟨ln, rfl, hd, hl⟩ := toN_of hop
  have h0 := whole_l0 (m + 1) (by omega) (by omega) ln hop hd hl (m + 1) 0 (by omega)
  rw [mat_congr (n := m + 1) (f := fS 0 0) (g := noF) (fun p q _ _ => by unfold fS noF; exact decide_eq_false (by omega))] at h0
  refine (evu5 shown_9 hoe (empty_ev (m + 1) (by omega)) (graph_ev (m + 1) (by omega) noF) h0 (fun k p1 p2 p3 p4 p5 => ?_)).rounds
  simp only [arboristlaw10_FillWhole.f]
  rw [p1, Option.bind_some, hm2, hw, p2, Option.bind_some, p3, Option.bind_some]
  show (arboristref08_Graph.f k (mat (m + 1) noF)).bind _ = _
  rw [p4, Option.bind_some]
  exact p5
end Go.Proofs.YtopjffgmpphdbaaDoor.Pure
