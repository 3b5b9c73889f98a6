/- DecompTrees: of a graph without rings bags have two points at most, by the orders that are found; there are as many bags as edges and points alone. -/
import Derived.Laws.BitsAllLaws
import Derived.Test.YtbdlelojlnhhfaaDoorPr0
import Derived.Test.YtbdlelojlnhhfaaDoorPr1
import Derived.Test.YtbdlelojlnhhfaaDoorPr11
import Derived.Test.YtbdlelojlnhhfaaDoorPr12
import Derived.Test.YtbdlelojlnhhfaaDoorPr15
import Derived.Test.YtbdlelojlnhhfaaDoorPr21
import Derived.Test.YtbdlelojlnhhfaaDoorPr22
import Derived.Test.YtbdlelojlnhhfaaDoorPr25
import Derived.Test.YtbdlelojlnhhfaaDoorPr29
import Derived.Test.YtbdlelojlnhhfaaDoorPr32
import Derived.Test.YtbdlelojlnhhfaaDoorPr40
import Derived.Test.YtbdlelojlnhhfaaDoorPr42
import Derived.Test.YtbdlelojlnhhfaaDoorPr54
import Derived.Test.YtbdlelojlnhhfaaDoorPr55
import Derived.Test.YtbdlelojlnhhfaaDoorPr56
import Derived.Test.YtbdlelojlnhhfaaDoorPr57
import Derived.Test.YtbdlelojlnhhfaaDoorPr58
set_option linter.unusedVariables false
set_option linter.unusedSimpArgs false
set_option linter.unusedSectionVars false
set_option linter.unusedVariables false
set_option linter.unusedSimpArgs false
namespace Go.Proofs.YtbdlelojlnhhfaaDoor.Pr
open Go.RowKit Go.Proofs.YtbdlelojlnhhfaaDoorW.PrintWords Go.Proofs.YtbdlelojlnhhfaaDoorW.PrintLast Go.Proofs.YtbdlelojlnhhfaaDoorW.PrintMore
def lessW (f : Int → Int) (best v : Int) : Int := if best < 0 then v else if f v < f best then v else best
def leastF (f : Int → Int) (xs : List Int) : Int := xs.foldl (lessW f) (-1)
theorem lessW_in (f : Int → Int) : ∀ (xs : List Int) (b : Int), xs.foldl (lessW f) b = b ∨ xs.foldl (lessW f) b ∈ xs
  | [], b => .inl rfl
  | x :: xs, b => by
    rw [List.foldl_cons]
    rcases lessW_in f xs (lessW f b x) with h | h
    · rw [h]
      unfold lessW
      split
      · exact .inr List.mem_cons_self
      · split
        · exact .inr List.mem_cons_self
        · exact .inl rfl
    · exact .inr (List.mem_cons_of_mem _ h)
theorem leastF_in (f : Int → Int) (xs : List Int) (hx : ∀ x ∈ xs, 0 ≤ x) (h : xs ≠ []) : leastF f xs ∈ xs := by
  unfold leastF
  cases xs with
  | nil => exact absurd rfl h
  | cons x xs =>
    rw [List.foldl_cons]
    have e : lessW f (-1) x = x := by unfold lessW; rw [if_pos (by decide)]
    rw [e]
    rcases lessW_in f xs x with h | h
    · rw [h]; exact List.mem_cons_self
    · exact List.mem_cons_of_mem _ h
end Go.Proofs.YtbdlelojlnhhfaaDoor.Pr
namespace Go.Proofs.YtbdlelojlnhhfaaDoor.Pr
open Go.RowKit Go.Proofs.YtbdlelojlnhhfaaDoorW.PrintWords Go.Proofs.YtbdlelojlnhhfaaDoorW.PrintLast
theorem evs0 {ρ : Type} {F : Nat → Option ρ} {r : ρ} (H : ∀ k, F (k + 1) = some r) : Ev F r := ⟨1, fun k hk => by obtain ⟨m, rfl⟩ : ∃ m, k = m + 1 := ⟨k - 1, by omega⟩; exact H m⟩
theorem evu1 {ρ : Type} {F : Nat → Option ρ} {r : ρ} {α1 : Type} {g1 : Nat → Option α1} {a1 : α1} (h1 : Ev g1 a1) (H : ∀ k, g1 k = some a1 → F k = some r) : Ev F r := by
  obtain ⟨K1, e1⟩ := h1
  exact ⟨K1, fun k hk => H k (e1 _ (by omega))⟩
theorem evs1 {ρ : Type} {F : Nat → Option ρ} {r : ρ} {α1 : Type} {g1 : Nat → Option α1} {a1 : α1} (h1 : Ev g1 a1) (H : ∀ k, g1 k = some a1 → F (k + 1) = some r) : Ev F r := by
  obtain ⟨K1, e1⟩ := h1
  refine ⟨K1 + 1, fun k hk => ?_⟩
  obtain ⟨m, rfl⟩ : ∃ m, k = m + 1 := ⟨k - 1, by omega⟩
  exact H m (e1 _ (by omega))
theorem evu2 {ρ : Type} {F : Nat → Option ρ} {r : ρ} {α1 : Type} {g1 : Nat → Option α1} {a1 : α1} {α2 : Type} {g2 : Nat → Option α2} {a2 : α2} (h1 : Ev g1 a1) (h2 : Ev g2 a2) (H : ∀ k, g1 k = some a1 → g2 k = some a2 → F k = some r) : Ev F r := by
  obtain ⟨K1, e1⟩ := h1; obtain ⟨K2, e2⟩ := h2
  exact ⟨K1 + K2, fun k hk => H k (e1 _ (by omega)) (e2 _ (by omega))⟩
theorem evs2 {ρ : Type} {F : Nat → Option ρ} {r : ρ} {α1 : Type} {g1 : Nat → Option α1} {a1 : α1} {α2 : Type} {g2 : Nat → Option α2} {a2 : α2} (h1 : Ev g1 a1) (h2 : Ev g2 a2) (H : ∀ k, g1 k = some a1 → g2 k = some a2 → F (k + 1) = some r) : Ev F r := by
  obtain ⟨K1, e1⟩ := h1; obtain ⟨K2, e2⟩ := h2
  refine ⟨K1 + K2 + 1, fun k hk => ?_⟩
  obtain ⟨m, rfl⟩ : ∃ m, k = m + 1 := ⟨k - 1, by omega⟩
  exact H m (e1 _ (by omega)) (e2 _ (by omega))
theorem evs3 {ρ : Type} {F : Nat → Option ρ} {r : ρ} {α1 : Type} {g1 : Nat → Option α1} {a1 : α1} {α2 : Type} {g2 : Nat → Option α2} {a2 : α2} {α3 : Type} {g3 : Nat → Option α3} {a3 : α3} (h1 : Ev g1 a1) (h2 : Ev g2 a2) (h3 : Ev g3 a3) (H : ∀ k, g1 k = some a1 → g2 k = some a2 → g3 k = some a3 → F (k + 1) = some r) : Ev F r := by
  obtain ⟨K1, e1⟩ := h1; obtain ⟨K2, e2⟩ := h2; obtain ⟨K3, e3⟩ := h3
  refine ⟨K1 + K2 + K3 + 1, fun k hk => ?_⟩
  obtain ⟨m, rfl⟩ : ∃ m, k = m + 1 := ⟨k - 1, by omega⟩
  exact H m (e1 _ (by omega)) (e2 _ (by omega)) (e3 _ (by omega))
theorem wrap_nat (i : Nat) (h : i < 9223372036854775807) : wrap64 ((i : Int) + 1) = ((i + 1 : Nat) : Int) := by rw [wrap_succ (by omega) (by omega)]; rfl
def inB (l : List Int) (v : Int) : Bool := l.any (fun x => x == v)
end Go.Proofs.YtbdlelojlnhhfaaDoor.Pr
set_option linter.unusedVariables false
set_option linter.unusedSimpArgs false
namespace Go.Proofs.YtbdlelojlnhhfaaDoor.Pr
open Go.RowKit Go.Proofs.YtbdlelojlnhhfaaDoorW.PrintWords Go.Proofs.YtbdlelojlnhhfaaDoorW.PrintLast Go.Proofs.YtbdlelojlnhhfaaDoorW.PrintMore
def wd : Nat → (Nat → Bool) → Nat
  | 0, _ => 0
  | n + 1, f => 2 ^ n * (if f n = true then 1 else 0) + wd n f
theorem wd_lt : ∀ (n : Nat) (f : Nat → Bool), wd n f < 2 ^ n
  | 0, _ => by simp [wd]
  | n + 1, f => by
    have := wd_lt n f
    rw [wd, Nat.pow_succ]
    split <;> omega
theorem one_bit (j : Nat) : (1 : Nat).testBit (j + 1) = false := by rw [Nat.testBit_succ]; simp
theorem wd_bit : ∀ (n : Nat) (f : Nat → Bool) (i : Nat), (wd n f).testBit i = (decide (i < n) && f i)
  | 0, f, i => by simp [wd]
  | n + 1, f, i => by
    rw [wd, Nat.testBit_two_pow_mul_add _ (wd_lt n f), wd_bit n f i]
    by_cases h : i < n
    · rw [if_pos h, decide_eq_true h, decide_eq_true (show i < n + 1 by omega)]
    · rw [if_neg h]
      by_cases e : i = n
      · subst e
        rw [Nat.sub_self, decide_eq_true (show i < i + 1 by omega), Bool.true_and]
        by_cases hf : f i = true
        · rw [if_pos hf, hf]; decide
        · rw [if_neg hf, Bool.not_eq_true _ |>.mp hf]; decide
      · obtain ⟨j, rfl⟩ : ∃ j, i = n + (j + 1) := ⟨i - n - 1, by omega⟩
        rw [decide_eq_false (show ¬ n + (j + 1) < n + 1 by omega), Bool.false_and, show n + (j + 1) - n = j + 1 by omega]
        split
        · exact one_bit j
        · simp
theorem pow_64 : (2 : Nat) ^ 64 = 18446744073709551616 := by decide
theorem wd_64 {n : Nat} (h : n ≤ 64) (f : Nat → Bool) : wd n f < 18446744073709551616 := by
  rw [← pow_64]
  exact Nat.lt_of_lt_of_le (wd_lt n f) (Nat.pow_le_pow_right (by omega) h)
theorem shl_one (b : Nat) (h : b < 64) : shl .u64 1 (b : Int) = ((2 ^ b : Nat) : Int) := by
  unfold shl
  have hb : IntKind.bits .u64 = 64 := rfl
  have hp : 2 ^ b < 18446744073709551616 := by rw [← pow_64]; exact Nat.pow_lt_pow_right (by omega) h
  rw [Int.toNat_natCast, hb, Nat.min_eq_left (by omega), IntKind.wrap_u64, Int.one_mul]
  have e : ((2 : Int) ^ b) = ((2 ^ b : Nat) : Int) := by push_cast; rfl
  rw [e]
  obtain ⟨p, hp1⟩ : ∃ p : Nat, p = 2 ^ b := ⟨_, rfl⟩
  rw [← hp1] at hp ⊢
  omega
theorem pow_bit (b i : Nat) : (2 ^ b).testBit i = decide (b = i) := Nat.testBit_two_pow
theorem or_u64 (a b : Nat) (ha : a < 18446744073709551616) (hb : b < 18446744073709551616) : a ||| b < 18446744073709551616 ∧ Go.bits .or .u64 (a : Int) (b : Int) = ((a ||| b : Nat) : Int) := by
  refine ⟨?_, u64_or_nat a b ha hb⟩
  rw [← pow_64] at ha hb ⊢
  exact Nat.or_lt_two_pow ha hb
theorem pow_lt_64 (b : Nat) (h : b < 64) : 2 ^ b < 18446744073709551616 := by rw [← pow_64]; exact Nat.pow_lt_pow_right (by omega) h
def ofT (n : Nat) (f : Nat → Bool) : List Int := ((List.range n).filter f).map fun (i : Nat) => (i : Int)
theorem filter_range (f : Nat → Bool) (n : Nat) : ∀ d, (List.range (n + d)).filter (fun i => decide (i < n) && f i) = (List.range n).filter f
  | 0 => List.filter_congr (fun i hi => by rw [decide_eq_true (show i < n by have := List.mem_range.1 hi; omega), Bool.true_and])
  | d + 1 => by
    rw [show n + (d + 1) = (n + d) + 1 by omega, List.range_succ, List.filter_append, filter_range f n d, List.filter_cons_of_neg (by rw [decide_eq_false (by omega)]; simp), List.filter_nil, List.append_nil]
theorem listN_wd {n : Nat} (h : n ≤ 64) (f : Nat → Bool) : listN (wd n f) = ofT n f := by
  unfold listN ofT
  congr 1
  obtain ⟨d, hd⟩ : ∃ d, 64 = n + d := ⟨64 - n, by omega⟩
  rw [hd, ← filter_range f n d]
  exact List.filter_congr (fun i _ => wd_bit n f i)
theorem list_f (x : Nat) (h : x < 18446744073709551616) : graph_list.f (x : Int) = some (listN x) := by
  unfold graph_list.f
  rw [if_pos ⟨by omega, by omega⟩, Int.toNat_natCast]
def gI (ws : List Nat) : List Int := ws.map fun (x : Nat) => (x : Int)
def wAt (ws : List Nat) (i : Nat) : Nat := ws.getD i 0
def Wok (ws : List Nat) : Prop := ∀ x ∈ ws, x < 18446744073709551616
theorem gI_len (ws : List Nat) : (gI ws).length = ws.length := by simp [gI]
theorem gI_rd (ws : List Nat) (i : Nat) : rd (gI ws) (i : Int) = ((wAt ws i : Nat) : Int) := by
  unfold rd gI wAt
  rw [Int.toNat_natCast, List.getD_eq_getElem?_getD, List.getD_eq_getElem?_getD, List.getElem?_map]
  cases ws[i]? <;> rfl
theorem wAt_get (ws : List Nat) (i : Nat) (h : i < ws.length) : wAt ws i = ws[i] := by
  unfold wAt
  rw [List.getD_eq_getElem?_getD, List.getElem?_eq_getElem h]
  rfl
theorem wAt_lt {ws : List Nat} (h : Wok ws) (i : Nat) : wAt ws i < 18446744073709551616 := by
  by_cases c : i < ws.length
  · rw [wAt_get ws i c]; exact h _ (List.getElem_mem c)
  · unfold wAt
    rw [List.getD_eq_getElem?_getD, List.getElem?_eq_none (by omega)]
    decide
theorem gI_ext {a b : List Nat} (hl : a.length = b.length) (h : ∀ i, i < a.length → wAt a i = wAt b i) : a = b := List.ext_getElem hl (fun i h1 h2 => by
  have := h i h1
  rwa [wAt_get a i h1, wAt_get b i h2] at this)
def isP (n : Nat) (a : Int) : Bool := decide (0 ≤ a ∧ a < (n : Int))
theorem is_f (ws : List Nat) (a : Int) : graph_is.f (gI ws) a = some (isP ws.length a) := by
  unfold graph_is.f isP
  rw [gI_len]
  by_cases h : a ≥ 0
  · rw [if_pos h]
    congr 1
    simp [h]
  · rw [if_neg h, decide_eq_false (by omega)]
def nbL (ws : List Nat) (a : Int) : List Int := if isP ws.length a = true then listN (wAt ws a.toNat) else []
theorem neighbors_f (ws : List Nat) (hw : Wok ws) (a : Int) : graph_Neighbors.f (gI ws) a = some (nbL ws a) := by
  unfold graph_Neighbors.f nbL
  rw [is_f, Option.bind_some]
  by_cases ha : isP ws.length a = true
  · have h1 := of_decide_eq_true ha
    obtain ⟨i, rfl⟩ := Int.eq_ofNat_of_zero_le h1.1
    rw [if_pos ha, if_pos (by omega), if_pos (by rw [gI_len]; omega), gI_rd, list_f _ (wAt_lt hw i), Option.bind_some, if_pos ha, Int.toNat_natCast]
  · rw [if_neg ha, if_neg ha]
def joinW (ws : List Nat) (a b : Int) : List Nat := if isP ws.length a = true ∧ isP ws.length b = true ∧ a ≠ b then
  (ws.set a.toNat (wAt ws a.toNat ||| 2 ^ b.toNat)).set b.toNat (wAt (ws.set a.toNat (wAt ws a.toNat ||| 2 ^ b.toNat)) b.toNat ||| 2 ^ a.toNat) else ws
theorem wok_set {ws : List Nat} (hw : Wok ws) (i v : Nat) (hv : v < 18446744073709551616) : Wok (ws.set i v) := fun x hx => by
  rcases List.mem_or_eq_of_mem_set hx with h | h
  · exact hw x h
  · rw [h]; exact hv
theorem gI_set (ws : List Nat) (i v : Nat) : (gI ws).set i (v : Int) = gI (ws.set i v) := by unfold gI; rw [List.map_set]
theorem or_pow {x b : Nat} (hx : x < 18446744073709551616) (hb : b < 64) : x ||| 2 ^ b < 18446744073709551616 ∧ Go.bits .or .u64 (x : Int) (shl .u64 1 (b : Int)) = ((x ||| 2 ^ b : Nat) : Int) := by
  rw [shl_one b hb]
  exact or_u64 x (2 ^ b) hx (pow_lt_64 b hb)
theorem join_f (ws : List Nat) (hw : Wok ws) (hn : ws.length ≤ 64) (a b : Int) : graph_Join.f (gI ws) a b = some (gI (joinW ws a b)) ∧ Wok (joinW ws a b) := by
  unfold graph_Join.f joinW
  have hc : slices_Clone_uint64_uint64.f (gI ws) = some (gI ws) := by unfold slices_Clone_uint64_uint64.f; rw [if_pos (by rw [gI_len]; omega)]
  rw [hc, Option.bind_some, is_f, Option.bind_some, is_f]
  by_cases ha : isP ws.length a = true
  · by_cases hb : isP ws.length b = true
    · by_cases e : a = b
      · rw [if_pos ha, Option.bind_some, if_pos hb, if_pos e, if_neg (by simp [e])]
        exact ⟨rfl, hw⟩
      · have h1 := of_decide_eq_true ha
        have h2 := of_decide_eq_true hb
        obtain ⟨i, rfl⟩ := Int.eq_ofNat_of_zero_le h1.1
        obtain ⟨k, rfl⟩ := Int.eq_ofNat_of_zero_le h2.1
        obtain ⟨o1, o2⟩ := or_pow (wAt_lt hw i) (show k < 64 by omega)
        have hw2 := wok_set hw i _ o1
        obtain ⟨o3, o4⟩ := or_pow (wAt_lt hw2 k) (show i < 64 by omega)
        rw [if_pos ha, Option.bind_some, if_pos hb, if_neg e, if_pos (by omega), if_pos (by rw [gI_len]; omega), if_pos (by omega), if_pos ⟨ha, hb, e⟩]
        simp only [Option.bind_some, Int.toNat_natCast]
        rw [if_pos (by rw [gI_len]; omega), gI_rd, o2, gI_set, gI_rd, o4, gI_set]
        exact ⟨rfl, wok_set hw2 k _ o3⟩
    · rw [if_pos ha, Option.bind_some, if_neg hb, if_neg (by simp [hb])]
      exact ⟨rfl, hw⟩
  · rw [if_neg ha, if_neg (by simp [ha])]
    exact ⟨rfl, hw⟩
theorem joinW_len (ws : List Nat) (a b : Int) : (joinW ws a b).length = ws.length := by
  unfold joinW
  split <;> simp
theorem wAt_set (ws : List Nat) (i v k : Nat) (h : i < ws.length) : wAt (ws.set i v) k = if k = i then v else wAt ws k := by
  unfold wAt
  rw [List.getD_eq_getElem?_getD, List.getD_eq_getElem?_getD, List.getElem?_set]
  by_cases e : i = k
  · rw [if_pos e, if_pos h, if_pos e.symm]; rfl
  · rw [if_neg e, if_neg (fun h => e h.symm)]
theorem join_bit (ws : List Nat) (a b : Int) (i k : Nat) : (wAt (joinW ws a b) i).testBit k = ((wAt ws i).testBit k || (isP ws.length a && isP ws.length b && decide (a ≠ b) && (decide ((i : Int) = a ∧ (k : Int) = b) || decide ((i : Int) = b ∧ (k : Int) = a)))) := by
  unfold joinW
  by_cases c : isP ws.length a = true ∧ isP ws.length b = true ∧ a ≠ b
  · rw [if_pos c]
    obtain ⟨ha, hb, e⟩ := c
    have h1 := of_decide_eq_true ha
    have h2 := of_decide_eq_true hb
    obtain ⟨p, rfl⟩ := Int.eq_ofNat_of_zero_le h1.1
    obtain ⟨q, rfl⟩ := Int.eq_ofNat_of_zero_le h2.1
    have e2 : p ≠ q := fun h => e (by rw [h])
    rw [ha, hb, Bool.and_self, Bool.true_and, decide_eq_true e, Bool.true_and]
    simp only [Int.toNat_natCast]
    rw [wAt_set _ q _ i (by rw [List.length_set]; omega), wAt_set ws p _ q (by omega), wAt_set ws p _ i (by omega), if_neg (show ¬ q = p from fun h => e2 h.symm)]
    by_cases c1 : i = q
    · subst c1
      rw [if_pos rfl, Nat.testBit_or, pow_bit]
      have : ¬ i = p := fun h => e2 h.symm
      congr 1
      rw [Bool.eq_iff_iff, Bool.or_eq_true, decide_eq_true_iff, decide_eq_true_iff, decide_eq_true_iff]
      exact ⟨fun h => .inr ⟨rfl, by omega⟩, fun h => by rcases h with ⟨h1, h2⟩ | ⟨h1, h2⟩ <;> omega⟩
    · rw [if_neg c1]
      by_cases c2 : i = p
      · subst c2
        rw [if_pos rfl, Nat.testBit_or, pow_bit]
        congr 1
        rw [Bool.eq_iff_iff, Bool.or_eq_true, decide_eq_true_iff, decide_eq_true_iff, decide_eq_true_iff]
        exact ⟨fun h => .inl ⟨rfl, by omega⟩, fun h => by rcases h with ⟨h1, h2⟩ | ⟨h1, h2⟩ <;> omega⟩
      · rw [if_neg c2]
        have : (decide ((i : Int) = (p : Int) ∧ (k : Int) = (q : Int)) || decide ((i : Int) = (q : Int) ∧ (k : Int) = (p : Int))) = false := by
          rw [decide_eq_false (by omega), decide_eq_false (by omega)]; rfl
        rw [this, Bool.or_false]
  · rw [if_neg c]
    have : (isP ws.length a && isP ws.length b && decide (a ≠ b) && (decide ((i : Int) = a ∧ (k : Int) = b) || decide ((i : Int) = b ∧ (k : Int) = a))) = false := by
      rw [Bool.eq_false_iff]
      intro h
      simp only [Bool.and_eq_true, decide_eq_true_eq] at h
      exact c ⟨h.1.1.1, h.1.1.2, h.1.2⟩
    rw [this, Bool.or_false]
def rowT (n : Nat) (f : Nat → Bool) : List Bool := (List.range n).map f
def mat (n : Nat) (f : Nat → Nat → Bool) : List (List Bool) := (List.range n).map fun i => rowT n (f i)
theorem rowT_len (n : Nat) (f : Nat → Bool) : (rowT n f).length = n := by simp [rowT]
theorem mat_len (n : Nat) (f : Nat → Nat → Bool) : (mat n f).length = n := by simp [mat]
theorem rowT_rd (n : Nat) (f : Nat → Bool) (k : Nat) (h : k < n) : rdOf false (rowT n f) (k : Int) = f k := by
  unfold rdOf rowT
  rw [Int.toNat_natCast, List.getD_eq_getElem?_getD, List.getElem?_map, List.getElem?_range h]
  rfl
theorem mat_rd (n : Nat) (f : Nat → Nat → Bool) (i : Nat) (h : i < n) : rd_L8 (mat n f) (i : Int) = rowT n (f i) := by
  unfold rd_L8 mat
  rw [Int.toNat_natCast, List.getD_eq_getElem?_getD, List.getElem?_map, List.getElem?_range h]
  rfl
theorem rowT_set (n : Nat) (f : Nat → Bool) (k : Nat) (b : Bool) : (rowT n f).set k b = rowT n fun j => if j = k then b else f j := by
  unfold rowT
  apply List.ext_getElem
  · simp
  · intro j h1 h2
    rw [List.getElem_set]
    simp only [List.getElem_map, List.getElem_range]
    by_cases e : k = j
    · rw [if_pos e, if_pos e.symm]
    · rw [if_neg e, if_neg (fun h => e h.symm)]
theorem mat_set (n : Nat) (f : Nat → Nat → Bool) (i : Nat) (g : Nat → Bool) : (mat n f).set i (rowT n g) = mat n fun j => if j = i then g else f j := by
  unfold mat
  apply List.ext_getElem
  · simp
  · intro j h1 h2
    rw [List.getElem_set]
    simp only [List.getElem_map, List.getElem_range]
    by_cases e : i = j
    · rw [if_pos e, if_pos e.symm]
    · rw [if_neg e, if_neg (fun h => e h.symm)]
theorem rowT_congr {n : Nat} {f g : Nat → Bool} (h : ∀ k, k < n → f k = g k) : rowT n f = rowT n g := List.map_congr_left (fun k hk => h k (List.mem_range.1 hk))
theorem mat_congr {n : Nat} {f g : Nat → Nat → Bool} (h : ∀ i k, i < n → k < n → f i k = g i k) : mat n f = mat n g := List.map_congr_left (fun i hi => rowT_congr (fun k hk => h i k (List.mem_range.1 hi) hk))
theorem rep_row (n : Nat) : List.replicate n false = rowT n fun _ => false := by
  unfold rowT
  apply List.ext_getElem
  · simp
  · intro j h1 h2; simp
def gW (n : Nat) (f : Nat → Nat → Bool) : List Nat := (List.range n).map fun i => wd n (f i)
theorem gW_len (n : Nat) (f : Nat → Nat → Bool) : (gW n f).length = n := by simp [gW]
theorem gW_at (n : Nat) (f : Nat → Nat → Bool) (i : Nat) (h : i < n) : wAt (gW n f) i = wd n (f i) := by
  unfold wAt gW
  rw [List.getD_eq_getElem?_getD, List.getElem?_map, List.getElem?_range h]
  rfl
theorem gW_ok {n : Nat} (h : n ≤ 64) (f : Nat → Nat → Bool) : Wok (gW n f) := fun x hx => by
  obtain ⟨i, _, rfl⟩ := List.mem_map.1 hx
  exact wd_64 h _
theorem gW_bit (n : Nat) (f : Nat → Nat → Bool) (i k : Nat) : (wAt (gW n f) i).testBit k = (decide (i < n) && (decide (k < n) && f i k)) := by
  by_cases h : i < n
  · rw [gW_at n f i h, wd_bit, decide_eq_true h, Bool.true_and]
  · rw [decide_eq_false h, Bool.false_and]
    unfold wAt
    rw [List.getD_eq_getElem?_getD, List.getElem?_eq_none (by rw [gW_len]; omega)]
    simp
theorem gW_congr {n : Nat} {f g : Nat → Nat → Bool} (h : ∀ i k, i < n → k < n → f i k = g i k) : gW n f = gW n g := gI_ext (by rw [gW_len, gW_len]) (fun i hi => Nat.eq_of_testBit_eq (fun k => by
  rw [gW_len] at hi
  rw [gW_bit, gW_bit, decide_eq_true hi]
  simp only [Bool.true_and]
  by_cases c : k < n
  · rw [h i k hi c]
  · rw [decide_eq_false c]; rfl))
theorem graph_l1 (n : Nat) (hn : n ≤ 64) (f : Nat → Nat → Bool) (i : Nat) (hi : i < n) (o : List Int) (ho : o.length < 17592186044416) (R : List Int) (H : Ev (fun k => arboristref08_Graph.l0 k (mat n f) ((i + 1 : Nat) : Int) (o ++ [((wd n (f i) : Nat) : Int)])) R) :
    ∀ (d j : Nat), j + d = n → Ev (fun k => arboristref08_Graph.l1 k (mat n f) (i : Int) ((wd j (f i) : Nat) : Int) (j : Int) o) R
  | 0, j, h => by
    obtain rfl : j = n := by omega
    refine evs1 H (fun k e => ?_)
    rw [arboristref08_Graph.l1, mat_len, if_neg (by omega), if_pos ho, wrap_nat i (by omega)]
    exact e
  | d + 1, j, h => by
    refine evs1 (graph_l1 n hn f i hi o ho R H d (j + 1) (by omega)) (fun k e => ?_)
    have hw : IntKind.u64.wrap (j : Int) = (j : Int) := by rw [IntKind.wrap_u64]; omega
    rw [arboristref08_Graph.l1, mat_len, if_pos (by omega), if_pos (by omega), if_pos (by omega), if_pos (by omega), mat_rd n f i hi, rowT_len, if_pos (by omega), rowT_rd n (f i) j (by omega), hw, wrap_nat j (by omega)]
    rw [wd] at e
    by_cases c : f i j = true
    · rw [if_pos c] at e ⊢
      have h1 := wd_lt j (f i)
      have h2 := pow_lt_64 j (by omega)
      have h3 : IntKind.u64.wrap (((wd j (f i) : Nat) : Int) + ((2 ^ j : Nat) : Int)) = ((2 ^ j * 1 + wd j (f i) : Nat) : Int) := by
        have h4 : 2 ^ j * 1 + wd j (f i) < 18446744073709551616 := by
          have := wd_64 (show j + 1 ≤ 64 by omega) (f i)
          rw [wd, if_pos c] at this
          exact this
        obtain ⟨p, hp⟩ : ∃ p : Nat, p = 2 ^ j := ⟨_, rfl⟩
        rw [← hp] at h4 ⊢
        rw [IntKind.wrap_u64]
        omega
      rw [if_pos (by omega), shl_one j (by omega), h3]
      exact e
    · rw [if_neg c] at e ⊢
      rw [Nat.mul_zero, Nat.zero_add] at e
      exact e
theorem graph_l0 (n : Nat) (hn : n ≤ 64) (f : Nat → Nat → Bool) : ∀ (d i : Nat), i + d = n → Ev (fun k => arboristref08_Graph.l0 k (mat n f) (i : Int) (gI ((List.range i).map fun j => wd n (f j)))) (gI (gW n f))
  | 0, i, h => by
    obtain rfl : i = n := by omega
    exact evs0 (fun k => by rw [arboristref08_Graph.l0, mat_len, if_neg (by omega)]; rfl)
  | d + 1, i, h => by
    have hr := graph_l0 n hn f d (i + 1) (by omega)
    rw [List.range_succ, List.map_append] at hr
    have e0 : gI ((List.range i).map (fun j => wd n (f j)) ++ [i].map (fun j => wd n (f j))) = gI ((List.range i).map fun j => wd n (f j)) ++ [((wd n (f i) : Nat) : Int)] := by simp [gI]
    rw [e0] at hr
    have hl : (gI ((List.range i).map fun j => wd n (f j))).length < 17592186044416 := by rw [gI_len]; simp; omega
    refine evs1 (graph_l1 n hn f i (by omega) _ hl _ hr n 0 (by omega)) (fun k e => ?_)
    rw [arboristref08_Graph.l0, mat_len, if_pos (by omega)]
    exact e
theorem graph_ev (n : Nat) (hn : n ≤ 64) (f : Nat → Nat → Bool) : Ev (fun k => arboristref08_Graph.f k (mat n f)) (gI (gW n f)) := graph_l0 n hn f n 0 (by omega)
theorem empty_l0 (n : Nat) (hn : n ≤ 1000) : ∀ (d i : Nat), i + d = n → Ev (fun k => arboristref08_Empty.l0 k (n : Int) (List.replicate i (rowT n fun _ => false)) (i : Int)) (mat n fun _ _ => false)
  | 0, i, h => by
    obtain rfl : i = n := by omega
    refine evs0 (fun k => ?_)
    rw [arboristref08_Empty.l0, if_neg (by omega)]
    congr 1
    unfold mat
    apply List.ext_getElem
    · simp
    · intro j h1 h2; simp
  | d + 1, i, h => by
    have hr := empty_l0 n hn d (i + 1) (by omega)
    rw [List.replicate_succ'] at hr
    refine evs1 hr (fun k e => ?_)
    rw [arboristref08_Empty.l0, if_pos (by omega), if_pos (by omega), if_pos (by omega), if_pos (by simp; omega), Int.toNat_natCast, rep_row, wrap_nat i (by omega)]
    exact e
theorem empty_ev (n : Nat) (hn : n ≤ 1000) : Ev (fun k => arboristref08_Empty.f k (n : Int)) (mat n fun _ _ => false) := empty_l0 n hn n 0 (by omega)
theorem ofT_from (n : Nat) (f : Nat → Bool) (j : Nat) (h : j < n) : ((List.range' j (n - j)).filter f) = if f j = true then j :: (List.range' (j + 1) (n - (j + 1))).filter f else (List.range' (j + 1) (n - (j + 1))).filter f := by
  rw [show n - j = (n - (j + 1)) + 1 by omega, List.range'_succ, List.filter_cons]
theorem evp {ρ : Type} {F g : Nat → Option ρ} {r : ρ} (h : Ev g r) (H : ∀ k, g k = some r → F (k + 1) = some r) : Ev F r := evs1 h H
theorem neigh_l0 (n : Nat) (hn : n ≤ 1000) (f : Nat → Nat → Bool) (a : Nat) (ha : a < n) : ∀ (d j : Nat) (o : List Int), j + d = n → o.length ≤ j → Ev (fun k => arboristref08_Neighbors.l0 k (mat n f) (a : Int) o (j : Int)) (o ++ ((List.range' j (n - j)).filter (f a)).map fun (i : Nat) => (i : Int))
  | 0, j, o, h, ho => by
    rw [show n - j = 0 by omega]
    refine evs1 (evs0 (F := fun k => arboristref08_Neighbors.j1 k (mat n f) (a : Int) o (j : Int) false) (r := o ++ ((List.range' j 0).filter (f a)).map fun (i : Nat) => (i : Int)) (fun k => ?_)) (fun k e => ?_)
    · rw [arboristref08_Neighbors.j1, if_neg (by decide)]; simp
    · rw [arboristref08_Neighbors.l0, mat_len, if_neg (by omega)]; exact e
  | d + 1, j, o, h, ho => by
    rw [ofT_from n (f a) j (by omega)]
    by_cases c : f a j = true
    · rw [if_pos c]
      have hr := neigh_l0 n hn f a ha d (j + 1) (o ++ [(j : Int)]) (by omega) (by simp; omega)
      rw [List.append_assoc] at hr
      refine evp (g := fun k => arboristref08_Neighbors.j1 k (mat n f) (a : Int) o (j : Int) true) (evp hr (fun k e => ?_)) (fun k e => ?_)
      · rw [arboristref08_Neighbors.j1, if_pos rfl, if_pos (by omega), mat_len, if_pos (by omega), if_pos (by omega), mat_rd n f a ha, rowT_len, if_pos (by omega), rowT_rd n (f a) j (by omega), if_pos c, if_pos (by omega), wrap_nat j (by omega)]
        exact e
      · rw [arboristref08_Neighbors.l0, mat_len, if_pos (by omega), if_pos (by omega), decide_eq_true (by omega)]; exact e
    · rw [if_neg c]
      have hr := neigh_l0 n hn f a ha d (j + 1) o (by omega) (by omega)
      refine evp (g := fun k => arboristref08_Neighbors.j1 k (mat n f) (a : Int) o (j : Int) true) (evp hr (fun k e => ?_)) (fun k e => ?_)
      · rw [arboristref08_Neighbors.j1, if_pos rfl, if_pos (by omega), mat_len, if_pos (by omega), if_pos (by omega), mat_rd n f a ha, rowT_len, if_pos (by omega), rowT_rd n (f a) j (by omega), if_neg c, wrap_nat j (by omega)]
        exact e
      · rw [arboristref08_Neighbors.l0, mat_len, if_pos (by omega), if_pos (by omega), decide_eq_true (by omega)]; exact e
theorem neigh_ev (n : Nat) (hn : n ≤ 1000) (f : Nat → Nat → Bool) (a : Int) : Ev (fun k => arboristref08_Neighbors.f k (mat n f) a) (if isP n a = true then ofT n (f a.toNat) else []) := by
  by_cases c : isP n a = true
  · have h := of_decide_eq_true c
    obtain ⟨i, rfl⟩ := Int.eq_ofNat_of_zero_le h.1
    have hr := neigh_l0 n hn f i (by omega) n 0 [] (by omega) (by simp)
    rw [if_pos c]
    rw [List.nil_append, Nat.sub_zero, ← List.range_eq_range'] at hr
    exact hr
  · rw [if_neg c]
    have h : ¬ (0 ≤ a ∧ a < (n : Int)) := of_decide_eq_false (Bool.not_eq_true _ |>.mp c)
    have hj : Ev (fun k => arboristref08_Neighbors.j1 k (mat n f) a [] 0 false) [] := evs0 (fun k => by rw [arboristref08_Neighbors.j1, if_neg (by decide)])
    refine evs1 hj (fun k e => ?_)
    rw [arboristref08_Neighbors.f, arboristref08_Neighbors.l0, mat_len]
    by_cases c1 : (0 : Int) < (n : Int)
    · rw [if_pos c1]
      by_cases c2 : a ≥ 0
      · rw [if_pos c2, decide_eq_false (by omega)]; exact e
      · rw [if_neg c2]; exact e
    · rw [if_neg c1]; exact e
section
variable (ws : List Nat)
def bF (i k : Nat) : Bool := (wAt ws i).testBit k
end
theorem low16 (x : Int) : 0 ≤ Go.bits .and .i64 x 65535 ∧ Go.bits .and .i64 x 65535 ≤ 65535 := by
  have h2 : (BitVec.ofInt 64 (65535 : Int)).toNat = 65535 := by decide
  have h3 : (BitVec.ofInt 64 x &&& BitVec.ofInt 64 (65535 : Int)).toNat ≤ 65535 := by
    rw [BitVec.toNat_and, h2]; exact Nat.and_le_right
  have e : Go.bits .and .i64 x 65535 = IntKind.i64.wrap ((BitVec.ofInt 64 x &&& BitVec.ofInt 64 (65535 : Int)).toNat : Int) := rfl
  rw [e, IntKind.wrap_i64]
  omega
theorem kT_in {n : Nat} (h : 0 < n) (x : Int) : ∃ k : Nat, k < n ∧ Int.tmod (Go.bits .and .i64 x 65535) (n : Int) = (k : Int) := by
  obtain ⟨h1, h2⟩ := low16 x
  have a := Int.tmod_nonneg (n : Int) h1
  have b := Int.tmod_lt_of_pos (Go.bits .and .i64 x 65535) (show (0 : Int) < (n : Int) by omega)
  exact ⟨(Int.tmod (Go.bits .and .i64 x 65535) (n : Int)).toNat, by omega, by omega⟩
def Sy (n : Nat) (f : Nat → Nat → Bool) : Prop := (∀ i k, f i k = f k i) ∧ (∀ i, f i i = false) ∧ ∀ i k, f i k = true → i < n ∧ k < n
def addE (f : Nat → Nat → Bool) (a b : Nat) : Nat → Nat → Bool := fun i k => f i k || (decide (i = a ∧ k = b) || decide (i = b ∧ k = a))
theorem Sy.no (n : Nat) : Sy n fun _ _ => false := ⟨fun _ _ => rfl, fun _ => rfl, fun _ _ h => by cases h⟩
theorem Sy.add {n : Nat} {f : Nat → Nat → Bool} (h : Sy n f) {a b : Nat} (ha : a < n) (hb : b < n) (e : a ≠ b) : Sy n (addE f a b) := by
  obtain ⟨h1, h2, h3⟩ := h
  refine ⟨fun i k => ?_, fun i => ?_, fun i k => ?_⟩
  · unfold addE
    rw [h1 i k]
    congr 1
    rw [Bool.eq_iff_iff]
    simp only [Bool.or_eq_true, decide_eq_true_eq]
    omega
  · unfold addE
    rw [h2 i, decide_eq_false (by omega), decide_eq_false (by omega)]
    rfl
  · unfold addE
    rw [Bool.or_eq_true, Bool.or_eq_true, decide_eq_true_iff, decide_eq_true_iff]
    rintro (h | h | h)
    · exact h3 i k h
    · omega
    · omega
theorem mat_edge (n : Nat) (f : Nat → Nat → Bool) (a b : Nat) (ha : a < n) (hb : b < n) (y : List (List Bool)) (hy : y = (mat n f).set a ((rd_L8 (mat n f) (a : Int)).set b true)) :
    y.length = n ∧ (rd_L8 y (b : Int)).length = n ∧ y.set b ((rd_L8 y (b : Int)).set a true) = mat n (addE f a b) := by
  rw [mat_rd n f a ha, rowT_set, mat_set] at hy
  subst hy
  rw [mat_len, mat_rd n _ b hb, rowT_len, rowT_set, mat_set]
  refine ⟨rfl, rfl, mat_congr (fun i k hi hk => ?_)⟩
  unfold addE
  by_cases c1 : i = b
  · subst c1
    rw [if_pos rfl]
    by_cases c2 : k = a
    · subst c2
      rw [if_pos rfl, decide_eq_true (show i = i ∧ k = k from ⟨rfl, rfl⟩)]
      simp
    · rw [if_neg c2, decide_eq_false (show ¬ (i = i ∧ k = a) by omega), Bool.or_false]
      by_cases c3 : i = a
      · subst c3
        rw [if_pos rfl]
        by_cases c4 : k = i
        · exact absurd c4 c2
        · rw [if_neg c4, decide_eq_false (by omega), Bool.or_false]
      · rw [if_neg c3, decide_eq_false (by omega), Bool.or_false]
  · rw [if_neg c1, decide_eq_false (show ¬ (i = b ∧ k = a) by omega), Bool.or_false]
    by_cases c3 : i = a
    · subst c3
      rw [if_pos rfl]
      by_cases c4 : k = b
      · rw [if_pos c4, decide_eq_true (by omega)]; simp
      · rw [if_neg c4, decide_eq_false (by omega), Bool.or_false]
    · rw [if_neg c3, decide_eq_false (by omega), Bool.or_false]
theorem joinW_gW {n : Nat} (f : Nat → Nat → Bool) {a b : Nat} (ha : a < n) (hb : b < n) (e : a ≠ b) : joinW (gW n f) (a : Int) (b : Int) = gW n (addE f a b) := by
  refine gI_ext (by rw [joinW_len, gW_len, gW_len]) (fun i hi => Nat.eq_of_testBit_eq (fun k => ?_))
  rw [joinW_len, gW_len] at hi
  have pa : isP n (a : Int) = true := decide_eq_true (by omega)
  have pb : isP n (b : Int) = true := decide_eq_true (by omega)
  rw [join_bit, gW_bit, gW_bit, gW_len, pa, pb, decide_eq_true hi]
  simp only [Bool.true_and, Bool.and_self]
  rw [decide_eq_true (show (a : Int) ≠ (b : Int) by omega), Bool.true_and]
  unfold addE
  by_cases c : k < n
  · rw [decide_eq_true c, Bool.true_and, Bool.true_and]
    congr 1
    rw [Bool.eq_iff_iff]
    simp only [Bool.or_eq_true, decide_eq_true_eq]
    omega
  · rw [decide_eq_false c, Bool.false_and, Bool.false_and, Bool.false_or, decide_eq_false (by omega), decide_eq_false (by omega)]
    rfl
def cliqB (n : Nat) (f : Nat → Nat → Bool) (l : List Int) : Bool := l.all (isP n) && l.all fun x => l.all fun y => x == y || f x.toNat y.toNat
theorem shown_9 : arboristlaw11_shown.f = some true := by decide +kernel
def idI (n : Nat) : List Int := (List.range n).map fun (i : Nat) => (i : Int)
theorem idI_len (n : Nat) : (idI n).length = n := by simp [idI]
theorem mem_idI {n : Nat} {x : Int} : x ∈ idI n ↔ ∃ k : Nat, k < n ∧ x = (k : Int) := by
  unfold idI
  simp only [List.mem_map, List.mem_range]
  constructor
  · rintro ⟨k, h, rfl⟩; exact ⟨k, h, rfl⟩
  · rintro ⟨k, h, rfl⟩; exact ⟨k, h, rfl⟩
theorem idI_nodup (n : Nat) : (idI n).Nodup := by
  unfold idI
  rw [List.Nodup, List.pairwise_map]
  exact List.nodup_range.imp (fun h e => h (by omega))
def goT (f : Nat → Nat → Bool) (v : Nat) : Nat → Nat → Bool := fun i k => !decide (i = v) && (!decide (k = v) && (f i k || (f v i && (f v k && !decide (i = k)))))
theorem Sy.go {n : Nat} {f : Nat → Nat → Bool} (h : Sy n f) (v : Nat) : Sy n (goT f v) := by
  refine ⟨fun i k => ?_, fun i => ?_, fun i k e => ?_⟩
  · unfold goT
    rw [h.1 i k, show decide (i = k) = decide (k = i) by simp [eq_comm]]
    generalize decide (i = v) = a; generalize decide (k = v) = b; generalize f k i = c; generalize f v i = d; generalize f v k = e; generalize decide (k = i) = g
    revert a b c d e g; decide
  · unfold goT
    rw [h.2.1 i]; simp
  · unfold goT at e
    simp only [Bool.and_eq_true, Bool.or_eq_true] at e
    rcases e.2.2 with e | e
    · exact h.2.2 _ _ e
    · exact ⟨(h.2.2 _ _ e.1).2, (h.2.2 _ _ e.2.1).2⟩
def nbN (n : Nat) (f : Nat → Nat → Bool) (v : Nat) : List Nat := (List.range n).filter (f v)
theorem mem_nbN {n : Nat} {f : Nat → Nat → Bool} {v x : Nat} : x ∈ nbN n f v ↔ x < n ∧ f v x = true := by unfold nbN; rw [List.mem_filter, List.mem_range]
theorem nbN_len (n : Nat) (f : Nat → Nat → Bool) (v : Nat) : (nbN n f v).length ≤ n := Nat.le_trans (List.length_filter_le _ _) (by simp)
theorem ofT_nbN (n : Nat) (f : Nat → Nat → Bool) (v : Nat) : ofT n (f v) = gI (nbN n f v) := rfl
theorem neigh9 (n : Nat) (hn : n ≤ 1000) (f : Nat → Nat → Bool) (v : Nat) (hv : v < n) : Ev (fun k => arboristref08_Neighbors.f k (mat n f) (v : Int)) (gI (nbN n f v)) := by
  have h := neigh_ev n hn f (v : Int)
  rw [if_pos (by unfold isP; exact decide_eq_true (by omega)), Int.toNat_natCast, ofT_nbN] at h
  exact h
theorem wAt_in {l : List Nat} {i : Nat} (h : i < l.length) : wAt l i ∈ l := by rw [wAt_get l i h]; exact List.getElem_mem h
theorem nodup_at {l : List Nat} (h : l.Nodup) {i k : Nat} (hi : i < l.length) (hk : k < l.length) (e : l[i] = l[k]) : i = k := by
  have hp := List.pairwise_iff_getElem.1 h
  rcases Nat.lt_trichotomy i k with c | c | c
  · exact absurd e (hp i k hi hk c)
  · exact c
  · exact absurd e.symm (hp k i hk hi c)
def cntP (f : Nat → Nat → Bool) (l : List Nat) (i j : Nat) : Nat := (l.take j).countP (fun b => !f (wAt l i) b)
def ms (f : Nat → Nat → Bool) (l : List Nat) : Nat → Nat
  | 0 => 0
  | i + 1 => ms f l i + cntP f l i i
def missT (n : Nat) (f : Nat → Nat → Bool) (v : Nat) : Nat := ms f (nbN n f v) (nbN n f v).length
theorem take_one (l : List Nat) (j : Nat) (h : j < l.length) : l.take (j + 1) = l.take j ++ [wAt l j] := by rw [List.take_succ_eq_append_getElem h, wAt_get l j h]
theorem cntP_succ (f : Nat → Nat → Bool) (l : List Nat) (i j : Nat) (h : j < l.length) : cntP f l i (j + 1) = cntP f l i j + if f (wAt l i) (wAt l j) = true then 0 else 1 := by
  unfold cntP
  rw [take_one l j h, List.countP_append, List.countP_cons, List.countP_nil]
  cases f (wAt l i) (wAt l j) <;> simp
theorem cntP_le (f : Nat → Nat → Bool) (l : List Nat) (i j : Nat) : cntP f l i j ≤ j := Nat.le_trans List.countP_le_length (by simp; omega)
theorem ms_le (f : Nat → Nat → Bool) (l : List Nat) : ∀ i, ms f l i ≤ i * i
  | 0 => Nat.le_refl _
  | i + 1 => by
    have h1 := ms_le f l i
    have h2 := cntP_le f l i i
    rw [ms, Nat.succ_mul, Nat.mul_succ]
    omega
theorem missing_l1 (n : Nat) (hn : n ≤ 1000) (f : Nat → Nat → Bool) (l : List Nat) (hl : ∀ x ∈ l, x < n) (hll : l.length ≤ 1000) (i : Nat) (hi : i < l.length) (R : Int)
    (H : Ev (fun k => arboristref09_Missing.l0 k (mat n f) (gI l) ((ms f l (i + 1) : Nat) : Int) ((i + 1 : Nat) : Int)) R) (d : Nat) : ∀ j, j + d = i → Ev (fun k => arboristref09_Missing.l1 k (mat n f) (gI l) ((ms f l i + cntP f l i j : Nat) : Int) (i : Int) (j : Int)) R := by
  induction d with
  | zero =>
    intro j h
    obtain rfl : j = i := by omega
    refine evp H (fun k e => ?_)
    rw [arboristref09_Missing.l1, if_neg (by omega), wrap_nat j (by omega)]
    exact e
  | succ d ih =>
    intro j h
    have h1 := hl _ (wAt_in hi)
    have h2 := hl _ (wAt_in (show j < l.length by omega))
    have hb : ms f l i + cntP f l i j ≤ 1000 * 1000 + 1000 := by
      have q1 := ms_le f l i
      have q2 := cntP_le f l i j
      have q3 : i * i ≤ 1000 * 1000 := Nat.mul_le_mul (by omega) (by omega)
      omega
    refine evp (ih (j + 1) (by omega)) (fun k e => ?_)
    rw [arboristref09_Missing.l1, gI_len, if_pos (by omega), if_pos (by omega), if_pos (by omega), gI_rd, gI_rd, if_pos (by omega), mat_len, if_pos (by omega), if_pos (by omega), if_pos (by omega), if_pos (by omega), mat_rd n f _ h1, rowT_len, if_pos (by omega), rowT_rd n _ _ h2, wrap_nat j (by omega), wrap_nat _ (by omega)]
    rw [cntP_succ f l i j (by omega)] at e
    by_cases c : f (wAt l i) (wAt l j) = true
    · rw [if_pos c]; rw [if_pos c, Nat.add_zero] at e; exact e
    · rw [if_neg c]; rw [if_neg c, ← Nat.add_assoc] at e; exact e
theorem missing_l0 (n : Nat) (hn : n ≤ 1000) (f : Nat → Nat → Bool) (l : List Nat) (hl : ∀ x ∈ l, x < n) (hll : l.length ≤ 1000) (d : Nat) : ∀ i, i + d = l.length → Ev (fun k => arboristref09_Missing.l0 k (mat n f) (gI l) ((ms f l i : Nat) : Int) (i : Int)) ((ms f l l.length : Nat) : Int) := by
  induction d with
  | zero =>
    intro i h
    obtain rfl : i = l.length := by omega
    exact evs0 (fun k => by rw [arboristref09_Missing.l0, gI_len, if_neg (by omega)])
  | succ d ih =>
    intro i h
    refine evp (missing_l1 n hn f l hl hll i (by omega) _ (ih (i + 1) (by omega)) i 0 (by omega)) (fun k e => ?_)
    rw [arboristref09_Missing.l0, gI_len, if_pos (by omega)]
    have hz : cntP f l i 0 = 0 := by unfold cntP; simp
    rw [hz, Nat.add_zero] at e
    exact e
theorem missing_ev (n : Nat) (hn : n ≤ 1000) (f : Nat → Nat → Bool) (v : Nat) (hv : v < n) : Ev (fun k => arboristref09_Missing.f k (mat n f) (v : Int)) ((missT n f v : Nat) : Int) := by
  have hln := nbN_len n f v
  refine evu2 (neigh9 n hn f v hv) (missing_l0 n hn f (nbN n f v) (fun x hx => (mem_nbN.1 hx).1) (by omega) (nbN n f v).length 0 (by omega)) (fun k e1 e2 => ?_)
  rw [arboristref09_Missing.f, e1, Option.bind_some]
  exact e2
def setT (f : Nat → Nat → Bool) (p q : Nat) (b : Bool) : Nat → Nat → Bool := fun i => if i = p then (fun k => if k = q then b else f p k) else f i
theorem setT_mat (n : Nat) (f : Nat → Nat → Bool) (p q : Nat) (b : Bool) (hp : p < n) (hq : q < n) : (mat n f).set p ((rd_L8 (mat n f) (p : Int)).set q b) = mat n (setT f p q b) := by
  rw [mat_rd n f p hp, rowT_set, mat_set]
  rfl
theorem setT_true (f : Nat → Nat → Bool) (p q i k : Nat) : setT f p q true i k = true ↔ f i k = true ∨ (i = p ∧ k = q) := by
  unfold setT
  by_cases c : i = p
  · subst c
    rw [if_pos rfl]
    by_cases c2 : k = q
    · rw [if_pos c2]; exact ⟨fun _ => .inr ⟨rfl, c2⟩, fun _ => rfl⟩
    · rw [if_neg c2]; exact ⟨.inl, fun h => h.elim id (fun h => absurd h.2 c2)⟩
  · rw [if_neg c]; exact ⟨.inl, fun h => h.elim id (fun h => absurd h.1 c)⟩
theorem setT_false (f : Nat → Nat → Bool) (p q i k : Nat) : setT f p q false i k = true ↔ f i k = true ∧ ¬ (i = p ∧ k = q) := by
  unfold setT
  by_cases c : i = p
  · subst c
    rw [if_pos rfl]
    by_cases c2 : k = q
    · rw [if_pos c2]; exact ⟨fun h => (by cases h), fun h => absurd ⟨rfl, c2⟩ h.2⟩
    · rw [if_neg c2]; exact ⟨fun h => ⟨h, fun h2 => c2 h2.2⟩, fun h => h.1⟩
  · rw [if_neg c]; exact ⟨fun h => ⟨h, fun h2 => c h2.1⟩, fun h => h.1⟩
theorem goT_iff {n : Nat} {f : Nat → Nat → Bool} (hf : Sy n f) (v p q : Nat) : goT f v p q = true ↔ ((f p q = true ∨ (f v p = true ∧ f v q = true ∧ p ≠ q)) ∧ ¬ ((p = v ∧ f v q = true) ∨ (f v p = true ∧ q = v))) := by
  unfold goT
  have hvv := hf.2.1 v
  by_cases c1 : p = v
  · subst c1
    simp [hvv]
  · by_cases c2 : q = v
    · subst c2
      rw [hf.1 p q]
      simp [c1, hvv]
    · simp [c1, c2]
theorem go_l2 (n : Nat) (hn : n ≤ 1000) (f F : Nat → Nat → Bool) (v : Nat) (hv : v < n) (l : List Nat) (hl : ∀ x ∈ l, x < n) (hll : l.length ≤ 1000)
    (hF : ∀ g : Nat → Nat → Bool, (∀ p q, g p q = true ↔ f p q = true ∧ ¬ ∃ j, j < l.length ∧ ((p = v ∧ q = wAt l j) ∨ (p = wAt l j ∧ q = v))) → mat n g = mat n F) (d : Nat) :
    ∀ j (g : Nat → Nat → Bool), j + d = l.length → (∀ p q, g p q = true ↔ f p q = true ∧ ¬ ∃ j', j' < j ∧ ((p = v ∧ q = wAt l j') ∨ (p = wAt l j' ∧ q = v))) → Ev (fun k => arboristref09_Go.l2 k (mat n g) (v : Int) (gI l) (j : Int)) (mat n F) := by
  induction d with
  | zero =>
    intro j g h hg
    obtain rfl : j = l.length := by omega
    exact evs0 (fun k => by rw [arboristref09_Go.l2, gI_len, if_neg (by omega), hF g hg])
  | succ d ih =>
    intro j g h hg
    have h2 := hl _ (wAt_in (show j < l.length by omega))
    have h3 := ih (j + 1) (setT (setT g v (wAt l j) false) (wAt l j) v false) (by omega) (fun p q => by
      rw [setT_false, setT_false, hg]
      constructor
      · rintro ⟨⟨⟨a, b⟩, c⟩, e⟩
        refine ⟨a, fun ⟨j', hj', hh⟩ => ?_⟩
        by_cases cj : j' = j
        · subst cj
          rcases hh with hh | hh
          · exact c hh
          · exact e hh
        · exact b ⟨j', by omega, hh⟩
      · rintro ⟨a, b⟩
        exact ⟨⟨⟨a, fun ⟨j', hj', hh⟩ => b ⟨j', by omega, hh⟩⟩, fun hh => b ⟨j, by omega, .inl hh⟩⟩, fun hh => b ⟨j, by omega, .inr hh⟩⟩)
    refine evp h3 (fun k e => ?_)
    rw [arboristref09_Go.l2, gI_len, if_pos (by omega), if_pos (by omega), mat_len, if_pos (by omega), if_pos (by omega), gI_rd, if_pos (by omega), mat_rd n g v hv, rowT_len, if_pos (by omega)]
    rw [Option.bind_some, if_pos (by omega)]
    have e1 := setT_mat n g v (wAt l j) false hv h2
    rw [mat_rd n g v hv] at e1
    rw [Int.toNat_natCast, Int.toNat_natCast, e1, mat_rd n _ _ h2, rowT_len, if_pos (by omega)]
    have e2 := setT_mat n (setT g v (wAt l j) false) (wAt l j) v false h2 hv
    rw [mat_rd n _ _ h2] at e2
    rw [e2, wrap_nat j (by omega)]
    exact e
def Did (f : Nat → Nat → Bool) (l : List Nat) (i k : Nat) (g : Nat → Nat → Bool) : Prop := ∀ p q, g p q = true ↔ f p q = true ∨ ∃ i' k', i' < l.length ∧ k' < l.length ∧ i' ≠ k' ∧ (i' < i ∨ (i' = i ∧ k' < k)) ∧ wAt l i' = p ∧ wAt l k' = q
theorem go_l1 (n : Nat) (hn : n ≤ 1000) (f : Nat → Nat → Bool) (v : Nat) (l : List Nat) (hl : ∀ x ∈ l, x < n) (hll : l.length ≤ 1000) (R : List (List Bool)) (i : Nat) (hi : i < l.length)
    (H : ∀ g, Did f l (i + 1) 0 g → Ev (fun k => arboristref09_Go.l0 k (mat n g) (v : Int) (gI l) ((i + 1 : Nat) : Int)) R) (d : Nat) : ∀ j g, j + d = l.length → Did f l i j g → Ev (fun k => arboristref09_Go.l1 k (mat n g) (v : Int) (gI l) (i : Int) (j : Int)) R := by
  induction d with
  | zero =>
    intro j g h hg
    obtain rfl : j = l.length := by omega
    refine evp (H g (fun p q => by
      rw [hg]
      constructor
      · rintro (a | ⟨i', k', h1, h2, h3, h4, h5⟩)
        · exact .inl a
        · exact .inr ⟨i', k', h1, h2, h3, .inl (by omega), h5⟩
      · rintro (a | ⟨i', k', h1, h2, h3, h4, h5⟩)
        · exact .inl a
        · exact .inr ⟨i', k', h1, h2, h3, by omega, h5⟩)) (fun k e => ?_)
    rw [arboristref09_Go.l1, gI_len, if_neg (by omega), wrap_nat i (by omega)]
    exact e
  | succ d ih =>
    intro j g h hg
    have h1 := hl _ (wAt_in hi)
    have h2 := hl _ (wAt_in (show j < l.length by omega))
    by_cases c : i = j
    · subst c
      refine evp (ih (i + 1) g (by omega) (fun p q => by
        rw [hg]
        constructor
        · rintro (a | ⟨i', k', q1, q2, q3, q4, q5⟩)
          · exact .inl a
          · exact .inr ⟨i', k', q1, q2, q3, by omega, q5⟩
        · rintro (a | ⟨i', k', q1, q2, q3, q4, q5⟩)
          · exact .inl a
          · exact .inr ⟨i', k', q1, q2, q3, by omega, q5⟩)) (fun k e => ?_)
      rw [arboristref09_Go.l1, gI_len, if_pos (by omega), if_pos rfl, wrap_nat i (by omega)]
      exact e
    · refine evp (ih (j + 1) (setT g (wAt l i) (wAt l j) true) (by omega) (fun p q => by
        rw [setT_true, hg]
        constructor
        · rintro ((a | ⟨i', k', q1, q2, q3, q4, q5⟩) | ⟨e1, e2⟩)
          · exact .inl a
          · exact .inr ⟨i', k', q1, q2, q3, by omega, q5⟩
          · exact .inr ⟨i, j, hi, by omega, c, .inr ⟨rfl, by omega⟩, e1.symm, e2.symm⟩
        · rintro (a | ⟨i', k', q1, q2, q3, q4, q5, q6⟩)
          · exact .inl (.inl a)
          · by_cases cc : i' = i ∧ k' = j
            · rw [cc.1] at q5; rw [cc.2] at q6; exact .inr ⟨q5.symm, q6.symm⟩
            · exact .inl (.inr ⟨i', k', q1, q2, q3, by omega, q5, q6⟩))) (fun k e => ?_)
      have e1 := setT_mat n g (wAt l i) (wAt l j) true h1 h2
      rw [mat_rd n g _ h1] at e1
      rw [arboristref09_Go.l1, gI_len, if_pos (by omega), if_neg (by omega), if_pos (by omega), if_pos (by omega), gI_rd, gI_rd, if_pos (by omega), mat_len, if_pos (by omega), if_pos (by omega), if_pos (by omega), mat_rd n g _ h1, rowT_len, if_pos (by omega), Int.toNat_natCast, Int.toNat_natCast, e1, wrap_nat j (by omega)]
      exact e
theorem go_l0 (n : Nat) (hn : n ≤ 1000) (f : Nat → Nat → Bool) (v : Nat) (l : List Nat) (hl : ∀ x ∈ l, x < n) (hll : l.length ≤ 1000) (R : List (List Bool))
    (H : ∀ g, Did f l l.length 0 g → Ev (fun k => arboristref09_Go.l2 k (mat n g) (v : Int) (gI l) 0) R) (d : Nat) : ∀ i g, i + d = l.length → Did f l i 0 g → Ev (fun k => arboristref09_Go.l0 k (mat n g) (v : Int) (gI l) (i : Int)) R := by
  induction d with
  | zero =>
    intro i g h hg
    obtain rfl : i = l.length := by omega
    refine evp (H g hg) (fun k e => ?_)
    rw [arboristref09_Go.l0, gI_len, if_neg (by omega)]
    exact e
  | succ d ih =>
    intro i g h hg
    refine evp (go_l1 n hn f v l hl hll R i (by omega) (fun g' hg' => ih (i + 1) g' (by omega) hg') l.length 0 g (by omega) hg) (fun k e => ?_)
    rw [arboristref09_Go.l0, gI_len, if_pos (by omega)]
    exact e
theorem go_ev (n : Nat) (hn : n ≤ 1000) (f : Nat → Nat → Bool) (hf : Sy n f) (v : Nat) (hv : v < n) : Ev (fun k => arboristref09_Go.f k (mat n f) (v : Int)) (mat n (goT f v)) := by
  have hln := nbN_len n f v
  have hin : ∀ x ∈ nbN n f v, x < n := fun x hx => (mem_nbN.1 hx).1
  have hat : ∀ x, (∃ j, j < (nbN n f v).length ∧ wAt (nbN n f v) j = x) ↔ f v x = true := fun x => by
    constructor
    · rintro ⟨j, hj, rfl⟩; exact (mem_nbN.1 (wAt_in hj)).2
    · intro h
      obtain ⟨j, hj, e⟩ := List.getElem_of_mem (mem_nbN.2 ⟨(hf.2.2 _ _ h).2, h⟩)
      exact ⟨j, hj, by rw [wAt_get _ _ hj, e]⟩
  refine evu2 (neigh9 n hn f v hv) (go_l0 n hn f v (nbN n f v) hin (by omega) (mat n (goT f v)) (fun g hg => ?_) (nbN n f v).length 0 f (by omega) (fun p q => ⟨.inl, fun h => h.elim id (fun ⟨i', k', _, _, _, h4, _⟩ => by omega)⟩)) (fun k e1 e2 => ?_)
  · refine go_l2 n hn g (goT f v) v hv (nbN n f v) hin (by omega) (fun g2 hg2 => mat_congr (fun p q hp hq => ?_)) (nbN n f v).length 0 g (by omega) (fun p q => ⟨fun h => ⟨h, fun ⟨j', hj', _⟩ => by omega⟩, fun h => h.1⟩)
    have e : g2 p q = true ↔ goT f v p q = true := by
      rw [hg2, hg, goT_iff hf]
      have m1 : (∃ i' k', i' < (nbN n f v).length ∧ k' < (nbN n f v).length ∧ i' ≠ k' ∧ (i' < (nbN n f v).length ∨ (i' = (nbN n f v).length ∧ k' < 0)) ∧ wAt (nbN n f v) i' = p ∧ wAt (nbN n f v) k' = q) ↔ (f v p = true ∧ f v q = true ∧ p ≠ q) := by
        constructor
        · rintro ⟨i', k', h1, h2, h3, _, h5, h6⟩
          refine ⟨(hat p).1 ⟨i', h1, h5⟩, (hat q).1 ⟨k', h2, h6⟩, fun e => h3 ?_⟩
          have hnd : (nbN n f v).Nodup := List.Nodup.sublist List.filter_sublist List.nodup_range
          rw [wAt_get _ _ h1] at h5
          rw [wAt_get _ _ h2] at h6
          exact nodup_at hnd h1 h2 (by rw [h5, h6, e])
        · rintro ⟨h1, h2, h3⟩
          obtain ⟨i', a1, a2⟩ := (hat p).2 h1
          obtain ⟨k', b1, b2⟩ := (hat q).2 h2
          exact ⟨i', k', a1, b1, fun e => h3 (by rw [← a2, ← b2, e]), .inl a1, a2, b2⟩
      have m2 : (∃ j, j < (nbN n f v).length ∧ ((p = v ∧ q = wAt (nbN n f v) j) ∨ (p = wAt (nbN n f v) j ∧ q = v))) ↔ ((p = v ∧ f v q = true) ∨ (f v p = true ∧ q = v)) := by
        constructor
        · rintro ⟨j, h1, (⟨h2, h3⟩ | ⟨h2, h3⟩)⟩
          · exact .inl ⟨h2, (hat q).1 ⟨j, h1, h3.symm⟩⟩
          · exact .inr ⟨(hat p).1 ⟨j, h1, h2.symm⟩, h3⟩
        · rintro (⟨h2, h3⟩ | ⟨h2, h3⟩)
          · obtain ⟨j, a1, a2⟩ := (hat q).2 h3; exact ⟨j, a1, .inl ⟨h2, a2.symm⟩⟩
          · obtain ⟨j, a1, a2⟩ := (hat p).2 h2; exact ⟨j, a1, .inr ⟨a2.symm, h3⟩⟩
      rw [m1, m2]
    cases h1 : g2 p q <;> cases h2 : goT f v p q <;> simp_all
  · rw [arboristref09_Go.f, e1, Option.bind_some]
    exact e2
theorem copy_l0 (n : Nat) (hn : n ≤ 1000) (f : Nat → Nat → Bool) (d : Nat) : ∀ i, i + d = n → Ev (fun k => arboristref09_Copy.l0 k (mat n f) ((List.range i).map fun j => rowT n (f j)) (i : Int)) (mat n f) := by
  induction d with
  | zero =>
    intro i h
    obtain rfl : i = n := by omega
    exact evs0 (fun k => by rw [arboristref09_Copy.l0, mat_len, if_neg (by omega)]; rfl)
  | succ d ih =>
    intro i h
    refine evp (ih (i + 1) (by omega)) (fun k e => ?_)
    rw [arboristref09_Copy.l0, mat_len, if_pos (by omega), Option.bind_some, if_pos (by omega), mat_rd n f i (by omega), rowT_len, if_pos (by simp; omega), List.length_map, List.length_range, if_pos (by omega), List.nil_append, wrap_nat i (by omega)]
    rw [List.range_succ, List.map_append] at e
    exact e
theorem copy_ev (n : Nat) (hn : n ≤ 1000) (f : Nat → Nat → Bool) : Ev (fun k => arboristref09_Copy.f k (mat n f)) (mat n f) := copy_l0 n hn f n 0 (by omega)
theorem nbN_nodup (n : Nat) (f : Nat → Nat → Bool) (v : Nat) : (nbN n f v).Nodup := List.Nodup.sublist List.filter_sublist List.nodup_range
def cardC (n : Nat) (f : Nat → Nat → Bool) (left : Nat → Bool) (x : Nat) : Nat := (List.range n).countP (fun k => f x k && !left k)
def wT (how : Int) (n : Nat) (f0 f : Nat → Nat → Bool) (left : Nat → Bool) (x : Int) : Int :=
  if how = 1 then ((missT n f x.toNat : Nat) : Int) else if how = 2 then ((nbN n f x.toNat).length : Int) else -((cardC n f0 left x.toNat : Nat) : Int)
def without (left : Nat → Bool) (v : Nat) : Nat → Bool := fun i => left i && !decide (v = i)
def planT (how : Int) (n : Nat) (f0 : Nat → Nat → Bool) : Nat → (Nat → Nat → Bool) → (Nat → Bool) → List Int
  | 0, _, _ => []
  | k + 1, f, left => if ofT n left = [] then [] else
      let v := (leastF (wT how n f0 f left) (ofT n left)).toNat
      (v : Int) :: planT how n f0 k (if how = 3 then f else goT f v) (without left v)
theorem mem_ofT {n : Nat} {g : Nat → Bool} {x : Int} : x ∈ ofT n g ↔ ∃ i : Nat, i < n ∧ g i = true ∧ x = (i : Int) := by
  unfold ofT
  simp only [List.mem_map, List.mem_filter, List.mem_range]
  constructor
  · rintro ⟨i, ⟨h1, h2⟩, rfl⟩; exact ⟨i, h1, h2, rfl⟩
  · rintro ⟨i, h1, h2, rfl⟩; exact ⟨i, ⟨h1, h2⟩, rfl⟩
theorem least9 {n : Nat} {left : Nat → Bool} (g : Int → Int) (h : ofT n left ≠ []) : ∃ v : Nat, v < n ∧ left v = true ∧ leastF g (ofT n left) = (v : Int) := by
  have hm := leastF_in g (ofT n left) (fun x hx => by obtain ⟨i, _, _, rfl⟩ := mem_ofT.1 hx; omega) h
  obtain ⟨i, h1, h2, h3⟩ := mem_ofT.1 hm
  exact ⟨i, h1, h2, h3⟩
def orderT (how : Int) (n : Nat) (f : Nat → Nat → Bool) : List Int := if how = 3 then (planT how n f 64 f (fun _ => true)).reverse else planT how n f 64 f (fun _ => true)
def fromT (n : Nat) (left : Nat → Bool) (j : Nat) : List Int := ((List.range' j (n - j)).filter left).map fun (i : Nat) => (i : Int)
theorem fromT_zero (n : Nat) (left : Nat → Bool) : fromT n left 0 = ofT n left := by unfold fromT ofT; rw [Nat.sub_zero, ← List.range_eq_range']
theorem fromT_end (n : Nat) (left : Nat → Bool) : fromT n left n = [] := by unfold fromT; rw [Nat.sub_self]; rfl
theorem fromT_step (n : Nat) (left : Nat → Bool) (j : Nat) (h : j < n) : fromT n left j = if left j = true then (j : Int) :: fromT n left (j + 1) else fromT n left (j + 1) := by
  unfold fromT
  rw [ofT_from n left j h]
  split <;> rfl
theorem cnt_without (left : Nat → Bool) (v : Nat) : ∀ n, (List.range n).countP left = (List.range n).countP (without left v) + (if v < n ∧ left v = true then 1 else 0)
  | 0 => by simp
  | n + 1 => by
    have ih := cnt_without left v n
    rw [List.range_succ, List.countP_append, List.countP_append, List.countP_cons, List.countP_cons, List.countP_nil, List.countP_nil, ih]
    unfold without
    by_cases c : v = n
    · subst c
      cases h : left v <;> simp
    · rw [decide_eq_false c]
      have e : (v < n + 1 ∧ left v = true) ↔ (v < n ∧ left v = true) := ⟨fun h => ⟨by omega, h.2⟩, fun h => ⟨by omega, h.2⟩⟩
      cases h : left n <;> by_cases c2 : v < n ∧ left v = true <;> simp [c2, e]
      all_goals omega
theorem ofT_count (n : Nat) (left : Nat → Bool) : (ofT n left).length = (List.range n).countP left := by unfold ofT; rw [List.length_map, List.countP_eq_length_filter]
theorem ofT_without {n : Nat} {left : Nat → Bool} {v : Nat} (hv : v < n) (hl : left v = true) : (ofT n left).length = (ofT n (without left v)).length + 1 := by
  rw [ofT_count, ofT_count, cnt_without left v n, if_pos ⟨hv, hl⟩]
theorem gone_set (n : Nat) (left : Nat → Bool) (v : Nat) : (rowT n fun i => !left i).set v true = rowT n fun i => !(without left v i) := by
  rw [rowT_set]
  refine rowT_congr (fun j hj => ?_)
  unfold without
  by_cases c : j = v
  · rw [if_pos c, decide_eq_true c.symm]; simp
  · rw [if_neg c, decide_eq_false (fun e => c e.symm)]; simp
theorem rgoes_l1 (n : Nat) (hn : n ≤ 40) (f0 f : Nat → Nat → Bool) (fill : Bool) (how : Int) (hh : how = if fill = true then 1 else 2) (left : Nat → Bool) (out : List Int) (R : List Int) (bF : Int)
    (H : ∀ m, Ev (fun k => arboristref09_goes.l1 k (mat n f) fill (rowT n fun i => !left i) out bF m (n : Int)) R) (d : Nat) :
    ∀ (j : Nat) (b m : Int), j + d = n → (b < 0 ∨ m = wT how n f0 f left b) → (fromT n left j).foldl (lessW (wT how n f0 f left)) b = bF → Ev (fun k => arboristref09_goes.l1 k (mat n f) fill (rowT n fun i => !left i) out b m (j : Int)) R := by
  induction d with
  | zero =>
    intro j b m h hb hF
    obtain rfl : j = n := by omega
    rw [fromT_end, List.foldl_nil] at hF
    rw [hF]
    exact H m
  | succ d ih =>
    intro j b m h hb hF
    have hj : j < n := by omega
    rw [fromT_step n left j hj] at hF
    have hg : rdOf false (rowT n fun i => !left i) (j : Int) = !left j := rowT_rd n _ j hj
    cases hl : left j with
    | false =>
      rw [hl, if_neg (by decide)] at hF
      refine evp (ih (j + 1) b m (by omega) hb hF) (fun k e => ?_)
      rw [arboristref09_goes.l1, mat_len, if_pos (by omega), if_pos (by omega), rowT_len, if_pos (by omega), hg, hl, if_pos (show (!false) = true from rfl), wrap_nat j (by omega)]
      exact e
    | true =>
      rw [hl, if_pos rfl, List.foldl_cons] at hF
      have e1 := neigh9 n (by omega) f j hj
      have e2 := missing_ev n (by omega) f j hj
      have hv : wT how n f0 f left (j : Int) = if fill = true then ((missT n f j : Nat) : Int) else ((nbN n f j).length : Int) := by
        unfold wT
        rw [hh, Int.toNat_natCast]
        cases fill <;> simp
      have hnew : ∀ (b' m' : Int), b' = lessW (wT how n f0 f left) b (j : Int) → (b' < 0 ∨ m' = wT how n f0 f left b') → Ev (fun k => arboristref09_goes.l1 k (mat n f) fill (rowT n fun i => !left i) out b' m' ((j + 1 : Nat) : Int)) R := fun b' m' hb' hm' => ih (j + 1) b' m' (by omega) hm' (by rw [hb']; exact hF)
      by_cases cb : b < 0
      · have el : lessW (wT how n f0 f left) b (j : Int) = (j : Int) := by unfold lessW; rw [if_pos cb]
        refine evs3 e1 e2 (hnew (j : Int) (wT how n f0 f left (j : Int)) el.symm (.inr rfl)) (fun k q1 q2 q3 => ?_)
        rw [arboristref09_goes.l1, mat_len, if_pos (by omega), if_pos (by omega), rowT_len, if_pos (by omega), hg, hl, if_neg (show ¬ (!true) = true by decide), q1, Option.bind_some]
        rw [hv] at q3
        cases fill with
        | true => rw [if_pos rfl, q2, Option.bind_some, if_pos cb, wrap_nat j (by omega)]; exact q3
        | false => rw [if_neg (by decide), if_pos cb, gI_len, wrap_nat j (by omega)]; exact q3
      · have hm := hb.resolve_left cb
        by_cases cl : wT how n f0 f left (j : Int) < wT how n f0 f left b
        · have el : lessW (wT how n f0 f left) b (j : Int) = (j : Int) := by unfold lessW; rw [if_neg cb, if_pos cl]
          refine evs3 e1 e2 (hnew (j : Int) (wT how n f0 f left (j : Int)) el.symm (.inr rfl)) (fun k q1 q2 q3 => ?_)
          rw [arboristref09_goes.l1, mat_len, if_pos (by omega), if_pos (by omega), rowT_len, if_pos (by omega), hg, hl, if_neg (show ¬ (!true) = true by decide), q1, Option.bind_some]
          rw [hv] at q3
          rw [hv, ← hm] at cl
          cases fill with
          | true => rw [if_pos rfl] at cl; rw [if_pos rfl, q2, Option.bind_some, if_neg cb, if_pos cl, wrap_nat j (by omega)]; exact q3
          | false => rw [if_neg (by decide)] at cl; rw [if_neg (by decide), if_neg cb, gI_len, if_pos cl, wrap_nat j (by omega)]; exact q3
        · have el : lessW (wT how n f0 f left) b (j : Int) = b := by unfold lessW; rw [if_neg cb, if_neg cl]
          refine evs3 e1 e2 (hnew b m el.symm (.inr hm)) (fun k q1 q2 q3 => ?_)
          rw [arboristref09_goes.l1, mat_len, if_pos (by omega), if_pos (by omega), rowT_len, if_pos (by omega), hg, hl, if_neg (show ¬ (!true) = true by decide), q1, Option.bind_some]
          rw [hv, ← hm] at cl
          cases fill with
          | true => rw [if_pos rfl] at cl; rw [if_pos rfl, q2, Option.bind_some, if_neg cb, if_neg cl, wrap_nat j (by omega)]; exact q3
          | false => rw [if_neg (by decide)] at cl; rw [if_neg (by decide), if_neg cb, gI_len, if_neg cl, wrap_nat j (by omega)]; exact q3
theorem rgoes_l0 (n : Nat) (hn : n ≤ 40) (f0 : Nat → Nat → Bool) (fill : Bool) (how : Int) (hh : how = if fill = true then 1 else 2) (kk : Nat) :
    ∀ (f : Nat → Nat → Bool) (left : Nat → Bool) (out : List Int), Sy n f → out.length + (ofT n left).length = n → (ofT n left).length ≤ kk → Ev (fun k => arboristref09_goes.l0 k (mat n f) fill (rowT n fun i => !left i) out) (out ++ planT how n f0 kk f left) := by
  have hne3 : how ≠ 3 := by rw [hh]; cases fill <;> simp
  induction kk with
  | zero =>
    intro f left out hf ho hk
    rw [planT, List.append_nil]
    exact evs0 (fun k => by rw [arboristref09_goes.l0, mat_len, if_neg (by omega)])
  | succ kk ih =>
    intro f left out hf ho hk
    rw [planT]
    by_cases c : ofT n left = []
    · rw [if_pos c, List.append_nil]
      rw [c] at ho
      exact evs0 (fun k => by rw [arboristref09_goes.l0, mat_len, if_neg (by simp at ho; omega)])
    · rw [if_neg c]
      obtain ⟨v, hv, hlv, ev⟩ := least9 (wT how n f0 f left) c
      have hpos : 0 < (ofT n left).length := List.length_pos_iff.2 c
      have hcnt := ofT_without hv hlv
      simp only [ev, Int.toNat_natCast]
      rw [if_neg hne3]
      have hr := ih (goT f v) (without left v) (out ++ [(v : Int)]) (hf.go v) (by rw [List.length_append]; simp; omega) (by omega)
      rw [List.append_assoc] at hr
      refine evp (rgoes_l1 n hn f0 f fill how hh left out (out ++ ([(v : Int)] ++ planT how n f0 kk (goT f v) (without left v))) (v : Int) (fun m => ?_) n 0 (-1) 0 (by omega) (.inl (by decide)) (by rw [fromT_zero]; exact ev)) (fun k e => ?_)
      · refine evs2 (go_ev n (by omega) f hf v hv) hr (fun k q1 q2 => ?_)
        rw [arboristref09_goes.l1, mat_len, if_neg (by omega), q1, Option.bind_some, if_pos (by omega), rowT_len, if_pos (by omega), if_pos (by omega), Int.toNat_natCast, gone_set]
        exact q2
      · rw [arboristref09_goes.l0, mat_len, if_pos (by omega)]
        exact e
theorem ofT_all (n : Nat) : (ofT n fun _ => true).length = n := by rw [ofT_count]; simp
theorem rgoes_ev (n : Nat) (hn : n ≤ 40) (f : Nat → Nat → Bool) (hf : Sy n f) (fill : Bool) (how : Int) (hh : how = if fill = true then 1 else 2) : Ev (fun k => arboristref09_goes.f k (mat n f) fill) (planT how n f 64 f fun _ => true) := by
  have h0 := rgoes_l0 n hn f fill how hh 64 f (fun _ => true) [] hf (by rw [ofT_all]; simp) (by rw [ofT_all]; omega)
  rw [List.nil_append] at h0
  refine evu2 (copy_ev n (by omega) f) h0 (fun k e1 e2 => ?_)
  rw [arboristref09_goes.f, e1, Option.bind_some, mat_len, if_pos (by omega), if_pos (by omega), Int.toNat_natCast, rep_row]
  exact e2
def cntJ (n : Nat) (f : Nat → Nat → Bool) (left : Nat → Bool) (x j : Nat) : Nat := (List.range j).countP (fun k => f x k && !left k)
theorem cntJ_succ (n : Nat) (f : Nat → Nat → Bool) (left : Nat → Bool) (x j : Nat) : cntJ n f left x (j + 1) = cntJ n f left x j + if f x j = true ∧ left j = false then 1 else 0 := by
  unfold cntJ
  rw [List.range_succ, List.countP_append, List.countP_cons, List.countP_nil]
  cases f x j <;> cases left j <;> simp
theorem cntJ_le (n : Nat) (f : Nat → Nat → Bool) (left : Nat → Bool) (x j : Nat) : cntJ n f left x j ≤ j := Nat.le_trans List.countP_le_length (by simp)
theorem rcard_l2 (n : Nat) (hn : n ≤ 40) (f : Nat → Nat → Bool) (left : Nat → Bool) (out : List Int) (b m : Int) (v : Nat) (hv : v < n) (R : List Int)
    (H : Ev (fun k => arboristref09_card.l2 k (mat n f) (rowT n fun i => !left i) out b m (v : Int) ((cntJ n f left v n : Nat) : Int) (n : Int)) R) (d : Nat) :
    ∀ j, j + d = n → Ev (fun k => arboristref09_card.l2 k (mat n f) (rowT n fun i => !left i) out b m (v : Int) ((cntJ n f left v j : Nat) : Int) (j : Int)) R := by
  induction d with
  | zero =>
    intro j h
    obtain rfl : j = n := by omega
    exact H
  | succ d ih =>
    intro j h
    have hc := cntJ_le n f left v j
    have hr := ih (j + 1) (by omega)
    rw [cntJ_succ] at hr
    refine evp hr (fun k e => ?_)
    have hg : rdOf false (rowT n fun i => !left i) (j : Int) = !left j := rowT_rd n _ j (by omega)
    rw [arboristref09_card.l2, mat_len, if_pos (by omega), if_pos (by omega), if_pos (by omega), if_pos (by omega), mat_rd n f v hv, rowT_len, if_pos (by omega), rowT_rd n _ j (by omega), wrap_nat j (by omega)]
    cases h1 : f v j with
    | false => rw [if_neg Bool.false_ne_true]; rw [h1, if_neg (by simp), Nat.add_zero] at e; exact e
    | true =>
      rw [if_pos rfl, rowT_len, if_pos (by omega), hg]
      cases h2 : left j with
      | false => rw [if_pos (show (!false) = true from rfl), wrap_nat _ (by omega)]; rw [h1, h2, if_pos ⟨rfl, rfl⟩] at e; exact e
      | true => rw [if_neg (show ¬ (!true) = true by decide)]; rw [h1, h2, if_neg (by simp), Nat.add_zero] at e; exact e
theorem rcard_l1 (n : Nat) (hn : n ≤ 40) (f : Nat → Nat → Bool) (left : Nat → Bool) (out : List Int) (R : List Int) (bF : Int)
    (H : ∀ m, Ev (fun k => arboristref09_card.l1 k (mat n f) (rowT n fun i => !left i) out bF m (n : Int)) R) (d : Nat) :
    ∀ (j : Nat) (b m : Int), j + d = n → (b < 0 ∨ -m = wT 3 n f f left b) → (fromT n left j).foldl (lessW (wT 3 n f f left)) b = bF → Ev (fun k => arboristref09_card.l1 k (mat n f) (rowT n fun i => !left i) out b m (j : Int)) R := by
  induction d with
  | zero =>
    intro j b m h hb hF
    obtain rfl : j = n := by omega
    rw [fromT_end, List.foldl_nil] at hF
    rw [hF]
    exact H m
  | succ d ih =>
    intro j b m h hb hF
    have hj : j < n := by omega
    rw [fromT_step n left j hj] at hF
    have hg : rdOf false (rowT n fun i => !left i) (j : Int) = !left j := rowT_rd n _ j hj
    have hv : wT 3 n f f left (j : Int) = -((cntJ n f left j n : Nat) : Int) := by
      unfold wT
      rw [if_neg (by decide), if_neg (by decide), Int.toNat_natCast]
      rfl
    have hin : ∀ b' m' : Int, Ev (fun k => arboristref09_card.l2 k (mat n f) (rowT n fun i => !left i) out b m (j : Int) ((cntJ n f left j n : Nat) : Int) (n : Int)) R → Ev (fun k => arboristref09_card.l1 k (mat n f) (rowT n fun i => !left i) out b m (j : Int)) R := fun b' m' HH => by
      refine evp (rcard_l2 n hn f left out b m j hj R HH n 0 (by omega)) (fun k e => ?_)
      rw [arboristref09_card.l1, mat_len, if_pos (by omega)]
      exact e
    refine hin 0 0 ?_
    cases hl : left j with
    | false =>
      rw [hl, if_neg (by decide)] at hF
      refine evp (ih (j + 1) b m (by omega) hb hF) (fun k e => ?_)
      rw [arboristref09_card.l2, mat_len, if_neg (by omega), if_pos (by omega), rowT_len, if_pos (by omega), hg, hl, if_pos (show (!false) = true from rfl), wrap_nat j (by omega)]
      exact e
    | true =>
      rw [hl, if_pos rfl, List.foldl_cons] at hF
      by_cases cb : b < 0
      · have el : lessW (wT 3 n f f left) b (j : Int) = (j : Int) := by unfold lessW; rw [if_pos cb]
        rw [el] at hF
        refine evp (ih (j + 1) (j : Int) ((cntJ n f left j n : Nat) : Int) (by omega) (.inr hv.symm) hF) (fun k e => ?_)
        rw [arboristref09_card.l2, mat_len, if_neg (by omega), if_pos (by omega), rowT_len, if_pos (by omega), hg, hl, if_neg (show ¬ (!true) = true by decide), if_pos cb, wrap_nat j (by omega)]
        exact e
      · have hm := hb.resolve_left cb
        by_cases cl : wT 3 n f f left (j : Int) < wT 3 n f f left b
        · have el : lessW (wT 3 n f f left) b (j : Int) = (j : Int) := by unfold lessW; rw [if_neg cb, if_pos cl]
          rw [el] at hF
          refine evp (ih (j + 1) (j : Int) ((cntJ n f left j n : Nat) : Int) (by omega) (.inr hv.symm) hF) (fun k e => ?_)
          rw [hv, ← hm] at cl
          rw [arboristref09_card.l2, mat_len, if_neg (by omega), if_pos (by omega), rowT_len, if_pos (by omega), hg, hl, if_neg (show ¬ (!true) = true by decide), if_neg cb, if_pos (by omega), wrap_nat j (by omega)]
          exact e
        · have el : lessW (wT 3 n f f left) b (j : Int) = b := by unfold lessW; rw [if_neg cb, if_neg cl]
          rw [el] at hF
          refine evp (ih (j + 1) b m (by omega) (.inr hm) hF) (fun k e => ?_)
          rw [hv, ← hm] at cl
          rw [arboristref09_card.l2, mat_len, if_neg (by omega), if_pos (by omega), rowT_len, if_pos (by omega), hg, hl, if_neg (show ¬ (!true) = true by decide), if_neg cb, if_neg (by omega), wrap_nat j (by omega)]
          exact e
theorem rcard_l0 (n : Nat) (hn : n ≤ 40) (f : Nat → Nat → Bool) (kk : Nat) :
    ∀ (left : Nat → Bool) (out : List Int), out.length + (ofT n left).length = n → (ofT n left).length ≤ kk → Ev (fun k => arboristref09_card.l0 k (mat n f) (rowT n fun i => !left i) out) ((planT 3 n f kk f left).reverse ++ out) := by
  induction kk with
  | zero =>
    intro left out ho hk
    rw [planT, List.reverse_nil, List.nil_append]
    exact evs0 (fun k => by rw [arboristref09_card.l0, mat_len, if_neg (by omega)])
  | succ kk ih =>
    intro left out ho hk
    rw [planT]
    by_cases c : ofT n left = []
    · rw [if_pos c, List.reverse_nil, List.nil_append]
      rw [c] at ho
      exact evs0 (fun k => by rw [arboristref09_card.l0, mat_len, if_neg (by simp at ho; omega)])
    · rw [if_neg c]
      obtain ⟨v, hv, hlv, ev⟩ := least9 (wT 3 n f f left) c
      have hpos : 0 < (ofT n left).length := List.length_pos_iff.2 c
      have hcnt := ofT_without hv hlv
      simp only [ev, Int.toNat_natCast]
      rw [if_pos trivial, List.reverse_cons, List.append_assoc]
      have hr := ih (without left v) ([(v : Int)] ++ out) (by rw [List.length_append]; simp; omega) (by omega)
      refine evp (rcard_l1 n hn f left out _ (v : Int) (fun m => ?_) n 0 (-1) 0 (by omega) (.inl (by decide)) (by rw [fromT_zero]; exact ev)) (fun k e => ?_)
      · refine evp hr (fun k q => ?_)
        rw [arboristref09_card.l1, mat_len, if_neg (by omega), if_pos (by omega), rowT_len, if_pos (by omega), Option.bind_some, if_pos (by simp; omega), Int.toNat_natCast, gone_set]
        exact q
      · rw [arboristref09_card.l0, mat_len, if_pos (by omega)]
        exact e
theorem rcard_ev (n : Nat) (hn : n ≤ 40) (f : Nat → Nat → Bool) : Ev (fun k => arboristref09_card.f k (mat n f)) (planT 3 n f 64 f fun _ => true).reverse := by
  have h0 := rcard_l0 n hn f 64 (fun _ => true) [] (by rw [ofT_all]; simp) (by rw [ofT_all]; omega)
  rw [List.append_nil] at h0
  refine evu1 h0 (fun k e => ?_)
  rw [arboristref09_card.f, mat_len, if_pos (by omega), if_pos (by omega), Int.toNat_natCast, rep_row]
  exact e
theorem rof_ev (n : Nat) (hn : n ≤ 40) (f : Nat → Nat → Bool) (hf : Sy n f) (how : Int) (h1 : 1 ≤ how) (h3 : how ≤ 3) : Ev (fun k => arboristref09_Of.f k (mat n f) how) (orderT how n f) := by
  unfold orderT
  by_cases c : how = 3
  · rw [if_pos c]
    subst c
    refine evu1 (rcard_ev n hn f) (fun k e => ?_)
    rw [arboristref09_Of.f, if_pos rfl, e, Option.bind_some]
  · rw [if_neg c]
    refine evu1 (rgoes_ev n hn f hf (how == 1) how (by by_cases c1 : how = 1 <;> simp [c1]; omega)) (fun k e => ?_)
    rw [arboristref09_Of.f, if_neg c, e, Option.bind_some]
theorem perm_of_in : ∀ (xs l : List Int), xs.Nodup → (∀ x ∈ xs, x ∈ l) → l.length ≤ xs.length → l.Perm xs
  | [], l, _, _, h => by
    have : l = [] := List.eq_nil_of_length_eq_zero (by simpa using h)
    rw [this]
  | x :: xs, l, hd, hin, hl => by
    have hx : x ∈ l := hin x List.mem_cons_self
    have h1 : l.Perm (x :: l.erase x) := List.perm_cons_erase hx
    have hlen := h1.length_eq
    have h2 := perm_of_in xs (l.erase x) (List.nodup_cons.1 hd).2 (fun y hy => by
      have hne : y ≠ x := fun e => (List.nodup_cons.1 hd).1 (e ▸ hy)
      exact (List.mem_erase_of_ne hne).2 (hin y (List.mem_cons_of_mem _ hy))) (by simp at hlen hl ⊢; omega)
    exact h1.trans (h2.cons x)
def validB (n : Nat) (l : List Int) : Bool := decide (l.length = n ∧ ∀ v, v < n → l.count (v : Int) = 1)
theorem idI_count (n v : Nat) (h : v < n) : (idI n).count (v : Int) = 1 := List.Nodup.count (idI_nodup n) |>.trans (if_pos (mem_idI.2 ⟨v, h, rfl⟩))
theorem validB_perm (n : Nat) (l : List Int) : validB n l = true ↔ l.Perm (idI n) := by
  unfold validB
  rw [decide_eq_true_iff]
  constructor
  · rintro ⟨h1, h2⟩
    refine perm_of_in (idI n) l (idI_nodup n) (fun x hx => ?_) (by rw [idI_len]; omega)
    obtain ⟨v, hv, rfl⟩ := mem_idI.1 hx
    exact List.count_pos_iff.1 (by rw [h2 v hv]; decide)
  · intro h
    exact ⟨by rw [h.length_eq, idI_len], fun v hv => by rw [h.count_eq, idI_count n v hv]⟩
theorem chkN_iff : ∀ (l : List Int) (i : Nat), chkN i l = true ↔ l = (List.range' i l.length).map fun (k : Nat) => (k : Int)
  | [], i => by simp [chkN]
  | x :: l, i => by
    rw [chkN, List.length_cons, List.range'_succ, List.map_cons]
    by_cases c : (i : Int) = x
    · rw [if_pos c, chkN_iff l (i + 1)]
      constructor
      · intro h; rw [← h, c]
      · intro h; exact (List.cons.inj h).2
    · rw [if_neg c]
      constructor
      · intro h; cases h
      · intro h; exact absurd (List.cons.inj h).1.symm c
theorem idI_sorted (n : Nat) : (idI n).Pairwise (· ≤ ·) := by
  unfold idI
  rw [List.pairwise_map]
  exact List.pairwise_lt_range.imp (fun h => by omega)
theorem chk_perm (l : List Int) : chkN 0 (SortedSeq.sortZ l) = true ↔ l.Perm (idI l.length) := by
  rw [chkN_iff, SortedSeq.sortZ_len, ← List.range_eq_range']
  constructor
  · intro h
    have hp := (SortedSeq.sortZ_perm l).symm
    have e : SortedSeq.sortZ l = idI l.length := h
    rw [e] at hp
    exact hp
  · intro h
    exact SortedSeq.sortZ_uniq ((SortedSeq.sortZ_perm l).trans h) (SortedSeq.sortZ_sorted l) (idI_sorted _)
theorem pvalid_f (n : Nat) (l : List Int) (hl : l.length < 17592186043904) : order_Valid.f (n : Int) l = some (validB n l) := by
  unfold order_Valid.f
  by_cases c : l.length = n
  · rw [if_pos (by omega), if_pos hl]
    congr 1
    have h1 := chk_perm l
    rw [c] at h1
    have h2 := validB_perm n l
    rw [Bool.eq_iff_iff, h1, h2]
  · rw [if_neg (by omega)]
    congr 1
    unfold validB
    rw [decide_eq_false (fun h => c h.1)]
theorem validB_of {n : Nat} {l : List Int} (h : l.Perm (idI n)) : validB n l = true := (validB_perm n l).2 h
theorem ofT_nodup (n : Nat) (g : Nat → Bool) : (ofT n g).Nodup := by
  unfold ofT
  rw [List.Nodup, List.pairwise_map]
  exact (List.Nodup.sublist List.filter_sublist List.nodup_range).imp (fun h e => h (by omega))
theorem ofT_id (n : Nat) : (ofT n fun _ => true) = idI n := by unfold ofT idI; rw [List.filter_eq_self.2 (fun _ _ => rfl)]
theorem ofT_perm {n : Nat} {left : Nat → Bool} {v : Nat} (hv : v < n) (hl : left v = true) : ((v : Int) :: ofT n (without left v)).Perm (ofT n left) := by
  refine (perm_of_in ((v : Int) :: ofT n (without left v)) (ofT n left) (List.nodup_cons.2 ⟨fun h => ?_, ofT_nodup n _⟩) (fun x hx => ?_) (by rw [List.length_cons, ofT_without hv hl]; exact Nat.le_refl _)).symm
  · obtain ⟨i, _, h2, h3⟩ := mem_ofT.1 h
    obtain rfl : v = i := by omega
    unfold without at h2
    simp at h2
  · rcases List.mem_cons.1 hx with rfl | hx
    · exact mem_ofT.2 ⟨v, hv, hl, rfl⟩
    · obtain ⟨i, h1, h2, rfl⟩ := mem_ofT.1 hx
      unfold without at h2
      rw [Bool.and_eq_true] at h2
      exact mem_ofT.2 ⟨i, h1, h2.1, rfl⟩
theorem planT_perm (how : Int) (n : Nat) (f0 : Nat → Nat → Bool) : ∀ (k : Nat) (f : Nat → Nat → Bool) (left : Nat → Bool), (ofT n left).length ≤ k → (planT how n f0 k f left).Perm (ofT n left)
  | 0, f, left, h => by
    rw [planT, List.eq_nil_of_length_eq_zero (Nat.le_zero.1 h)]
  | k + 1, f, left, h => by
    rw [planT]
    by_cases c : ofT n left = []
    · rw [if_pos c, c]
    · rw [if_neg c]
      obtain ⟨v, hv, hlv, ev⟩ := least9 (wT how n f0 f left) c
      simp only [ev, Int.toNat_natCast]
      have hc := ofT_without hv hlv
      exact ((planT_perm how n f0 k _ (without left v) (by omega)).cons _).trans (ofT_perm hv hlv)
theorem orderT_perm (how : Int) (n : Nat) (hn : n ≤ 64) (f : Nat → Nat → Bool) : (orderT how n f).Perm (idI n) := by
  have h := planT_perm how n f 64 f (fun _ => true) (by rw [ofT_all]; exact hn)
  rw [ofT_id] at h
  unfold orderT
  by_cases c : how = 3
  · rw [if_pos c]; exact (List.reverse_perm _).trans h
  · rw [if_neg c]; exact h
theorem lessW_least (g : Int → Int) : ∀ (xs : List Int) (b : Int), 0 ≤ b → (∀ x ∈ xs, b < x) → xs.Pairwise (· < ·) →
    (g (xs.foldl (lessW g) b) < g b ∨ xs.foldl (lessW g) b = b) ∧ ∀ y ∈ xs, g (xs.foldl (lessW g) b) ≤ g y ∧ (g y = g (xs.foldl (lessW g) b) → xs.foldl (lessW g) b ≤ y)
  | [], b, _, _, _ => ⟨.inr rfl, fun y hy => by cases hy⟩
  | x :: xs, b, h0, hb, hp => by
    rw [List.foldl_cons]
    have hbx := hb x List.mem_cons_self
    have hpx := List.pairwise_cons.1 hp
    by_cases c : g x < g b
    · have e : lessW g b x = x := by unfold lessW; rw [if_neg (by omega), if_pos c]
      rw [e]
      obtain ⟨h1, h2⟩ := lessW_least g xs x (by omega) hpx.1 hpx.2
      refine ⟨.inl ?_, fun y hy => ?_⟩
      · rcases h1 with h1 | h1
        · omega
        · rw [h1]; exact c
      · rcases List.mem_cons.1 hy with rfl | hy
        · rcases h1 with h1 | h1
          · exact ⟨by omega, fun e => by omega⟩
          · rw [h1]; exact ⟨Int.le_refl _, fun _ => Int.le_refl _⟩
        · exact h2 y hy
    · have e : lessW g b x = b := by unfold lessW; rw [if_neg (by omega), if_neg c]
      rw [e]
      obtain ⟨h1, h2⟩ := lessW_least g xs b h0 (fun y hy => hb y (List.mem_cons_of_mem _ hy)) hpx.2
      refine ⟨h1, fun y hy => ?_⟩
      rcases List.mem_cons.1 hy with rfl | hy
      · rcases h1 with h1 | h1
        · exact ⟨by omega, fun e => by omega⟩
        · rw [h1]; exact ⟨by omega, fun _ => by omega⟩
      · exact h2 y hy
theorem leastF_least (g : Int → Int) (xs : List Int) (h0 : ∀ x ∈ xs, 0 ≤ x) (hp : xs.Pairwise (· < ·)) : ∀ y ∈ xs, g (leastF g xs) ≤ g y ∧ (g y = g (leastF g xs) → leastF g xs ≤ y) := by
  intro y hy
  cases xs with
  | nil => cases hy
  | cons x xs =>
    have e : leastF g (x :: xs) = xs.foldl (lessW g) x := by
      unfold leastF
      rw [List.foldl_cons]
      have : lessW g (-1) x = x := by unfold lessW; rw [if_pos (by decide)]
      rw [this]
    rw [e]
    have hpx := List.pairwise_cons.1 hp
    obtain ⟨h1, h2⟩ := lessW_least g xs x (h0 x List.mem_cons_self) hpx.1 hpx.2
    rcases List.mem_cons.1 hy with rfl | hy
    · rcases h1 with h1 | h1
      · exact ⟨by omega, fun e => by omega⟩
      · rw [h1]; exact ⟨Int.le_refl _, fun _ => Int.le_refl _⟩
    · exact h2 y hy
theorem ofT_rising (n : Nat) (g : Nat → Bool) : (ofT n g).Pairwise (· < ·) := by
  unfold ofT
  rw [List.pairwise_map]
  exact (List.Pairwise.sublist List.filter_sublist List.pairwise_lt_range).imp (fun h => by omega)
theorem ofT_nn {n : Nat} {g : Nat → Bool} {x : Int} (h : x ∈ ofT n g) : 0 ≤ x := by
  obtain ⟨i, _, _, rfl⟩ := mem_ofT.1 h
  omega
end Go.Proofs.YtbdlelojlnhhfaaDoor.Pr
set_option linter.unusedVariables false
set_option linter.unusedSimpArgs false
namespace Go.Proofs.YtbdlelojlnhhfaaDoor.Mcs
structure Gr (n : Nat) (A : Nat → Nat → Bool) : Prop where
  sym : ∀ i k, A i k = A k i
  irr : ∀ i, A i i = false
  rng : ∀ i k, A i k = true → i < n ∧ k < n
def Late (A : Nat → Nat → Bool) (pos : Nat → Nat) : Prop := ∀ v a b, pos v < pos a → pos v < pos b → A v a = true → A v b = true → a ≠ b → A a b = true
structure Way (A : Nat → Nat → Bool) (p : Nat → Nat) (m : Nat) : Prop where
  beside : ∀ i k, i ≤ m → k ≤ m → (A (p i) (p k) = true ↔ (k = i + 1 ∨ i = k + 1))
  once : ∀ i k, i ≤ m → k ≤ m → p i = p k → i = k
theorem ex_min (g : Nat → Nat) : ∀ N, ∃ i, i ≤ N ∧ ∀ k, k ≤ N → g i ≤ g k
  | 0 => ⟨0, Nat.le_refl _, fun k hk => by obtain rfl : k = 0 := by omega
                                           exact Nat.le_refl _⟩
  | N + 1 => by
    obtain ⟨i, hi, h⟩ := ex_min g N
    by_cases c : g i ≤ g (N + 1)
    · refine ⟨i, by omega, fun k hk => ?_⟩
      by_cases e : k = N + 1
      · rw [e]; exact c
      · exact h k (by omega)
    · refine ⟨N + 1, Nat.le_refl _, fun k hk => ?_⟩
      by_cases e : k = N + 1
      · rw [e]; exact Nat.le_refl _
      · have := h k (by omega); omega
theorem no_ring {n : Nat} {A : Nat → Nat → Bool} (hA : Gr n A) (pos : Nat → Nat) (hp : ∀ x y, x < n → y < n → pos x = pos y → x = y) (hL : Late A pos) (p : Nat → Nat) (m : Nat) (hm : 2 ≤ m) (hw : Way A p m) (d : Nat)
    (h0 : A d (p 0) = true) (hdm : A d (p m) = true) (hdi : ∀ i, 0 < i → i < m → A d (p i) = false) (hne : ∀ i, i ≤ m → d ≠ p i) : False := by
  obtain ⟨i, hi, hmin⟩ := ex_min (fun i => pos (p i)) m
  have hdn : d < n := (hA.rng _ _ h0).1
  have hpn : ∀ k, k ≤ m → p k < n := fun k hk => by
    by_cases c : k = m
    · rw [c]; exact (hA.rng _ _ hdm).2
    · exact (hA.rng (p k) (p (k + 1)) ((hw.beside k (k + 1) hk (by omega)).2 (.inl rfl))).1
  have hlt : ∀ k, k ≤ m → k ≠ i → pos (p i) < pos (p k) := fun k hk hki => by
    have h1 : pos (p i) ≤ pos (p k) := hmin k hk
    have h2 : pos (p i) ≠ pos (p k) := fun e => hki (hw.once i k hi hk (hp _ _ (hpn i hi) (hpn k hk) e)).symm
    omega
  have b : ∀ k, k ≤ m → (k + 1 = i ∨ k = i + 1) → A (p i) (p k) = true := fun k hk h => (hw.beside i k hi hk).2 (by omega)
  by_cases hd : pos d < pos (p i)
  · have h1 := hL d (p 0) (p m) (Nat.lt_of_lt_of_le hd (hmin 0 (by omega))) (Nat.lt_of_lt_of_le hd (hmin m (Nat.le_refl m))) h0 hdm (fun e => by have := hw.once 0 m (by omega) (Nat.le_refl m) e; omega)
    have h2 := (hw.beside 0 m (by omega) (Nat.le_refl m)).1 h1
    omega
  · have hd2 : pos (p i) < pos d := by
      have h2 : pos (p i) ≠ pos d := fun e => hne i hi (hp _ _ (hpn i hi) hdn e).symm
      omega
    by_cases c0 : i = 0
    · have h1 := hL (p i) (p 1) d (hlt 1 (by omega) (by omega)) hd2 (b 1 (by omega) (by omega)) (by rw [hA.sym, c0]; exact h0) (fun e => hne 1 (by omega) e.symm)
      rw [hA.sym, hdi 1 (by omega) (by omega)] at h1
      cases h1
    · by_cases cm : i = m
      · have h1 := hL (p i) (p (m - 1)) d (hlt (m - 1) (by omega) (by omega)) hd2 (b (m - 1) (by omega) (by omega)) (by rw [hA.sym, cm]; exact hdm) (fun e => hne (m - 1) (by omega) e.symm)
        rw [hA.sym, hdi (m - 1) (by omega) (by omega)] at h1
        cases h1
      · have h1 := hL (p i) (p (i - 1)) (p (i + 1)) (hlt (i - 1) (by omega) (by omega)) (hlt (i + 1) (by omega) (by omega)) (b (i - 1) (by omega) (by omega)) (b (i + 1) (by omega) (by omega)) (fun e => by have := hw.once (i - 1) (i + 1) (by omega) (by omega) e; omega)
        have h2 := (hw.beside (i - 1) (i + 1) (by omega) (by omega)).1 h1
        omega
def Most (A : Nat → Nat → Bool) (n : Nat) (c : Nat → Nat) : Prop := ∀ x y z, z < n → y < n → c x < c y → c y < c z → A x z = true → A x y = false → ∃ d, c d < c y ∧ A d y = true ∧ A d z = false
theorem ex_first (q : Nat → Bool) (a : Nat) : ∀ N, a ≤ N → q N = true → ∃ j, a ≤ j ∧ j ≤ N ∧ q j = true ∧ ∀ k, a ≤ k → k < j → q k = false := by
  intro N
  induction N using Nat.strongRecOn with
  | ind N ih =>
    intro ha hq
    by_cases c : ∃ k, a ≤ k ∧ k < N ∧ q k = true
    · obtain ⟨k, h1, h2, h3⟩ := c
      obtain ⟨j, j1, j2, j3, j4⟩ := ih k h2 h1 h3
      exact ⟨j, j1, by omega, j3, j4⟩
    · refine ⟨N, ha, Nat.le_refl _, hq, fun k h1 h2 => ?_⟩
      cases h : q k with
      | false => rfl
      | true => exact absurd ⟨k, h1, h2, h⟩ c
theorem way_back {A : Nat → Nat → Bool} {p : Nat → Nat} {m : Nat} (h : Way A p m) : Way A (fun i => p (m - i)) m :=
  ⟨fun i k hi hk => by
    have := h.beside (m - i) (m - k) (by omega) (by omega)
    rw [this]
    omega, fun i k hi hk e => by
    have := h.once (m - i) (m - k) (by omega) (by omega) e
    omega⟩
theorem no_way {n : Nat} {A : Nat → Nat → Bool} (hA : Gr n A) (pos : Nat → Nat) (hp : ∀ x y, x < n → y < n → pos x = pos y → x = y) (hL : Late A pos) (c : Nat → Nat) (hc : ∀ x y, x < n → y < n → c x = c y → x = y) (hM : Most A n c) :
    ∀ (N : Nat) (p : Nat → Nat) (m : Nat), 2 ≤ m → Way A p m → (∀ i, 0 < i → i < m → c (p m) < c (p i)) → c (p 0) < c (p m) → c (p m) = N → False := by
  intro N
  induction N using Nat.strongRecOn with
  | ind N ih =>
    intro p m hm hw hi h0 hN
    have hpn : ∀ k, k ≤ m → p k < n := fun k hk => by
      by_cases e : k = m
      · rw [e]; exact (hA.rng (p (m - 1)) (p m) ((hw.beside (m - 1) m (by omega) (Nat.le_refl m)).2 (by omega))).2
      · exact (hA.rng (p k) (p (k + 1)) ((hw.beside k (k + 1) hk (by omega)).2 (.inl rfl))).1
    have e0m : A (p 0) (p m) = false := by
      cases h : A (p 0) (p m) with
      | false => rfl
      | true => have := (hw.beside 0 m (by omega) (Nat.le_refl m)).1 h; omega
    obtain ⟨d, d1, d2, d3⟩ := hM (p 0) (p m) (p 1) (hpn 1 (by omega)) (hpn m (Nat.le_refl m)) h0 (hi 1 (by omega) (by omega)) ((hw.beside 0 1 (by omega) (by omega)).2 (.inl rfl)) e0m
    have hdn : d < n := (hA.rng _ _ d2).1
    obtain ⟨j, j1, j2, j3, j4⟩ := ex_first (fun j => A d (p j)) 1 m (by omega) d2
    have hj2 : 2 ≤ j := by
      rcases Nat.lt_or_ge j 2 with h | h
      · obtain rfl : j = 1 := by omega
        simp only [d3] at j3
        cases j3
      · exact h
    have hne : ∀ i, i ≤ m → d ≠ p i := fun i him e => by
      by_cases e0 : i = 0
      · rw [e, e0, e0m] at d2; cases d2
      · by_cases em : i = m
        · rw [e, em, hA.irr] at d2; cases d2
        · have := hi i (by omega) (by omega); rw [← e] at this; omega
    have hwj : Way A p j := ⟨fun i k h1 h2 => hw.beside i k (by omega) (by omega), fun i k h1 h2 => hw.once i k (by omega) (by omega)⟩
    have hjm : ∀ i, 0 < i → i ≤ j → c (p m) ≤ c (p i) := fun i h1 h2 => by
      by_cases e : i = m
      · rw [e]; exact Nat.le_refl _
      · exact Nat.le_of_lt (hi i h1 (by omega))
    cases hd0 : A d (p 0) with
    | true => exact no_ring hA pos hp hL p j hj2 hwj d hd0 j3 (fun i h1 h2 => j4 i (by omega) h2) (fun i h => hne i (by omega))
    | false =>
      have hq : Way A (fun i => if i ≤ j then p i else d) (j + 1) := by
        have key : ∀ i, i ≤ j → (A d (p i) = true ↔ i = j) := fun i h => by
          constructor
          · intro h1
            rcases Nat.eq_zero_or_pos i with e | e
            · rw [e, hd0] at h1; cases h1
            · rcases Nat.lt_or_ge i j with h2 | h2
              · have h3 : A d (p i) = false := j4 i (by omega) h2
                rw [h3] at h1; cases h1
              · omega
          · rintro rfl; exact j3
        refine ⟨fun i k h1 h2 => ?_, fun i k h1 h2 => ?_⟩
        · by_cases a1 : i ≤ j
          · by_cases a2 : k ≤ j
            · simp only [if_pos a1, if_pos a2]; exact hwj.beside i k a1 a2
            · simp only [if_pos a1, if_neg a2]
              rw [hA.sym, key i a1]; omega
          · by_cases a2 : k ≤ j
            · simp only [if_neg a1, if_pos a2]
              rw [key k a2]; omega
            · simp only [if_neg a1, if_neg a2]
              rw [hA.irr]
              constructor
              · intro h; cases h
              · intro h; omega
        · by_cases a1 : i ≤ j
          · by_cases a2 : k ≤ j
            · simp only [if_pos a1, if_pos a2]; exact hwj.once i k a1 a2
            · simp only [if_pos a1, if_neg a2]
              intro e; exact absurd e.symm (hne i (by omega))
          · by_cases a2 : k ≤ j
            · simp only [if_neg a1, if_pos a2]
              intro e; exact absurd e (hne k (by omega))
            · intro _; omega
      have hcd : c (p 0) ≠ c d := fun e => hne 0 (by omega) (hc _ _ (hpn 0 (by omega)) hdn e).symm
      rcases Nat.lt_or_ge (c (p 0)) (c d) with h | h
      · refine ih (c d) (by omega) (fun i => if i ≤ j then p i else d) (j + 1) (by omega) hq (fun i h1 h2 => ?_) ?_ ?_
        · simp only [if_neg (show ¬ j + 1 ≤ j by omega), if_pos (show i ≤ j by omega)]
          have := hjm i h1 (by omega); omega
        · simp only [if_neg (show ¬ j + 1 ≤ j by omega), if_pos (Nat.zero_le j)]
          exact h
        · simp only [if_neg (show ¬ j + 1 ≤ j by omega)]
      · refine ih (c (p 0)) (by omega) (fun i => (fun i => if i ≤ j then p i else d) (j + 1 - i)) (j + 1) (by omega) (way_back hq) (fun i h1 h2 => ?_) ?_ ?_
        · simp only [Nat.sub_self, if_pos (Nat.zero_le j), if_pos (show j + 1 - i ≤ j by omega)]
          have := hjm (j + 1 - i) (by omega) (by omega); omega
        · simp only [Nat.sub_self, if_pos (Nat.zero_le j), Nat.sub_zero, if_neg (show ¬ j + 1 ≤ j by omega)]
          omega
        · simp only [Nat.sub_self, if_pos (Nat.zero_le j)]
theorem mcs {n : Nat} {A : Nat → Nat → Bool} (hA : Gr n A) (pos : Nat → Nat) (hp : ∀ x y, x < n → y < n → pos x = pos y → x = y) (hL : Late A pos) (c : Nat → Nat) (hc : ∀ x y, x < n → y < n → c x = c y → x = y) (hM : Most A n c)
    (v a b : Nat) (ha : c a < c v) (hb : c b < c v) (hva : A v a = true) (hvb : A v b = true) (hab : a ≠ b) : A a b = true := by
  cases h : A a b with
  | true => rfl
  | false =>
    exfalso
    have main : ∀ a b, c a < c v → c b < c v → A v a = true → A v b = true → a ≠ b → A a b = false → c a < c b → False := by
      intro a b ha hb hva hvb hab h hlt
      have hne1 : a ≠ v := fun e => by rw [e, hA.irr] at hva; cases hva
      have hne2 : b ≠ v := fun e => by rw [e, hA.irr] at hvb; cases hvb
      refine no_way hA pos hp hL c hc hM (c b) (fun i => if i = 0 then a else if i = 1 then v else b) 2 (Nat.le_refl 2) ⟨fun i k hi hk => ?_, fun i k hi hk => ?_⟩ (fun i h1 h2 => ?_) hlt rfl
      · obtain rfl | rfl | rfl : i = 0 ∨ i = 1 ∨ i = 2 := by omega
        all_goals obtain rfl | rfl | rfl : k = 0 ∨ k = 1 ∨ k = 2 := by omega
        all_goals simp [hA.irr, hva, hvb, h, hA.sym a v, hA.sym b v, hA.sym b a]
      · obtain rfl | rfl | rfl : i = 0 ∨ i = 1 ∨ i = 2 := by omega
        all_goals obtain rfl | rfl | rfl : k = 0 ∨ k = 1 ∨ k = 2 := by omega
        all_goals simp [hab, hne1, hne2, Ne.symm hab, Ne.symm hne1, Ne.symm hne2]
      · obtain rfl : i = 1 := by omega
        simpa using hb
    rcases Nat.lt_or_ge (c a) (c b) with hlt | hge
    · exact main a b ha hb hva hvb hab h hlt
    · have hne : c a ≠ c b := fun e => hab (hc _ _ (hA.rng _ _ hva).2 (hA.rng _ _ hvb).2 e)
      exact main b a hb ha hvb hva (Ne.symm hab) (by rw [hA.sym]; exact h) (by omega)
end Go.Proofs.YtbdlelojlnhhfaaDoor.Mcs
set_option linter.unusedVariables false
set_option linter.unusedSimpArgs false
namespace Go.Proofs.YtbdlelojlnhhfaaDoor.Pr
open Go.RowKit Go.Proofs.YtbdlelojlnhhfaaDoorW.PrintWords Go.Proofs.YtbdlelojlnhhfaaDoorW.PrintLast Go.Proofs.YtbdlelojlnhhfaaDoorW.PrintMore
theorem Sy.gr {n : Nat} {f : Nat → Nat → Bool} (h : Sy n f) : Mcs.Gr n f := ⟨h.1, h.2.1, h.2.2⟩
def rst (f : Nat → Nat → Bool) (left : Nat → Bool) : Nat → Nat → Bool := fun p q => f p q && (left p && left q)
theorem rst_all (f : Nat → Nat → Bool) : rst f (fun _ => true) = f := by funext p q; unfold rst; simp
theorem rst_iff (f : Nat → Nat → Bool) (left : Nat → Bool) (p q : Nat) : rst f left p q = true ↔ f p q = true ∧ left p = true ∧ left q = true := by unfold rst; simp
theorem Sy.rst {n : Nat} {f : Nat → Nat → Bool} (h : Sy n f) (left : Nat → Bool) : Sy n (rst f left) := by
  refine ⟨fun p q => ?_, fun p => ?_, fun p q e => h.2.2 p q ((rst_iff _ _ _ _).1 e).1⟩
  · unfold Pr.rst; rw [h.1 p q, Bool.and_comm (left p)]
  · unfold Pr.rst; rw [h.2.1 p]; rfl
theorem without_iff (left : Nat → Bool) (v k : Nat) : without left v k = true ↔ left k = true ∧ v ≠ k := by unfold without; simp
theorem rst_go {n : Nat} {f : Nat → Nat → Bool} (hf : Sy n f) (left : Nat → Bool) (v : Nat) (h : ∀ a b, without left v a = true → without left v b = true → f v a = true → f v b = true → a ≠ b → f a b = true) : goT (rst f left) v = rst f (without left v) := by
  funext p q
  rw [Bool.eq_iff_iff, rst_iff, without_iff, without_iff]
  unfold goT
  simp only [Bool.and_eq_true, Bool.or_eq_true, Bool.not_eq_true', decide_eq_false_iff_not, rst_iff]
  constructor
  · rintro ⟨h1, h2, (⟨h3, h4, h5⟩ | ⟨⟨h3, h4, h5⟩, ⟨h6, h7, h8⟩, h9⟩)⟩
    · exact ⟨h3, ⟨h4, Ne.symm h1⟩, ⟨h5, Ne.symm h2⟩⟩
    · exact ⟨h p q ((without_iff _ _ _).2 ⟨h5, Ne.symm h1⟩) ((without_iff _ _ _).2 ⟨h8, Ne.symm h2⟩) h3 h6 h9, ⟨h5, Ne.symm h1⟩, ⟨h8, Ne.symm h2⟩⟩
  · rintro ⟨h1, ⟨h2, h3⟩, ⟨h4, h5⟩⟩
    exact ⟨Ne.symm h3, Ne.symm h5, .inl ⟨h1, h2, h4⟩⟩
def Simp (f : Nat → Nat → Bool) : List Int → Prop
  | [] => True
  | v :: L => (∀ a ∈ L, ∀ b ∈ L, f v.toNat a.toNat = true → f v.toNat b.toNat = true → a ≠ b → f a.toNat b.toNat = true) ∧ Simp f L
theorem simp_of (f : Nat → Nat → Bool) : ∀ L : List Int, (∀ i, i < L.length → ∀ a ∈ L.drop (i + 1), ∀ b ∈ L.drop (i + 1), f (rd L (i : Int)).toNat a.toNat = true → f (rd L (i : Int)).toNat b.toNat = true → a ≠ b → f a.toNat b.toNat = true) → Simp f L
  | [], _ => trivial
  | v :: L, h => by
    refine ⟨fun a ha b hb => h 0 (by simp) a ha b hb, simp_of f L (fun i hi a ha b hb => ?_)⟩
    have h2 := h (i + 1) (by simp; omega) a ha b hb
    have e : rd (v :: L) ((i + 1 : Nat) : Int) = rd L (i : Int) := by
      rw [rd_nat (v :: L) (i + 1) (L[i]) (by simp [hi]), rd_nat L i _ (List.getElem?_eq_getElem hi)]
    rw [e] at h2
    exact h2
theorem ms_zero_iff (f : Nat → Nat → Bool) (l : List Nat) : ∀ i, i ≤ l.length → (ms f l i = 0 ↔ ∀ p q, q < p → p < i → f (wAt l p) (wAt l q) = true)
  | 0, _ => ⟨fun _ p q _ h => by omega, fun _ => rfl⟩
  | i + 1, hi => by
    have ih := ms_zero_iff f l i (by omega)
    have hc : cntP f l i i = 0 ↔ ∀ q, q < i → f (wAt l i) (wAt l q) = true := by
      unfold cntP
      rw [List.countP_eq_zero]
      constructor
      · intro h q hq
        have h2 := h (wAt l q) (by
          rw [wAt_get l q (by omega)]
          have : (l.take i)[q]'(by rw [List.length_take]; omega) = l[q] := List.getElem_take
          rw [← this]
          exact List.getElem_mem _)
        simpa using h2
      · intro h b hb
        obtain ⟨q, hq, rfl⟩ := List.getElem_of_mem hb
        rw [List.length_take] at hq
        rw [List.getElem_take]
        have := h q (by omega)
        rw [wAt_get l q (by omega)] at this
        rw [this]; decide
    rw [ms]
    constructor
    · intro h p q h1 h2
      by_cases c : p = i
      · rw [c]; exact hc.1 (by omega) q (by omega)
      · exact ih.1 (by omega) p q h1 (by omega)
    · intro h
      have a := ih.2 (fun p q h1 h2 => h p q h1 (by omega))
      have b := hc.2 (fun q hq => h i q hq (by omega))
      omega
theorem missT_zero {n : Nat} {f : Nat → Nat → Bool} (hf : Sy n f) (v : Nat) : missT n f v = 0 ↔ ∀ a b, f v a = true → f v b = true → a ≠ b → f a b = true := by
  unfold missT
  rw [ms_zero_iff _ _ _ (Nat.le_refl _)]
  have hnd := nbN_nodup n f v
  constructor
  · intro h a b ha hb hab
    obtain ⟨p, hp, ep⟩ := List.getElem_of_mem (mem_nbN.2 ⟨(hf.2.2 _ _ ha).2, ha⟩)
    obtain ⟨q, hq, eq⟩ := List.getElem_of_mem (mem_nbN.2 ⟨(hf.2.2 _ _ hb).2, hb⟩)
    rcases Nat.lt_trichotomy p q with c | c | c
    · have := h q p c hq
      rw [wAt_get _ _ hq, wAt_get _ _ hp, ep, eq] at this
      rw [hf.1]; exact this
    · subst c; exact absurd (ep.symm.trans eq) hab
    · have := h p q c hp
      rw [wAt_get _ _ hq, wAt_get _ _ hp, ep, eq] at this
      exact this
  · intro h p q h1 h2
    have hp := wAt_in h2
    have hq := wAt_in (show q < (nbN n f v).length by omega)
    refine h _ _ (mem_nbN.1 hp).2 (mem_nbN.1 hq).2 (fun e => ?_)
    rw [wAt_get _ _ h2, wAt_get _ _ (by omega)] at e
    have := nodup_at hnd h2 (by omega) e
    omega
theorem plan_at (how : Int) (n : Nat) (f0 : Nat → Nat → Bool) : ∀ (kk : Nat) (f : Nat → Nat → Bool) (left : Nat → Bool) (j v : Nat), (planT how n f0 kk f left)[j]? = some (v : Int) →
    ∃ f' left', left' v = true ∧ v < n ∧ leastF (wT how n f0 f' left') (ofT n left') = (v : Int) ∧ ∀ k : Nat, left' k = true ↔ (left k = true ∧ (k : Int) ∉ (planT how n f0 kk f left).take j)
  | 0, f, left, j, v, h => by rw [planT] at h; simp at h
  | kk + 1, f, left, j, v, h => by
    rw [planT] at h
    by_cases c : ofT n left = []
    · rw [if_pos c] at h; simp at h
    · rw [if_neg c] at h
      obtain ⟨u, hu, hlu, eu⟩ := least9 (wT how n f0 f left) c
      simp only [eu, Int.toNat_natCast] at h
      have ep : planT how n f0 (kk + 1) f left = (u : Int) :: planT how n f0 kk (if how = 3 then f else goT f u) (without left u) := by
        rw [planT, if_neg c]; simp only [eu, Int.toNat_natCast]
      cases j with
      | zero =>
        rw [List.getElem?_cons_zero] at h
        have : u = v := by have := Option.some.inj h; omega
        subst this
        exact ⟨f, left, hlu, hu, eu, fun k => by simp⟩
      | succ j =>
        rw [List.getElem?_cons_succ] at h
        obtain ⟨f', left', h1, h2, h3, h4⟩ := plan_at how n f0 kk _ _ j v h
        refine ⟨f', left', h1, h2, h3, fun k => ?_⟩
        rw [h4, ep, List.take_succ_cons, List.mem_cons, without_iff]
        constructor
        · rintro ⟨⟨a, b⟩, d⟩; exact ⟨a, fun e => e.elim (fun e => b (by omega)) d⟩
        · rintro ⟨a, b⟩; exact ⟨⟨a, fun e => b (.inl (by omega))⟩, fun e => b (.inr e)⟩
theorem mem_take_idx {L : List Int} (hd : L.Nodup) (x : Int) (hx : x ∈ L) (j : Nat) : x ∈ L.take j ↔ L.idxOf x < j := by
  constructor
  · intro h
    obtain ⟨i, hi, e⟩ := List.getElem_of_mem h
    rw [List.length_take] at hi
    rw [List.getElem_take] at e
    have := List.Nodup.idxOf_getElem hd i (by omega)
    rw [e] at this
    omega
  · intro h
    have hl := List.idxOf_lt_length_of_mem hx
    have e := List.getElem_idxOf hl
    rw [← e]
    have e2 : (L.take j)[L.idxOf x]'(by rw [List.length_take]; omega) = L[L.idxOf x] := List.getElem_take
    rw [← e2]
    exact List.getElem_mem _
theorem countP_lt {l : List Nat} {p q : Nat → Bool} (h : ∀ x ∈ l, p x = true → q x = true) {z : Nat} (hz : z ∈ l) (h1 : q z = true) (h2 : p z = false) : l.countP p < l.countP q := by
  induction l with
  | nil => cases hz
  | cons y l ih =>
    rw [List.countP_cons, List.countP_cons]
    have hle : l.countP p ≤ l.countP q := List.countP_mono_left (fun x hx hp => h x (List.mem_cons_of_mem _ hx) hp)
    rcases List.mem_cons.1 hz with rfl | hz
    · rw [h1, h2]; simp; omega
    · have := ih (fun x hx => h x (List.mem_cons_of_mem _ hx)) hz
      have hy := h y List.mem_cons_self
      cases hp : p y with
      | false => simp; omega
      | true => rw [hy hp]; simp; omega
theorem card_most (n : Nat) (hn : n ≤ 64) (f : Nat → Nat → Bool) (hf : Sy n f) : Mcs.Most f n (fun x => (planT 3 n f 64 f fun _ => true).idxOf (x : Int)) := by
  intro x y z hz hy hxy hyz hxz hxy0
  obtain ⟨L, hL⟩ : ∃ L, L = planT 3 n f 64 f (fun _ => true) := ⟨_, rfl⟩
  have hperm : L.Perm (idI n) := by
    have h := planT_perm 3 n f 64 f (fun _ => true) (by rw [ofT_all]; exact hn)
    rw [ofT_id, ← hL] at h; exact h
  have hnd : L.Nodup := hperm.nodup_iff.2 (idI_nodup n)
  have hin : ∀ k, k < n → (k : Int) ∈ L := fun k hk => hperm.mem_iff.2 (mem_idI.2 ⟨k, hk, rfl⟩)
  simp only [← hL] at hxy hyz ⊢
  have hget : L[L.idxOf (y : Int)]? = some (y : Int) := by
    rw [List.getElem?_eq_getElem (List.idxOf_lt_length_of_mem (hin y hy)), List.getElem_idxOf]
  rw [hL] at hget
  obtain ⟨f', left', h1, h2, h3, h4⟩ := plan_at 3 n f 64 f (fun _ => true) _ y hget
  rw [← hL] at h4
  have hleft : ∀ k, k < n → (left' k = true ↔ ¬ L.idxOf (k : Int) < L.idxOf (y : Int)) := fun k hk => by
    rw [h4 k, mem_take_idx hnd _ (hin k hk)]
    simp
  have hxn := (hf.2.2 _ _ hxz).1
  have hzl : left' z = true := (hleft z hz).2 (by omega)
  have hleast := leastF_least (wT 3 n f f' left') (ofT n left') (fun x hx => ofT_nn hx) (ofT_rising n left') (z : Int) (mem_ofT.2 ⟨z, hz, hzl, rfl⟩)
  rw [h3] at hleast
  have hcc : cardC n f left' z ≤ cardC n f left' y := by
    have h5 := hleast.1
    unfold wT at h5
    rw [if_neg (by decide), if_neg (by decide), if_neg (by decide), if_neg (by decide), Int.toNat_natCast, Int.toNat_natCast] at h5
    omega
  apply Classical.byContradiction
  intro hno
  have hlt : cardC n f left' y < cardC n f left' z := by
    unfold cardC
    refine countP_lt (z := x) (fun k hk hp => ?_) (List.mem_range.2 hxn) ?_ ?_
    · have hkn := List.mem_range.1 hk
      simp only [Bool.and_eq_true, Bool.not_eq_true'] at hp ⊢
      refine ⟨?_, hp.2⟩
      cases hc : f z k with
      | true => rfl
      | false =>
        refine absurd ⟨k, ?_, by rw [hf.1]; exact hp.1, by rw [hf.1]; exact hc⟩ hno
        have := hleft k hkn
        rw [hp.2] at this
        simpa using this
    · simp only [Bool.and_eq_true, Bool.not_eq_true']
      refine ⟨by rw [hf.1]; exact hxz, ?_⟩
      cases hc : left' x with
      | false => rfl
      | true => exact absurd hxy ((hleft x hxn).1 hc)
    · rw [hf.1, hxy0]; rfl
  omega
theorem card_simp (n : Nat) (hn : n ≤ 64) (f : Nat → Nat → Bool) (hf : Sy n f) (pos : Nat → Nat) (hp : ∀ x y, x < n → y < n → pos x = pos y → x = y) (hL : Mcs.Late f pos) : Simp f (orderT 3 n f) := by
  obtain ⟨L, hLL⟩ : ∃ L, L = planT 3 n f 64 f (fun _ => true) := ⟨_, rfl⟩
  have hperm : L.Perm (idI n) := by
    have h := planT_perm 3 n f 64 f (fun _ => true) (by rw [ofT_all]; exact hn)
    rw [ofT_id, ← hLL] at h; exact h
  have hnd : L.Nodup := hperm.nodup_iff.2 (idI_nodup n)
  have hin : ∀ k, k < n → (k : Int) ∈ L := fun k hk => hperm.mem_iff.2 (mem_idI.2 ⟨k, hk, rfl⟩)
  have hlen : L.length = n := by rw [hperm.length_eq, idI_len]
  have hmost := card_most n hn f hf
  rw [← hLL] at hmost
  have hinj : ∀ x y, x < n → y < n → L.idxOf (x : Int) = L.idxOf (y : Int) → x = y := fun x y hx hy e => by
    have e1 := List.getElem_idxOf (List.idxOf_lt_length_of_mem (hin x hx))
    have e2 := List.getElem_idxOf (List.idxOf_lt_length_of_mem (hin y hy))
    have : (x : Int) = (y : Int) := by rw [← e1, ← e2]; congr 1
    omega
  have hmcs := Mcs.mcs hf.gr pos hp hL (fun x => L.idxOf (x : Int)) hinj hmost
  unfold orderT
  rw [if_pos rfl, ← hLL]
  refine simp_of f _ (fun i hi a ha b hb h1 h2 hab => ?_)
  rw [List.length_reverse] at hi
  have hr : rd L.reverse (i : Int) = L[L.length - 1 - i]'(by omega) := by
    refine rd_nat _ i _ ?_
    rw [List.getElem?_reverse hi, List.getElem?_eq_getElem]
  rw [hr] at h1 h2
  have hv : L[L.length - 1 - i]'(by omega) ∈ L := List.getElem_mem _
  have hidx := List.Nodup.idxOf_getElem hnd (L.length - 1 - i) (by omega)
  obtain ⟨v, hvn, ev⟩ := mem_idI.1 (hperm.mem_iff.1 hv)
  rw [ev] at h1 h2 hidx
  have hmem : ∀ x ∈ L.reverse.drop (i + 1), x ∈ L.take (L.length - (i + 1)) := fun x hx => by
    rw [List.drop_reverse] at hx
    exact List.mem_reverse.1 hx
  have ha2 := hmem a ha
  have hb2 := hmem b hb
  obtain ⟨a', han, rfl⟩ := mem_idI.1 (hperm.mem_iff.1 (List.mem_of_mem_take ha2))
  obtain ⟨b', hbn, rfl⟩ := mem_idI.1 (hperm.mem_iff.1 (List.mem_of_mem_take hb2))
  rw [mem_take_idx hnd _ (hin a' han)] at ha2
  rw [mem_take_idx hnd _ (hin b' hbn)] at hb2
  rw [Int.toNat_natCast] at h1 h2 ⊢
  rw [Int.toNat_natCast] at h1 h2
  rw [Int.toNat_natCast]
  exact hmcs v a' b' (by show L.idxOf (a' : Int) < L.idxOf (v : Int); omega) (by show L.idxOf (b' : Int) < L.idxOf (v : Int); omega) h1 h2 (fun e => hab (by rw [e]))
def joinOne (h : Nat → Nat → Bool) (a : Nat) (bs : List Nat) : Nat → Nat → Bool := fun i k => h i k || (decide (i = a ∧ k ∈ bs) || decide (k = a ∧ i ∈ bs))
def joinBd (h : Nat → Nat → Bool) (l : List Nat) : Nat → Nat → Bool := fun i k => h i k || decide (i ∈ l ∧ k ∈ l ∧ i ≠ k)
theorem joinIn_gW {n : Nat} (hn : n ≤ 40) (a : Nat) (ha : a < n) : ∀ (bs : List Nat) (h : Nat → Nat → Bool), (∀ b ∈ bs, b < n) → a ∉ bs → joinIn (a : Int) (gI bs) (gI (gW n h)) = some (gI (gW n (joinOne h a bs)))
  | [], h, _, _ => by
    show some _ = some _
    congr 2
    exact gW_congr (fun i k _ _ => by unfold joinOne; simp)
  | b :: bs, h, hb, hna => by
    have hbn := hb b List.mem_cons_self
    have hab : a ≠ b := fun e => hna (e ▸ List.mem_cons_self)
    show (graph_Join.f (gI (gW n h)) (a : Int) (b : Int)).bind _ = _
    rw [(join_f (gW n h) (gW_ok (by omega) h) (by rw [gW_len]; omega) (a : Int) (b : Int)).1, Option.bind_some, joinW_gW h ha hbn hab]
    show joinIn (a : Int) (gI bs) (gI (gW n (addE h a b))) = _
    rw [joinIn_gW hn a ha bs (addE h a b) (fun c hc => hb c (List.mem_cons_of_mem _ hc)) (fun hc => hna (List.mem_cons_of_mem _ hc))]
    congr 2
    refine gW_congr (fun i k _ _ => ?_)
    unfold joinOne addE
    rw [Bool.eq_iff_iff]
    simp only [Bool.or_eq_true, decide_eq_true_eq, List.mem_cons]
    constructor
    · rintro ((h1 | h1 | h1) | h1 | h1)
      · exact .inl h1
      · exact .inr (.inl ⟨h1.1, .inl h1.2⟩)
      · exact .inr (.inr ⟨h1.2, .inl h1.1⟩)
      · exact .inr (.inl ⟨h1.1, .inr h1.2⟩)
      · exact .inr (.inr ⟨h1.1, .inr h1.2⟩)
    · rintro (h1 | ⟨h1, h2 | h2⟩ | ⟨h1, h2 | h2⟩)
      · exact .inl (.inl h1)
      · exact .inl (.inr (.inl ⟨h1, h2⟩))
      · exact .inr (.inl ⟨h1, h2⟩)
      · exact .inl (.inr (.inr ⟨h2, h1⟩))
      · exact .inr (.inr ⟨h1, h2⟩)
theorem gI_take (l : List Nat) (i : Nat) : (gI l).take i = gI (l.take i) := by unfold gI; rw [List.map_take]
theorem hm' {bd : List Nat} (hd : bd.Nodup) {i : Nat} (hi : i < bd.length) : wAt bd i ∉ bd.take i := fun h => by
  obtain ⟨q, hq, e⟩ := List.getElem_of_mem h
  rw [List.length_take] at hq
  rw [List.getElem_take, wAt_get bd i hi] at e
  have := nodup_at hd (by omega) hi e
  omega
theorem joinAll_gW {n : Nat} (hn : n ≤ 40) (bd : List Nat) (hb : ∀ b ∈ bd, b < n) (hd : bd.Nodup) (h : Nat → Nat → Bool) (d : Nat) : ∀ i, i + d = bd.length → joinAll (gI bd) d i (gI (gW n (joinBd h (bd.take i)))) = some (gI (gW n (joinBd h bd))) := by
  induction d with
  | zero =>
    intro i hi
    obtain rfl : i = bd.length := by omega
    rw [joinAll, List.take_length]
  | succ d ih =>
    intro i hi
    have hil : i < bd.length := by omega
    rw [joinAll, gI_rd, gI_take, joinIn_gW hn (wAt bd i) (hb _ (wAt_in hil)) (bd.take i) _ (fun b hb2 => hb b (List.mem_of_mem_take hb2)) (fun hm => ?_), Option.bind_some]
    · rw [show gW n (joinOne (joinBd h (bd.take i)) (wAt bd i) (bd.take i)) = gW n (joinBd h (bd.take (i + 1))) from ?_]
      · exact ih (i + 1) (by omega)
      · refine gW_congr (fun p q _ _ => ?_)
        unfold joinOne joinBd
        rw [take_one bd i hil, Bool.eq_iff_iff]
        simp only [Bool.or_eq_true, decide_eq_true_eq, List.mem_append, List.mem_singleton]
        constructor
        · rintro ((h1 | h1) | h1 | h1)
          · exact .inl h1
          · exact .inr ⟨.inl h1.1, .inl h1.2.1, h1.2.2⟩
          · exact .inr ⟨.inr h1.1, .inl h1.2, fun e => hm' hd hil (by rw [← h1.1, e]; exact h1.2)⟩
          · exact .inr ⟨.inl h1.2, .inr h1.1, fun e => hm' hd hil (by rw [← h1.1, ← e]; exact h1.2)⟩
        · rintro (h1 | ⟨h1 | h1, h2 | h2, h3⟩)
          · exact .inl (.inl h1)
          · exact .inl (.inr ⟨h1, h2, h3⟩)
          · exact .inr (.inr ⟨h2, h1⟩)
          · exact .inr (.inl ⟨h1, h2⟩)
          · exact absurd (h1.trans h2.symm) h3
    · exact hm' hd hil hm
def laterN (n : Nat) (h : Nat → Nat → Bool) (left : Nat → Bool) (v : Nat) : List Nat := (nbN n h v).filter left
def bagT (n : Nat) (h : Nat → Nat → Bool) (left : Nat → Bool) (v : Nat) : List Int := ofT n fun k => decide (k = v) || (h v k && left k)
def fillB (n : Nat) : List Nat → (Nat → Nat → Bool) → (Nat → Bool) → List (List Int) × (Nat → Nat → Bool)
  | [], h, _ => ([], h)
  | v :: l, h, left => (bagT n h left v :: (fillB n l (joinBd h (laterN n h left v)) (without left v)).1, (fillB n l (joinBd h (laterN n h left v)) (without left v)).2)
theorem joinBd_sy {n : Nat} {h : Nat → Nat → Bool} (hh : Sy n h) {l : List Nat} (hl : ∀ x ∈ l, x < n) : Sy n (joinBd h l) := by
  refine ⟨fun i k => ?_, fun i => ?_, fun i k e => ?_⟩
  · unfold joinBd
    rw [hh.1 i k]
    congr 1
    rw [Bool.eq_iff_iff, decide_eq_true_iff, decide_eq_true_iff]
    exact ⟨fun ⟨a, b, c⟩ => ⟨b, a, Ne.symm c⟩, fun ⟨a, b, c⟩ => ⟨b, a, Ne.symm c⟩⟩
  · unfold joinBd; rw [hh.2.1 i]; simp
  · unfold joinBd at e
    simp only [Bool.or_eq_true, decide_eq_true_eq] at e
    rcases e with e | e
    · exact hh.2.2 _ _ e
    · exact ⟨hl _ e.1, hl _ e.2.1⟩
theorem mem_laterN {n : Nat} {h : Nat → Nat → Bool} {left : Nat → Bool} {v x : Nat} : x ∈ laterN n h left v ↔ x < n ∧ h v x = true ∧ left x = true := by
  unfold laterN
  rw [List.mem_filter, mem_nbN]
  exact ⟨fun ⟨⟨a, b⟩, c⟩ => ⟨a, b, c⟩, fun ⟨a, b, c⟩ => ⟨⟨a, b⟩, c⟩⟩
theorem len_sub : ∀ {xs l : List Int}, xs.Nodup → (∀ x ∈ xs, x ∈ xs) → (∀ x ∈ xs, x ∈ l) → xs.length ≤ l.length
  | [], _, _, _, _ => Nat.zero_le _
  | x :: xs, l, hd, _, hin => by
    have hx := hin x List.mem_cons_self
    have h1 := (List.perm_cons_erase hx).length_eq
    have h2 := len_sub (l := l.erase x) (List.nodup_cons.1 hd).2 (fun _ h => h) (fun y hy => by
      have hne : y ≠ x := fun e => (List.nodup_cons.1 hd).1 (e ▸ hy)
      exact (List.mem_erase_of_ne hne).2 (hin y (List.mem_cons_of_mem _ hy)))
    rw [h1, List.length_cons, List.length_cons]
    omega
theorem bag_sorted {n : Nat} {h : Nat → Nat → Bool} (hh : Sy n h) (left : Nat → Bool) (v : Nat) (hv : v < n) : SortedSeq.sortZ (gI (laterN n h left v) ++ [(v : Int)]) = bagT n h left v := by
  refine SortedSeq.sortZ_uniq ((SortedSeq.sortZ_perm _).trans ?_) (SortedSeq.sortZ_sorted _) ((ofT_rising n _).imp (fun h => by omega))
  have hnd : (laterN n h left v).Nodup := List.Nodup.sublist List.filter_sublist (nbN_nodup n h v)
  have h1 : (gI (laterN n h left v) ++ [(v : Int)]).Nodup := by
    rw [List.nodup_append]
    refine ⟨?_, by simp, fun a ha b hb => ?_⟩
    · unfold gI
      rw [List.Nodup, List.pairwise_map]
      exact hnd.imp (fun h e => h (by omega))
    · unfold gI at ha
      obtain ⟨x, hx, rfl⟩ := List.mem_map.1 ha
      have hvx := (mem_laterN.1 hx).2.1
      rw [List.mem_singleton] at hb
      rw [hb]
      intro e
      have : x = v := by omega
      rw [this, hh.2.1] at hvx
      cases hvx
  have hmem : ∀ x : Int, x ∈ gI (laterN n h left v) ++ [(v : Int)] ↔ x ∈ bagT n h left v := fun x => by
    unfold bagT
    rw [mem_ofT, List.mem_append, List.mem_singleton]
    unfold gI
    rw [List.mem_map]
    constructor
    · rintro (⟨y, hy, rfl⟩ | rfl)
      · have h3 := mem_laterN.1 hy
        exact ⟨y, h3.1, by simp [h3.2.1, h3.2.2], rfl⟩
      · exact ⟨v, hv, by simp, rfl⟩
    · rintro ⟨y, hy, h3, rfl⟩
      simp only [Bool.or_eq_true, decide_eq_true_eq, Bool.and_eq_true] at h3
      rcases h3 with rfl | h3
      · exact .inr rfl
      · exact .inl ⟨y, mem_laterN.2 ⟨hy, h3.1, h3.2⟩, rfl⟩
  have h4 : (bagT n h left v).Nodup := ofT_nodup n _
  exact (perm_of_in _ _ h1 (fun x hx => (hmem x).1 hx) (by
    have := (perm_of_in _ (gI (laterN n h left v) ++ [(v : Int)]) h4 (fun x hx => (hmem x).2 hx))
    exact len_sub h4 (fun x hx => (hmem x).1 ((hmem x).2 hx)) (fun x hx => (hmem x).2 hx))).symm
theorem allGo_gW {n : Nat} (hn : n ≤ 40) : ∀ (l : List Nat) (h : Nat → Nat → Bool) (left : Nat → Bool) (vs : List Int) (bags : List (List Int)), Sy n h → (∀ v ∈ l, v < n ∧ left v = true) → l.Nodup → (∀ k, k < n → (left k = true ↔ (k : Int) ∉ vs)) → bags.length + l.length ≤ 1000 →
    allGo (gI l) (gI (gW n h)) vs bags = some (bags ++ (fillB n l h left).1, gI (gW n (fillB n l h left).2))
  | [], h, left, vs, bags, _, _, _, _, _ => by
    show some (bags, _) = _
    rw [fillB, List.append_nil]
  | v :: l, h, left, vs, bags, hh, hl, hd, hleft, hb => by
    obtain ⟨hv, hlv⟩ := hl v List.mem_cons_self
    have hnb : graph_Neighbors.f (gI (gW n h)) (v : Int) = some (gI (nbN n h v)) := by
      rw [neighbors_f _ (gW_ok (by omega) h)]
      unfold nbL
      rw [gW_len, if_pos (by unfold isP; exact decide_eq_true (by omega)), Int.toNat_natCast, gW_at n h v hv, listN_wd (by omega)]
      rfl
    have hlen := nbN_len n h v
    have hfil : (gI (nbN n h v)).filter (fun a => !decide (a ∈ vs)) = gI (laterN n h left v) := by
      unfold gI laterN
      rw [List.filter_map]
      congr 1
      refine List.filter_congr (fun x hx => ?_)
      have hxn := (mem_nbN.1 hx).1
      have := hleft x hxn
      show (!decide ((x : Int) ∈ vs)) = left x
      rw [Bool.eq_iff_iff, this]
      simp
    have hlin : ∀ x ∈ laterN n h left v, x < n := fun x hx => (mem_laterN.1 hx).1
    have hlnd : (laterN n h left v).Nodup := List.Nodup.sublist List.filter_sublist (nbN_nodup n h v)
    have hj := joinAll_gW hn (laterN n h left v) hlin hlnd h (laterN n h left v).length 0 (by omega)
    rw [show gW n (joinBd h ((laterN n h left v).take 0)) = gW n h from gW_congr (fun i k _ _ => by unfold joinBd; simp)] at hj
    have hh2 := joinBd_sy hh hlin
    have ih := allGo_gW hn l (joinBd h (laterN n h left v)) (without left v) (vs ++ [(v : Int)]) (bags ++ [bagT n h left v]) hh2 (fun x hx => ⟨(hl x (List.mem_cons_of_mem _ hx)).1, (without_iff _ _ _).2 ⟨(hl x (List.mem_cons_of_mem _ hx)).2, fun e => (List.nodup_cons.1 hd).1 (e ▸ hx)⟩⟩) (List.nodup_cons.1 hd).2 (fun k hk => by
      rw [without_iff, hleft k hk, List.mem_append, List.mem_singleton]
      constructor
      · rintro ⟨a, b⟩ (c | c)
        · exact a c
        · exact b (by omega)
      · intro a
        exact ⟨fun c => a (.inl c), fun c => a (.inr (by rw [c]))⟩) (by rw [List.length_append]; simp at hb ⊢; omega)
    show (graph_Neighbors.f (gI (gW n h)) (v : Int)).bind _ = _
    rw [hnb, Option.bind_some, if_pos ⟨by rw [gI_len]; omega, (hleft v hv).1 hlv, by simp at hb; omega⟩, hfil, gI_len, hj, Option.bind_some, bag_sorted hh left v hv]
    show allGo (gI l) _ _ _ = _
    rw [ih, fillB, List.append_assoc]
    rfl
theorem toN_of {n : Nat} {o : List Int} (h : o.Perm (idI n)) : ∃ ln : List Nat, o = gI ln ∧ ln.Nodup ∧ ∀ x ∈ ln, x < n := by
  refine ⟨o.map Int.toNat, ?_, ?_, fun x hx => ?_⟩
  · unfold gI
    rw [List.map_map]
    conv => lhs; rw [← List.map_id o]
    refine List.map_congr_left (fun x hx => ?_)
    obtain ⟨k, _, rfl⟩ := mem_idI.1 (h.mem_iff.1 hx)
    rfl
  · have hd : o.Nodup := h.nodup_iff.2 (idI_nodup n)
    rw [List.Nodup, List.pairwise_map]
    refine List.Pairwise.imp_of_mem (fun ha hb hne e => hne ?_) hd
    obtain ⟨a, _, rfl⟩ := mem_idI.1 (h.mem_iff.1 ha)
    obtain ⟨b, _, rfl⟩ := mem_idI.1 (h.mem_iff.1 hb)
    rw [Int.toNat_natCast, Int.toNat_natCast] at e
    rw [e]
  · obtain ⟨y, hy, rfl⟩ := List.mem_map.1 hx
    obtain ⟨k, hk, rfl⟩ := mem_idI.1 (h.mem_iff.1 hy)
    rw [Int.toNat_natCast]; exact hk
def allL : Nat → Bool := fun _ => true
theorem all_f {n : Nat} (hn : n ≤ 40) {f : Nat → Nat → Bool} (hf : Sy n f) {ln : List Nat} (ho : (gI ln).Perm (idI n)) (hd : ln.Nodup) (hl : ∀ x ∈ ln, x < n) : fill_all.f (gI (gW n f)) (gI ln) = some ((fillB n ln f allL).1, gI (gW n (fillB n ln f allL).2), 0) := by
  have hlen : ln.length = n := by have := ho.length_eq; rw [gI_len, idI_len] at this; exact this
  unfold fill_all.f
  rw [gI_len, gW_len, pvalid_f n (gI ln) (by rw [gI_len]; omega), Option.bind_some, validB_of ho, if_pos rfl, allGo_gW hn ln f allL [] [] hf (fun v hv => ⟨hl v hv, rfl⟩) hd (fun k _ => by simp [allL]) (by simp; omega), Option.bind_some, List.nil_append]
theorem bags_f {n : Nat} (hn : n ≤ 40) {f : Nat → Nat → Bool} (hf : Sy n f) {ln : List Nat} (ho : (gI ln).Perm (idI n)) (hd : ln.Nodup) (hl : ∀ x ∈ ln, x < n) : fill_Bags.f (gI (gW n f)) (gI ln) = some ((fillB n ln f allL).1, 0) := by
  unfold fill_Bags.f
  rw [all_f hn hf ho hd hl, Option.bind_some]
theorem joinBd_ge {h : Nat → Nat → Bool} {l : List Nat} {i k : Nat} (e : h i k = true) : joinBd h l i k = true := by unfold joinBd; rw [e]; rfl
theorem fillB_ge {n : Nat} : ∀ (l : List Nat) (h : Nat → Nat → Bool) (left : Nat → Bool) (i k : Nat), h i k = true → (fillB n l h left).2 i k = true
  | [], h, left, i, k, e => e
  | v :: l, h, left, i, k, e => fillB_ge l _ _ i k (joinBd_ge e)
theorem in_of {n : Nat} {ln : List Nat} (ho : (gI ln).Perm (idI n)) (k : Nat) (hk : k < n) : k ∈ ln := by
  obtain ⟨y, hy, e⟩ := List.mem_map.1 (ho.mem_iff.2 (mem_idI.2 ⟨k, hk, rfl⟩))
  obtain rfl : y = k := by omega
  exact hy
theorem join_none {n : Nat} {v : Nat} {l : List Nat} {h : Nat → Nat → Bool} {left : Nat → Bool} (hh : Sy n h) (hl : ∀ x, x < n → (left x = true ↔ x ∈ v :: l)) (hs : Simp h (gI (v :: l))) : joinBd h (laterN n h left v) = h := by
  funext i k
  unfold joinBd
  rw [Bool.eq_iff_iff, Bool.or_eq_true, decide_eq_true_iff]
  constructor
  · rintro (e | ⟨h1, h2, h3⟩)
    · exact e
    · have m1 := mem_laterN.1 h1
      have m2 := mem_laterN.1 h2
      have n1 : i ≠ v := fun e => by rw [e, hh.2.1] at m1; cases m1.2.1
      have n2 : k ≠ v := fun e => by rw [e, hh.2.1] at m2; cases m2.2.1
      have i1 : i ∈ l := (List.mem_cons.1 ((hl i m1.1).1 m1.2.2)).resolve_left n1
      have i2 : k ∈ l := (List.mem_cons.1 ((hl k m2.1).1 m2.2.2)).resolve_left n2
      have := hs.1 (i : Int) (List.mem_map.2 ⟨i, i1, rfl⟩) (k : Int) (List.mem_map.2 ⟨k, i2, rfl⟩) (by rw [Int.toNat_natCast, Int.toNat_natCast]; exact m1.2.1) (by rw [Int.toNat_natCast, Int.toNat_natCast]; exact m2.2.1) (by omega)
      rw [Int.toNat_natCast, Int.toNat_natCast] at this
      exact this
  · exact .inl
theorem left_tail {n : Nat} {v : Nat} {l : List Nat} {left : Nat → Bool} (hl : ∀ x, x < n → (left x = true ↔ x ∈ v :: l)) (hd : (v :: l).Nodup) : ∀ x, x < n → (without left v x = true ↔ x ∈ l) := fun x hx => by
  rw [without_iff, hl x hx, List.mem_cons]
  constructor
  · rintro ⟨a, b⟩; exact a.resolve_left (Ne.symm b)
  · intro a; exact ⟨.inr a, fun e => (List.nodup_cons.1 hd).1 (e ▸ a)⟩
theorem mem_bagT {n : Nat} {h : Nat → Nat → Bool} {left : Nat → Bool} {v : Nat} {x : Int} : x ∈ bagT n h left v ↔ ∃ k : Nat, k < n ∧ x = (k : Int) ∧ (k = v ∨ (h v k = true ∧ left k = true)) := by
  unfold bagT
  rw [mem_ofT]
  constructor
  · rintro ⟨k, hk, e, rfl⟩
    simp only [Bool.or_eq_true, Bool.and_eq_true, decide_eq_true_eq] at e
    exact ⟨k, hk, rfl, e⟩
  · rintro ⟨k, hk, rfl, e⟩
    refine ⟨k, hk, ?_, rfl⟩
    simp only [Bool.or_eq_true, Bool.and_eq_true, decide_eq_true_eq]
    exact e
theorem bagT_len (n : Nat) (h : Nat → Nat → Bool) (left : Nat → Bool) (v : Nat) : (bagT n h left v).length ≤ n := by
  unfold bagT ofT
  rw [List.length_map]
  exact Nat.le_trans (List.length_filter_le _ _) (by simp)
theorem fillB_cliq {n : Nat} : ∀ (l : List Nat) (h : Nat → Nat → Bool) (left : Nat → Bool), Sy n h → ∀ b ∈ (fillB n l h left).1, cliqB n (fillB n l h left).2 b = true ∧ b.length ≤ n
  | [], _, _, _, b, hb => absurd hb List.not_mem_nil
  | v :: l, h, left, hh, b, hb => by
    have hh2 := joinBd_sy hh (l := laterN n h left v) (fun x hx => (mem_laterN.1 hx).1)
    rcases List.mem_cons.1 hb with rfl | hb
    · refine ⟨?_, bagT_len _ _ _ _⟩
      unfold cliqB
      rw [Bool.and_eq_true, List.all_eq_true, List.all_eq_true]
      refine ⟨fun x hx => ?_, fun x hx => List.all_eq_true.2 (fun y hy => ?_)⟩
      · obtain ⟨k, hk, rfl, _⟩ := mem_bagT.1 hx
        unfold isP; exact decide_eq_true (by omega)
      · obtain ⟨i, hi, rfl, h1⟩ := mem_bagT.1 hx
        obtain ⟨k, hk, rfl, h2⟩ := mem_bagT.1 hy
        rw [Bool.or_eq_true, beq_iff_eq, Int.toNat_natCast, Int.toNat_natCast]
        by_cases c : i = k
        · exact .inl (by rw [c])
        · refine .inr ?_
          show (fillB n l (joinBd h (laterN n h left v)) (without left v)).2 i k = true
          refine fillB_ge l _ _ i k ?_
          rcases h1 with rfl | h1
          · rcases h2 with rfl | h2
            · exact absurd rfl c
            · exact joinBd_ge h2.1
          · rcases h2 with rfl | h2
            · exact joinBd_ge (by rw [hh.1]; exact h1.1)
            · unfold joinBd
              rw [decide_eq_true (show i ∈ laterN n h left v ∧ k ∈ laterN n h left v ∧ i ≠ k from ⟨mem_laterN.2 ⟨hi, h1.1, h1.2⟩, mem_laterN.2 ⟨hk, h2.1, h2.2⟩, c⟩), Bool.or_true]
    · exact fillB_cliq l _ _ hh2 b hb
theorem fillB_len {n : Nat} : ∀ (l : List Nat) (h : Nat → Nat → Bool) (left : Nat → Bool), (fillB n l h left).1.length = l.length
  | [], _, _ => rfl
  | v :: l, h, left => by
    show (fillB n l _ _).1.length + 1 = l.length + 1
    rw [fillB_len l]
end Go.Proofs.YtbdlelojlnhhfaaDoor.Pr
set_option linter.unusedVariables false
set_option linter.unusedSimpArgs false
namespace Go.Proofs.YtbdlelojlnhhfaaDoor.Pure
open Go.RowKit Go.Proofs.YtbdlelojlnhhfaaDoor.Pr Go.Proofs.YtbdlelojlnhhfaaDoorW.PrintWords Go.Proofs.YtbdlelojlnhhfaaDoorW.PrintLast Go.Proofs.YtbdlelojlnhhfaaDoorW.PrintMore
theorem bag_nodup {n : Nat} (h : Nat → Nat → Bool) (left : Nat → Bool) (v : Nat) : (bagT n h left v).Nodup := ofT_nodup n _
theorem sub_len {xs l : List Int} (hd : xs.Nodup) (h : ∀ x ∈ xs, x ∈ l) : xs.length ≤ l.length := len_sub hd (fun _ h => h) h
end Go.Proofs.YtbdlelojlnhhfaaDoor.Pure
set_option linter.unusedVariables false
set_option linter.unusedSimpArgs false
namespace Go.Proofs.YtbdlelojlnhhfaaDoor.Pr
open Go.RowKit Go.Proofs.YtbdlelojlnhhfaaDoorW.PrintWords Go.Proofs.YtbdlelojlnhhfaaDoorW.PrintLast
def withoutL (a b : List Int) : List Int := a.filter (fun x => !inB b x)
def withinR (a b : List Int) : Bool := ((withoutL a b).length : Int) == 0
theorem withinR_iff (a b : List Int) : withinR a b = true ↔ ∀ x ∈ a, x ∈ b := by
  unfold withinR withoutL
  simp only [beq_iff_eq]
  constructor
  · intro h x hx
    have h2 : (a.filter (fun x => !inB b x)) = [] := List.eq_nil_of_length_eq_zero (by omega)
    have := List.filter_eq_nil_iff.1 h2 x hx
    simp [inB] at this
    exact this
  · intro h
    have : (a.filter (fun x => !inB b x)) = [] := List.filter_eq_nil_iff.2 (fun x hx => by simp [inB]; exact h x hx)
    simp [this]
end Go.Proofs.YtbdlelojlnhhfaaDoor.Pr
set_option linter.unusedVariables false
set_option linter.unusedSimpArgs false
namespace Go.Proofs.YtbdlelojlnhhfaaDoor.Pr
open Go.RowKit Go.Proofs.YtbdlelojlnhhfaaDoorW.PrintWords Go.Proofs.YtbdlelojlnhhfaaDoorW.PrintLast
theorem inB_cons (z : Int) (m : List Int) (x : Int) : inB (z :: m) x = (z == x || inB m x) := rfl
theorem merge_without : ∀ (n : Nat) (a b : List Int), a.length + b.length = n → a.Pairwise (· < ·) → b.Pairwise (· < ·) → mergeL true false false a b = withoutL a b := by
  intro n
  induction n using Nat.strongRecOn with
  | _ n ih =>
    intro a b h ha hb
    match a, b with
    | [], [] => simp [mergeL_nn, withoutL]
    | y :: l, [] =>
      rw [mergeL_cn]
      have := ih l.length (by simp at h; omega) l [] (by simp) (List.pairwise_cons.1 ha).2 hb
      simpa [keepL, withoutL, inB] using this
    | [], z :: m =>
      rw [mergeL_nc]
      have := ih m.length (by simp at h; omega) [] m (by simp) ha (List.pairwise_cons.1 hb).2
      simpa [keepL, withoutL] using this
    | y :: l, z :: m =>
      rw [mergeL_cc]
      obtain ⟨ha1, ha2⟩ := List.pairwise_cons.1 ha
      obtain ⟨hb1, hb2⟩ := List.pairwise_cons.1 hb
      have not_in : ∀ (r : List Int) (x : Int), (∀ w ∈ r, x < w) → inB r x = false := by
        intro r x hr
        unfold inB
        rw [List.any_eq_false]
        intro w hw e
        have e2 : w = x := by simpa using e
        have := hr w hw
        omega
      by_cases h1 : y < z
      · rw [if_pos h1]
        have := ih (l.length + (m.length + 1)) (by simp at h; omega) l (z :: m) (by simp) ha2 hb
        have e : inB (z :: m) y = false := not_in _ _ (by
          intro w hw
          rcases List.mem_cons.1 hw with rfl | hw
          · exact h1
          · have := hb1 w hw; omega)
        simp only [keepL, withoutL, List.filter_cons, e] at this ⊢
        simpa using this
      · rw [if_neg h1]
        by_cases h2 : z < y
        · rw [if_pos h2]
          have := ih (l.length + 1 + m.length) (by simp at h; omega) (y :: l) m (by simp) ha hb2
          have e : withoutL (y :: l) (z :: m) = withoutL (y :: l) m := by
            unfold withoutL
            apply List.filter_congr
            intro w hw
            rw [inB_cons]
            have : (z == w) = false := by
              rcases List.mem_cons.1 hw with rfl | hw
              · simpa using (by omega : ¬ z = w)
              · have := ha1 w hw
                simpa using (by omega : ¬ z = w)
            rw [this, Bool.false_or]
          rw [e]
          simpa [keepL] using this
        · rw [if_neg h2]
          have e : y = z := by omega
          subst e
          have := ih (l.length + m.length) (by simp at h; omega) l m rfl ha2 hb2
          have e2 : withoutL (y :: l) (y :: m) = withoutL l m := by
            unfold withoutL
            rw [List.filter_cons, if_neg (by rw [inB_cons]; simp)]
            apply List.filter_congr
            intro w hw
            rw [inB_cons]
            have h3 := ha1 w hw
            have : (y == w) = false := by simpa using (by omega : ¬ y = w)
            rw [this, Bool.false_or]
          rw [e2]
          simpa [keepL] using this
end Go.Proofs.YtbdlelojlnhhfaaDoor.Pr
set_option linter.unusedVariables false
set_option linter.unusedSimpArgs false
namespace Go.Proofs.YtbdlelojlnhhfaaDoor.Pure
open Go.RowKit Go.Proofs.YtbdlelojlnhhfaaDoor.Pr Go.Proofs.YtbdlelojlnhhfaaDoorW.PrintWords Go.Proofs.YtbdlelojlnhhfaaDoorW.PrintLast Go.Proofs.YtbdlelojlnhhfaaDoorW.PrintMore
theorem ofT_rise (n : Nat) (g : Nat → Bool) : (ofT n g).Pairwise (· < ·) := by
  unfold ofT
  rw [List.pairwise_map]
  refine List.Pairwise.imp (fun h => ?_) (List.Pairwise.sublist List.filter_sublist List.pairwise_lt_range)
  omega
end Go.Proofs.YtbdlelojlnhhfaaDoor.Pure
set_option linter.unusedVariables false
set_option linter.unusedSimpArgs false
namespace Go.Proofs.YtbdlelojlnhhfaaDoor.Pure
open Go.RowKit Go.Proofs.YtbdlelojlnhhfaaDoor.Pr Go.Proofs.YtbdlelojlnhhfaaDoorW.PrintWords Go.Proofs.YtbdlelojlnhhfaaDoorW.PrintLast Go.Proofs.YtbdlelojlnhhfaaDoorW.PrintMore
theorem within_iff {a b : List Int} (ha : a.Pairwise (· < ·)) (hb : b.Pairwise (· < ·)) : withinB a b = true ↔ ∀ x ∈ a, x ∈ b := by
  unfold withinB
  rw [merge_without _ a b rfl ha hb]
  exact withinR_iff a b
theorem own_len : ∀ (l seen : List (List Int)), (ownL seen l).length ≤ l.length
  | [], _ => Nat.le_refl _
  | b :: l, seen => by
    unfold ownL
    have := own_len l (seen ++ [b])
    split
    · exact Nat.le_trans this (Nat.le_succ _)
    · exact Nat.succ_le_succ this
theorem build_f {n : Nat} (hn : n ≤ 40) {F : Nat → Nat → Bool} (hF : Sy n F) {ln : List Nat} (hop : (gI ln).Perm (idI n)) (hd : ln.Nodup) (hl : ∀ x ∈ ln, x < n) : decomp_Build.f (gI (gW n F)) (gI ln) = some (ownL [] (fillB n ln F allL).1, primL (ownL [] (fillB n ln F allL).1), 0) := by
  have hlen := fillB_len (n := n) ln F allL
  have hg : ln.length = n := by have := hop.length_eq; rw [gI_len, idI_len] at this; exact this
  have hcl := fillB_cliq (n := n) ln F allL hF
  have ho := own_len (fillB n ln F allL).1 []
  unfold decomp_Build.f
  rw [bags_f hn hF hop hd hl, Option.bind_some]
  have hc : (ownL [] (fillB n ln F allL).1).length ≤ 64 ∧ (fillB n ln F allL).1.length ≤ 100000 ∧ ∀ b ∈ (fillB n ln F allL).1, b.length ≤ 100000 := ⟨by omega, by omega, fun b hb => by have := (hcl b hb).2; omega⟩
  rw [if_pos rfl]
  exact if_pos hc
def inT (L : Nat → Option (Int × Int)) (m s : Nat) : Prop := s < m ∧ L s = none
structure PInv (B : List (List Int)) (L : Nat → Option (Int × Int)) (par : List Int) : Prop where
  len : par.length = B.length
  dom : ∀ i, (L i).isSome = true → i < B.length
  lnk : ∀ i c t, L i = some (c, t) → ((∀ s, ¬ inT L B.length s) ∧ c = -1 ∧ t = -1) ∨ ∃ p : Nat, t = (p : Int) ∧ inT L B.length p ∧ c = meetN B i p ∧ ∀ s, inT L B.length s → meetN B i s ≤ c ∧ (meetN B i s = c → p ≤ s)
  root : (∃ s, inT L B.length s) → inT L B.length 0
  top : inT L B.length 0 → rd par 0 = -1
  par_ : ∀ s, inT L B.length s → s ≠ 0 → ∃ p : Nat, rd par (s : Int) = (p : Int) ∧ p < B.length ∧ p ≠ s ∧ meetN B s 0 ≤ meetN B s p ∧ (meetN B s 0 = meetN B s p → p = 0)
section
variable {n : Nat} (hn : n ≤ 40) (B : List (List Int)) (hB : B.length ≤ 1000)
include hn hB
end
def Fo (f : Nat → Nat → Bool) : Prop := ∀ i a b, a < i → b < i → f i a = true → f i b = true → a = b
theorem fo_tri {n : Nat} {f : Nat → Nat → Bool} (hf : Sy n f) (h : Fo f) {v a b : Nat} (h1 : f v a = true) (h2 : f v b = true) (h3 : f a b = true) : False := by
  have d1 : v ≠ a := fun e => by rw [e, hf.2.1] at h1; cases h1
  have d2 : v ≠ b := fun e => by rw [e, hf.2.1] at h2; cases h2
  have d3 : a ≠ b := fun e => by rw [e, hf.2.1] at h3; cases h3
  have s1 : f a v = true := by rw [hf.1]; exact h1
  have s2 : f b v = true := by rw [hf.1]; exact h2
  have s3 : f b a = true := by rw [hf.1]; exact h3
  by_cases c1 : a < v ∧ b < v
  · exact d3 (h v a b c1.1 c1.2 h1 h2)
  · by_cases c2 : v < a ∧ b < a
    · exact d2 (h a v b c2.1 c2.2 s1 h3)
    · exact d1 (h b v a (by omega) (by omega) s2 s3)
theorem fo_late {n : Nat} {f : Nat → Nat → Bool} (hf : Sy n f) (h : Fo f) : Mcs.Late f (fun v => n - v) := fun v a b h1 h2 h3 h4 h5 =>
  absurd (h v a b (by have h1 : n - v < n - a := h1; omega) (by have h2 : n - v < n - b := h2; omega) h3 h4) h5
theorem ex_max (left : Nat → Bool) : ∀ n, (∃ k, k < n ∧ left k = true) → ∃ m, m < n ∧ left m = true ∧ ∀ k, k < n → left k = true → k ≤ m
  | 0, ⟨k, h, _⟩ => by omega
  | n + 1, ⟨k, hk, hl⟩ => by
    cases h : left n with
    | true => exact ⟨n, by omega, h, fun k hk _ => by omega⟩
    | false =>
      have hkn : k ≠ n := fun e => by rw [e, h] at hl; cases hl
      obtain ⟨m, h1, h2, h3⟩ := ex_max left n ⟨k, by omega, hl⟩
      refine ⟨m, by omega, h2, fun j hj hlj => h3 j ?_ hlj⟩
      have : j ≠ n := fun e => by rw [e, h] at hlj; cases hlj
      omega
theorem len_one {l : List Nat} (hd : l.Nodup) (h : ∀ a ∈ l, ∀ b ∈ l, a = b) : l.length ≤ 1 := by
  rcases Nat.lt_or_ge 1 l.length with c | c
  · have := nodup_at hd (i := 0) (k := 1) (by omega) c (h _ (List.getElem_mem _) _ (List.getElem_mem _))
    omega
  · exact c
theorem fd_simp (how : Int) (hh : how = 1 ∨ how = 2) (n : Nat) (f00 f : Nat → Nat → Bool) (hf : Sy n f) (hF : Fo f) : ∀ (kk : Nat) (left : Nat → Bool), (ofT n left).length ≤ kk → Simp f (planT how n f00 kk (rst f left) left)
  | 0, left, _ => trivial
  | kk + 1, left, hk => by
    rw [planT]
    by_cases c : ofT n left = []
    · rw [if_pos c]; trivial
    · rw [if_neg c]
      obtain ⟨v, hv, hlv, ev⟩ := least9 (wT how n f00 (rst f left) left) c
      simp only [ev, Int.toNat_natCast]
      have hne3 : how ≠ 3 := by rcases hh with rfl | rfl <;> decide
      rw [if_neg hne3]
      have hr := hf.rst left
      obtain ⟨m, hm, hlm, hmax⟩ := ex_max left n ⟨v, hv, hlv⟩
      have hone : ∀ a b, rst f left m a = true → rst f left m b = true → a = b := fun a b ha hb => by
        have h1 := (rst_iff _ _ _ _).1 ha
        have h2 := (rst_iff _ _ _ _).1 hb
        have q1 := hmax a (hf.2.2 _ _ h1.1).2 h1.2.2
        have q2 := hmax b (hf.2.2 _ _ h2.1).2 h2.2.2
        have d1 : a ≠ m := fun e => by rw [e, hf.2.1] at h1; cases h1.1
        have d2 : b ≠ m := fun e => by rw [e, hf.2.1] at h2; cases h2.1
        exact hF m a b (by omega) (by omega) h1.1 h2.1
      have hleast := (leastF_least (wT how n f00 (rst f left) left) (ofT n left) (fun x hx => ofT_nn hx) (ofT_rising n left) (m : Int) (mem_ofT.2 ⟨m, hm, hlm, rfl⟩)).1
      rw [ev] at hleast
      have hv2 : ∀ a b, rst f left v a = true → rst f left v b = true → a = b := fun a b ha hb => by
        rcases hh with rfl | rfl
        · unfold wT at hleast
          rw [if_pos rfl, if_pos rfl, Int.toNat_natCast, Int.toNat_natCast, (missT_zero hr m).2 (fun a b ha hb hab => absurd (hone a b ha hb) hab)] at hleast
          have hz := (missT_zero hr v).1 (by omega)
          apply Classical.byContradiction
          intro hab
          exact fo_tri hf hF ((rst_iff _ _ _ _).1 ha).1 ((rst_iff _ _ _ _).1 hb).1 ((rst_iff _ _ _ _).1 (hz a b ha hb hab)).1
        · unfold wT at hleast
          rw [if_neg (by decide), if_pos rfl, if_neg (by decide), if_pos rfl, Int.toNat_natCast, Int.toNat_natCast] at hleast
          have h1 := len_one (nbN_nodup n (rst f left) m) (fun a ha b hb => hone a b (mem_nbN.1 ha).2 (mem_nbN.1 hb).2)
          obtain ⟨p, hp, ep⟩ := List.getElem_of_mem (mem_nbN.2 ⟨(hr.2.2 _ _ ha).2, ha⟩)
          obtain ⟨q, hq, eq⟩ := List.getElem_of_mem (mem_nbN.2 ⟨(hr.2.2 _ _ hb).2, hb⟩)
          obtain rfl : p = q := by omega
          exact ep.symm.trans eq
      have hin : ∀ a : Nat, without left v a = true → f v a = true → rst f left v a = true := fun a h1 h2 => (rst_iff _ _ _ _).2 ⟨h2, hlv, ((without_iff _ _ _).1 h1).1⟩
      have hc := ofT_without hv hlv
      refine ⟨fun a ha b hb h1 h2 hab => ?_, ?_⟩
      · have hp : ∀ x ∈ planT how n f00 kk (goT (rst f left) v) (without left v), ∃ x' : Nat, x = (x' : Int) ∧ without left v x' = true := fun x hx => by
          obtain ⟨i, _, h3, h4⟩ := mem_ofT.1 ((planT_perm how n f00 kk _ (without left v) (by omega)).mem_iff.1 hx)
          exact ⟨i, h4, h3⟩
        obtain ⟨a', rfl, ha'⟩ := hp a ha
        obtain ⟨b', rfl, hb'⟩ := hp b hb
        rw [Int.toNat_natCast, Int.toNat_natCast] at h1 h2
        exact absurd (by rw [hv2 a' b' (hin a' ha' h1) (hin b' hb' h2)]) hab
      · rw [rst_go hf left v (fun a b h1 h2 h3 h4 h5 => absurd (hv2 a b (hin a h1 h3) (hin b h2 h4)) h5)]
        exact fd_simp how hh n f00 f hf hF kk (without left v) (by omega)
theorem tree_simp (how : Int) (h1 : 1 ≤ how) (h3 : how ≤ 3) (n : Nat) (hn : n ≤ 64) (f : Nat → Nat → Bool) (hf : Sy n f) (hF : Fo f) : Simp f (orderT how n f) := by
  by_cases c : how = 3
  · subst c
    exact card_simp n hn f hf (fun v => n - v) (fun x y hx hy e => by have e : n - x = n - y := e; omega) (fo_late hf hF)
  · unfold orderT
    rw [if_neg c]
    have h := fd_simp how (by omega) n f f hf hF 64 (fun _ => true) (by rw [ofT_all]; exact hn)
    rw [rst_all] at h
    exact h
def prs (f : Nat → Nat → Bool) : List Nat → Nat
  | [] => 0
  | v :: l => l.countP (f v) + prs f l
theorem prs_perm {f : Nat → Nat → Bool} (hs : ∀ i k, f i k = f k i) {a b : List Nat} (h : a.Perm b) : prs f a = prs f b := by
  induction h with
  | nil => rfl
  | cons x h ih => rw [prs, prs, ih, h.countP_eq]
  | swap x y l => rw [prs, prs, prs, prs, List.countP_cons, List.countP_cons, hs x y]; omega
  | trans h1 h2 ih1 ih2 => rw [ih1, ih2]
theorem prs_congr {f g : Nat → Nat → Bool} : ∀ (l : List Nat), (∀ x ∈ l, ∀ y ∈ l, f x y = g x y) → prs f l = prs g l
  | [], _ => rfl
  | v :: l, h => by
    rw [prs, prs, prs_congr l (fun x hx y hy => h x (List.mem_cons_of_mem _ hx) y (List.mem_cons_of_mem _ hy)), List.countP_congr (fun y hy => by rw [h v List.mem_cons_self y (List.mem_cons_of_mem _ hy)])]
def dn (i : Nat) : List Nat := (List.range i).reverse
theorem dn_succ (i : Nat) : dn (i + 1) = i :: dn i := by unfold dn; rw [List.range_succ, List.reverse_append]; rfl
theorem mem_dn {i x : Nat} : x ∈ dn i ↔ x < i := by unfold dn; rw [List.mem_reverse, List.mem_range]
theorem prs_le (f : Nat → Nat → Bool) : ∀ l : List Nat, prs f l ≤ l.length * l.length
  | [] => Nat.le_refl _
  | v :: l => by
    have h1 := prs_le f l
    have h2 : l.countP (f v) ≤ l.length := List.countP_le_length
    rw [prs, List.length_cons, Nat.succ_mul, Nat.mul_succ]
    omega
theorem cnt_dn_one (p : Nat) : ∀ i, p < i → (dn i).countP (fun y => decide (y = p)) = 1
  | 0, h => by omega
  | i + 1, h => by
    rw [dn_succ, List.countP_cons]
    by_cases c : i = p
    · subst c
      rw [List.countP_eq_zero.2 (fun y hy => by have := mem_dn.1 hy; simp; omega)]
      simp
    · rw [cnt_dn_one p i (by omega)]
      simp [c]
theorem prs_add {n : Nat} {f : Nat → Nat → Bool} {i p : Nat} (hb : ∀ p q, f p q = true → p < i ∧ q < i) (hp : p < i) : prs (addE f i p) (dn (i + 1)) = prs f (dn i) + 1 := by
  rw [dn_succ, prs, prs_congr (f := addE f i p) (g := f) (dn i) (fun x hx y hy => by
    have h1 := mem_dn.1 hx
    have h2 := mem_dn.1 hy
    unfold addE
    rw [decide_eq_false (show ¬ (x = i ∧ y = p) by omega), decide_eq_false (show ¬ (x = p ∧ y = i) by omega)]
    simp), List.countP_congr (p := addE f i p i) (q := fun y => decide (y = p)) (fun y hy => by
    have h2 := mem_dn.1 hy
    unfold addE
    have h3 : f i y = false := by
      cases e : f i y with
      | false => rfl
      | true => have := hb _ _ e; omega
    rw [h3, decide_eq_false (show ¬ (i = p ∧ y = i) by omega)]
    simp), cnt_dn_one p i hp]
  omega
theorem prs_no {f : Nat → Nat → Bool} {i : Nat} (hb : ∀ p q, f p q = true → p < i ∧ q < i) : prs f (dn (i + 1)) = prs f (dn i) := by
  rw [dn_succ, prs, List.countP_eq_zero.2 (fun y hy => by
    intro e
    have := hb _ _ e
    omega), Nat.zero_add]
theorem later_one {n : Nat} {f : Nat → Nat → Bool} (hf : Sy n f) (hF : Fo f) {v : Nat} {l : List Nat} (hd : (v :: l).Nodup) (hs : Simp f (gI (v :: l))) : ∀ a ∈ l, ∀ b ∈ l, f v a = true → f v b = true → a = b := fun a ha b hb h1 h2 => by
  apply Classical.byContradiction
  intro hab
  have h5 := hs.1 (a : Int) (List.mem_map.2 ⟨a, ha, rfl⟩) (b : Int) (List.mem_map.2 ⟨b, hb, rfl⟩) (by rw [Int.toNat_natCast, Int.toNat_natCast]; exact h1) (by rw [Int.toNat_natCast, Int.toNat_natCast]; exact h2) (by omega)
  rw [Int.toNat_natCast, Int.toNat_natCast] at h5
  exact fo_tri hf hF h1 h2 h5
theorem cnt_one {l : List Nat} {g : Nat → Bool} {w : Nat} (hd : l.Nodup) (hw : w ∈ l) (hg : g w = true) (h : ∀ a ∈ l, g a = true → a = w) : l.countP g = 1 := by
  rw [List.countP_eq_length_filter]
  have h1 : (l.filter g).length ≤ 1 := len_one (List.Nodup.sublist List.filter_sublist hd) (fun a ha b hb => by
    rw [h a (List.mem_filter.1 ha).1 (List.mem_filter.1 ha).2, h b (List.mem_filter.1 hb).1 (List.mem_filter.1 hb).2])
  have h2 : 0 < (l.filter g).length := List.length_pos_iff.2 (fun e => by
    have := List.mem_filter.2 ⟨hw, hg⟩
    rw [e] at this
    cases this)
  omega
theorem tree_bags {n : Nat} {f : Nat → Nat → Bool} (hf : Sy n f) (hF : Fo f) : ∀ (l : List Nat) (left : Nat → Bool) (seen : List (List Int)), (∀ v ∈ l, v < n) → (∀ x, x < n → (left x = true ↔ x ∈ l)) → l.Nodup → Simp f (gI l) →
    (∀ s ∈ seen, s.length ≤ 2 ∧ s.Pairwise (· < ·) ∧ ∃ u : Nat, (u : Int) ∈ s ∧ u ∉ l) → (∀ x ∈ l, (∃ s ∈ seen, (x : Int) ∈ s) ↔ ∃ u, u < n ∧ u ∉ l ∧ f u x = true) →
    (ownL seen (fillB n l f left).1).length = prs f l + l.countP (fun v => decide (nbN n f v = [])) ∧ ∀ b ∈ (fillB n l f left).1, 1 ≤ b.length ∧ b.length ≤ 2
  | [], left, seen, _, _, _, _, _, _ => ⟨rfl, fun b hb => by cases hb⟩
  | v :: l, left, seen, hl, hleft, hd, hs, h1, h2 => by
    have hv := hl v List.mem_cons_self
    have hvl : v ∉ l := (List.nodup_cons.1 hd).1
    have hone := later_one hf hF hd hs
    have hbag : ∀ x : Nat, ((x : Int) ∈ bagT n f left v) ↔ (x = v ∨ (f v x = true ∧ x ∈ l)) := fun x => by
      rw [mem_bagT]
      constructor
      · rintro ⟨k, hk, e, h⟩
        obtain rfl : x = k := by omega
        rcases h with h | ⟨h3, h4⟩
        · exact .inl h
        · refine .inr ⟨h3, ?_⟩
          rcases List.mem_cons.1 ((hleft x hk).1 h4) with e | e
          · rw [e, hf.2.1] at h3; cases h3
          · exact e
      · rintro (rfl | ⟨h3, h4⟩)
        · exact ⟨x, hv, rfl, .inl rfl⟩
        · have hx := hl x (List.mem_cons_of_mem _ h4)
          exact ⟨x, hx, rfl, .inr ⟨h3, (hleft x hx).2 (List.mem_cons_of_mem _ h4)⟩⟩
    have hint : ∀ y ∈ bagT n f left v, ∃ k : Nat, y = (k : Int) := fun y hy => by
      obtain ⟨k, _, e, _⟩ := mem_bagT.1 hy
      exact ⟨k, e⟩
    have hrise : (bagT n f left v).Pairwise (· < ·) := ofT_rise n _
    have hvb : (v : Int) ∈ bagT n f left v := (hbag v).2 (.inl rfl)
    have hlen : 1 ≤ (bagT n f left v).length ∧ (bagT n f left v).length ≤ 2 := by
      refine ⟨List.length_pos_iff.2 (fun e => by rw [e] at hvb; cases hvb), ?_⟩
      by_cases c : ∃ w ∈ l, f v w = true
      · obtain ⟨w, hw, hfw⟩ := c
        refine Nat.le_trans (sub_len (l := [(v : Int), (w : Int)]) (bag_nodup f left v) (fun y hy => ?_)) (Nat.le_refl _)
        obtain ⟨k, rfl⟩ := hint y hy
        rcases (hbag k).1 hy with rfl | ⟨h3, h4⟩
        · exact List.mem_cons_self
        · rw [hone k h4 w hw h3 hfw]; exact List.mem_cons_of_mem _ List.mem_cons_self
      · refine Nat.le_trans (sub_len (l := [(v : Int)]) (bag_nodup f left v) (fun y hy => ?_)) (by simp)
        obtain ⟨k, rfl⟩ := hint y hy
        rcases (hbag k).1 hy with rfl | ⟨h3, h4⟩
        · exact List.mem_cons_self
        · exact absurd ⟨k, h4, h3⟩ c
    have hj : joinBd f (laterN n f left v) = f := join_none hf hleft hs
    have e0 : (fillB n (v :: l) f left).1 = bagT n f left v :: (fillB n l f (without left v)).1 := by
      show bagT n f left v :: (fillB n l (joinBd f (laterN n f left v)) (without left v)).1 = _
      rw [hj]
    have ih := tree_bags hf hF l (without left v) (seen ++ [bagT n f left v]) (fun x hx => hl x (List.mem_cons_of_mem _ hx)) (left_tail hleft hd) (List.nodup_cons.1 hd).2 hs.2 (fun s hs' => by
      rcases List.mem_append.1 hs' with hs' | hs'
      · obtain ⟨a1, a2, u, a3, a4⟩ := h1 s hs'
        exact ⟨a1, a2, u, a3, fun h => a4 (List.mem_cons_of_mem _ h)⟩
      · rw [List.mem_singleton.1 hs']
        exact ⟨hlen.2, hrise, v, hvb, hvl⟩) (fun x hx => by
      have hxv : x ≠ v := fun e => hvl (e ▸ hx)
      have h3 := h2 x (List.mem_cons_of_mem _ hx)
      constructor
      · rintro ⟨s, hs', hxs⟩
        rcases List.mem_append.1 hs' with hs' | hs'
        · obtain ⟨u, a1, a2, a3⟩ := h3.1 ⟨s, hs', hxs⟩
          exact ⟨u, a1, fun h => a2 (List.mem_cons_of_mem _ h), a3⟩
        · rw [List.mem_singleton.1 hs'] at hxs
          rcases (hbag x).1 hxs with e | ⟨a1, _⟩
          · exact absurd e hxv
          · exact ⟨v, hv, hvl, a1⟩
      · rintro ⟨u, a1, a2, a3⟩
        by_cases c : u = v
        · subst c
          exact ⟨_, List.mem_append_right _ (List.mem_singleton.2 rfl), (hbag x).2 (.inr ⟨a3, hx⟩)⟩
        · obtain ⟨s, b1, b2⟩ := h3.2 ⟨u, a1, fun h => (List.mem_cons.1 h).elim c a2, a3⟩
          exact ⟨s, List.mem_append_left _ b1, b2⟩)
    rw [e0]
    refine ⟨?_, fun b hb => (List.mem_cons.1 hb).elim (fun e => e ▸ hlen) (fun h => ih.2 b h)⟩
    rw [ownL, prs, List.countP_cons]
    by_cases c : ∃ w ∈ l, f v w = true
    · obtain ⟨w, hw, hfw⟩ := c
      have hno : ¬ (seen.any (withinB (bagT n f left v)) = true) := fun hc => by
        obtain ⟨s, hs1, hs2⟩ := List.any_eq_true.1 hc
        obtain ⟨a1, a2, u, a3, a4⟩ := h1 s hs1
        have hin := (within_iff hrise a2).1 hs2
        have q1 := hin _ hvb
        have q2 := hin _ ((hbag w).2 (.inr ⟨hfw, hw⟩))
        have huv : u ≠ v := fun e => a4 (e ▸ List.mem_cons_self)
        have huw : u ≠ w := fun e => a4 (e ▸ List.mem_cons_of_mem _ hw)
        have hvw : v ≠ w := fun e => hvl (e ▸ hw)
        have := sub_len (xs := [(u : Int), (v : Int), (w : Int)]) (l := s) (by
          refine List.nodup_cons.2 ⟨?_, List.nodup_cons.2 ⟨?_, List.nodup_cons.2 ⟨by simp, List.nodup_nil⟩⟩⟩
          · simp only [List.mem_cons, List.not_mem_nil, or_false]; omega
          · simp only [List.mem_cons, List.not_mem_nil, or_false]; omega) (fun y hy => by
          rcases List.mem_cons.1 hy with rfl | hy
          · exact a3
          · rcases List.mem_cons.1 hy with rfl | hy
            · exact q1
            · rw [List.mem_singleton.1 hy]; exact q2)
        simp only [List.length_cons, List.length_nil] at this
        omega
      have hnb : nbN n f v ≠ [] := fun e => by
        have := mem_nbN.2 ⟨hl w (List.mem_cons_of_mem _ hw), hfw⟩
        rw [e] at this
        cases this
      rw [if_neg hno, List.length_cons, ih.1, cnt_one (List.nodup_cons.1 hd).2 hw hfw (fun a ha hfa => hone a ha w hw hfa hfw), decide_eq_false hnb, if_neg (by decide)]
      omega
    · have hz : l.countP (f v) = 0 := List.countP_eq_zero.2 (fun w hw hfw => c ⟨w, hw, hfw⟩)
      have hany : (seen.any (withinB (bagT n f left v)) = true) ↔ ∃ u, u < n ∧ u ∉ v :: l ∧ f u v = true := by
        rw [← h2 v List.mem_cons_self, List.any_eq_true]
        constructor
        · rintro ⟨s, hs1, hs2⟩
          exact ⟨s, hs1, (within_iff hrise (h1 s hs1).2.1).1 hs2 _ hvb⟩
        · rintro ⟨s, hs1, hs2⟩
          refine ⟨s, hs1, (within_iff hrise (h1 s hs1).2.1).2 (fun y hy => ?_)⟩
          obtain ⟨k, rfl⟩ := hint y hy
          rcases (hbag k).1 hy with rfl | ⟨h3, h4⟩
          · exact hs2
          · exact absurd ⟨k, h4, h3⟩ c
      rw [hz]
      by_cases cn : nbN n f v = []
      · have hno : ¬ (seen.any (withinB (bagT n f left v)) = true) := fun hc => by
          obtain ⟨u, a1, _, a3⟩ := hany.1 hc
          have := mem_nbN.2 ⟨a1, (show f v u = true by rw [hf.1]; exact a3)⟩
          rw [cn] at this
          cases this
        rw [if_neg hno, List.length_cons, ih.1, decide_eq_true cn, if_pos rfl]
        omega
      · obtain ⟨u, hu⟩ := List.exists_mem_of_ne_nil _ cn
        have hu2 := mem_nbN.1 hu
        have hyes : seen.any (withinB (bagT n f left v)) = true := hany.2 ⟨u, hu2.1, fun h => by
          rcases List.mem_cons.1 h with e | e
          · rw [e, hf.2.1] at hu2; cases hu2.2
          · exact c ⟨u, e, hu2.2⟩, by rw [hf.1]; exact hu2.2⟩
        rw [if_pos hyes, ih.1, decide_eq_false cn, if_neg (by decide)]
        omega
theorem rdI_is (B : List (List Int)) (i : Nat) (h : i < B.length) : rd_L1 B (i : Int) = B[i] := by
  unfold rd_L1
  rw [Int.toNat_natCast]
  simp [h]
theorem dtrees_l2 (B : List (List Int)) (hB : B.length ≤ 1000) (hl : ∀ b ∈ B, 1 ≤ b.length ∧ b.length ≤ 2) (par : List Int) : ∀ (d i : Nat), i + d = B.length → Ev (fun k => arboristlaw11_DecompTrees.l2 k true (i : Int) B par) true
  | 0, i, h => evs0 (fun k => by rw [arboristlaw11_DecompTrees.l2, if_neg (by omega)])
  | d + 1, i, h => by
    have hi : i < B.length := by omega
    have hb := hl _ (List.getElem_mem hi)
    refine evp (dtrees_l2 B hB hl par d (i + 1) (by omega)) (fun k q => ?_)
    rw [arboristlaw11_DecompTrees.l2, if_pos (by omega), if_pos (by omega), rdI_is B i hi, if_neg (by omega), if_neg (by omega), wrap_nat i (by omega)]
    exact q
def alone (n : Nat) (f : Nat → Nat → Bool) (i : Nat) : Nat := (List.range i).countP fun v => decide (nbN n f v = [])
theorem alone_le (n : Nat) (f : Nat → Nat → Bool) (i : Nat) : alone n f i ≤ i := by
  unfold alone
  have := List.countP_le_length (p := fun v => decide (nbN n f v = [])) (l := List.range i)
  rw [List.length_range] at this
  exact this
theorem dtrees_l1 (n : Nat) (hn : n ≤ 12) (f : Nat → Nat → Bool) (hf : Sy n f) (hF : Fo f) (a1 : Int) : ∀ (d i : Nat), i + d = n → Ev (fun k => arboristlaw11_DecompTrees.l1 k a1 true (n : Int) (mat n f) ((prs f (dn n) : Nat) : Int) ((alone n f i : Nat) : Int) (i : Int)) true
  | 0, i, h => by
    obtain rfl : i = n := by omega
    obtain ⟨m, hm, hm2⟩ := kT_in (show 0 < 3 by omega) a1
    rw [show ((3 : Nat) : Int) = 3 from rfl] at hm2
    have hw : wrap64 (1 + (m : Int)) = 1 + (m : Int) := wrap_id (by omega) (by omega)
    have hop := orderT_perm (1 + (m : Int)) i (by omega) f
    obtain ⟨ln, hln, hd, hl⟩ := toN_of hop
    have hsim := tree_simp (1 + (m : Int)) (by omega) (by omega) i (by omega) f hf hF
    have hof := rof_ev i (by omega) f hf (1 + (m : Int)) (by omega) (by omega)
    rw [hln] at hop hsim hof
    have hb := build_f (show i ≤ 40 by omega) hf hop hd hl
    have hin := fun x hx => in_of hop x hx
    have ht := tree_bags hf hF ln allL [] hl (fun x hx => ⟨fun _ => hin x hx, fun _ => rfl⟩) hd hsim (fun s hs => by cases hs) (fun x hx => ⟨fun ⟨s, hs, _⟩ => (by cases hs), fun ⟨u, hu, hnu, _⟩ => absurd (hin u hu) hnu⟩)
    have hpn : ln.Perm (List.range i) := (List.perm_ext_iff_of_nodup hd List.nodup_range).2 (fun x => ⟨fun hx => List.mem_range.2 (hl x hx), fun hx => hin x (List.mem_range.1 hx)⟩)
    have hc : (ownL [] (fillB i ln f allL).1).length = prs f (dn i) + alone i f i := by
      rw [ht.1, hpn.countP_eq, prs_perm hf.1 (hpn.trans (List.reverse_perm _).symm)]
      rfl
    have hos := ownL_sub (fillB i ln f allL).1 []
    have hol := own_len (fillB i ln f allL).1 []
    have hfl := fillB_len (n := i) ln f allL
    have hlen : ln.length = i := by have := hpn.length_eq; rw [List.length_range] at this; exact this
    generalize (fillB i ln f allL).1 = B0 at *
    generalize ownL [] B0 = B at *
    have h2 := dtrees_l2 B (by omega) (fun b hb => ht.2 b (hos b hb)) (primL B) B.length 0 (by omega)
    have hj : Ev (fun k => arboristlaw11_DecompTrees.j2 k true false B (primL B)) true := evp h2 (fun k e => by
      rw [arboristlaw11_DecompTrees.j2, if_neg (by decide)]
      exact e)
    have hw2 : wrap64 (((prs f (dn i) : Nat) : Int) + ((alone i f i : Nat) : Int)) = ((B.length : Nat) : Int) := by
      rw [hc, wrap_id (by omega) (by omega)]
      omega
    refine evs3 (graph_ev i (by omega) f) hof hj (fun k e1 e2 e3 => ?_)
    rw [arboristlaw11_DecompTrees.l1, if_neg (by omega), e1, Option.bind_some, hm2, hw, e2, Option.bind_some, hb, Option.bind_some, if_pos rfl, hw2, bne_self_eq_false]
    exact e3
  | d + 1, i, h => by
    have hi : i < n := by omega
    have hal := alone_le n f i
    have ih := dtrees_l1 n hn f hf hF a1 d (i + 1) (by omega)
    have ha : alone n f (i + 1) = alone n f i + if nbN n f i = [] then 1 else 0 := by
      unfold alone
      rw [List.range_succ, List.countP_append, List.countP_singleton]
      by_cases c : nbN n f i = []
      · rw [decide_eq_true c, if_pos rfl, if_pos c]
      · rw [decide_eq_false c, if_neg (by decide), if_neg c]
    rw [ha] at ih
    refine evs2 (neigh9 n (by omega) f i hi) ih (fun k e1 e2 => ?_)
    rw [arboristlaw11_DecompTrees.l1, if_pos (by omega), e1, Option.bind_some, gI_len, wrap_nat i (by omega)]
    by_cases c : nbN n f i = []
    · rw [if_pos c] at e2
      rw [c, if_pos (by rfl), wrap_nat (alone n f i) (by omega)]
      exact e2
    · rw [if_neg c] at e2
      rw [if_neg (by have := List.length_pos_iff.2 c; omega)]
      exact e2
theorem dtrees_l0 (n : Nat) (hn : n ≤ 12) (l : List Int) (hl : n ≤ l.length + 1) (a1 : Int) (d : Nat) : ∀ (i : Nat) (f : Nat → Nat → Bool), i + d = n → 1 ≤ i → Sy n f → Fo f → (∀ p q, f p q = true → p < i ∧ q < i) →
    Ev (fun k => arboristlaw11_DecompTrees.l0 k l a1 true (n : Int) (mat n f) ((prs f (dn i) : Nat) : Int) (i : Int)) true := by
  induction d with
  | zero =>
    intro i f h h1 hf hF hb
    obtain rfl : i = n := by omega
    refine evp (dtrees_l1 i hn f hf hF a1 i 0 (by omega)) (fun k e => ?_)
    rw [arboristlaw11_DecompTrees.l0, if_neg (by omega)]
    exact e
  | succ d ih =>
    intro i f h h1 hf hF hb
    have hw1 : wrap64 ((i : Int) - 1) = ((i - 1 : Nat) : Int) := by rw [wrap_id (by omega) (by omega)]; omega
    have hw2 : wrap64 ((i : Int) + 1) = ((i + 1 : Nat) : Int) := wrap_nat i (by omega)
    have hpl := prs_le f (dn i)
    have hdl : (dn i).length ≤ 12 := by unfold dn; rw [List.length_reverse, List.length_range]; omega
    have hpl2 : prs f (dn i) ≤ 144 := Nat.le_trans hpl (Nat.mul_le_mul hdl hdl)
    obtain ⟨p, hp, hp2⟩ := kT_in (show 0 < i + 1 by omega) (rd l ((i - 1 : Nat) : Int))
    by_cases c : p < i
    · have hnp : i ≠ p := by omega
      have hFa : Fo (addE f i p) := fun x a b ha hb2 e1 e2 => by
        unfold addE at e1 e2
        simp only [Bool.or_eq_true, decide_eq_true_eq] at e1 e2
        rcases e1 with e1 | e1
        · rcases e2 with e2 | e2
          · exact hF x a b ha hb2 e1 e2
          · have := hb _ _ e1; omega
        · rcases e2 with e2 | e2
          · have := hb _ _ e2; omega
          · omega
      have hr := ih (i + 1) (addE f i p) (by omega) (by omega) (hf.add (by omega) (by omega) hnp) hFa (fun x y e => by
        unfold addE at e
        simp only [Bool.or_eq_true, decide_eq_true_eq] at e
        rcases e with e | e
        · have := hb _ _ e; omega
        · omega)
      rw [prs_add (n := n) hb c] at hr
      obtain ⟨y, hy⟩ : ∃ y, y = (mat n f).set i ((rd_L8 (mat n f) (i : Int)).set p true) := ⟨_, rfl⟩
      obtain ⟨y1, y2, y3⟩ := mat_edge n f i p (by omega) (by omega) y hy
      refine evp hr (fun k e => ?_)
      rw [arboristlaw11_DecompTrees.l0, if_pos (by omega), hw1, if_pos (by omega), if_pos (by omega), hw2, if_neg (by omega), hp2, if_pos (by omega), if_pos (by omega), mat_len, if_pos (by omega), if_pos (by omega), if_pos (by rw [mat_rd n f i (by omega), rowT_len]; omega)]
      simp only [Option.bind_some, Int.toNat_natCast]
      rw [← hy, if_pos (by omega), if_pos (by omega), y3, wrap_nat (prs f (dn i)) (by omega)]
      exact e
    · have hr := ih (i + 1) f (by omega) (by omega) hf hF (fun x y e => by have := hb _ _ e; omega)
      rw [prs_no hb] at hr
      refine evp hr (fun k e => ?_)
      rw [arboristlaw11_DecompTrees.l0, if_pos (by omega), hw1, if_pos (by omega), if_pos (by omega), hw2, if_neg (by omega), hp2, if_neg (by omega)]
      exact e
theorem DecompTrees : arboristlaw11_DecompTrees.Pure := by
  intro l a1 _ _
  obtain ⟨n, hn, hn2⟩ : ∃ n : Nat, (1 ≤ n ∧ n ≤ 12 ∧ n ≤ l.length + 1) ∧ mn (l.length : Int) 11 + 1 = (n : Int) := by
    refine ⟨(min l.length 11) + 1, by omega, ?_⟩
    unfold mn
    split <;> omega
  have h0 := dtrees_l0 n hn.2.1 l hn.2.2 a1 (n - 1) 1 (fun _ _ => false) (by omega) (Nat.le_refl _) (Sy.no n) (fun i a b _ _ h _ => by cases h) (fun p q h => by cases h)
  refine (evu2 (empty_ev n (by omega)) h0 (fun k e2 e3 => ?_)).rounds
  simp only [arboristlaw11_DecompTrees.f]
  rw [shown_9, Option.bind_some, hn2, e2, Option.bind_some]
  exact e3
end Go.Proofs.YtbdlelojlnhhfaaDoor.Pure
