/- DecompValid: what is built is a decomposition, its largest bag has the order's width and one, and no bag is within another one. -/
import Derived.Laws.BitsAllLaws
import Derived.Test.YtbdlelojlnhhfaaDoorPr0
import Derived.Test.YtbdlelojlnhhfaaDoorPr1
import Derived.Test.YtbdlelojlnhhfaaDoorPr11
import Derived.Test.YtbdlelojlnhhfaaDoorPr12
import Derived.Test.YtbdlelojlnhhfaaDoorPr15
import Derived.Test.YtbdlelojlnhhfaaDoorPr21
import Derived.Test.YtbdlelojlnhhfaaDoorPr22
import Derived.Test.YtbdlelojlnhhfaaDoorPr25
import Derived.Test.YtbdlelojlnhhfaaDoorPr29
import Derived.Test.YtbdlelojlnhhfaaDoorPr32
import Derived.Test.YtbdlelojlnhhfaaDoorPr35
import Derived.Test.YtbdlelojlnhhfaaDoorPr36
import Derived.Test.YtbdlelojlnhhfaaDoorPr39
import Derived.Test.YtbdlelojlnhhfaaDoorPr47
import Derived.Test.YtbdlelojlnhhfaaDoorPr48
import Derived.Test.YtbdlelojlnhhfaaDoorPr49
import Derived.Test.YtbdlelojlnhhfaaDoorPr50
set_option linter.unusedVariables false
set_option linter.unusedSimpArgs false
set_option linter.unusedSectionVars false
namespace Go.Proofs.YtbdlelojlnhhfaaDoor.Pr
open Go.RowKit Go.Proofs.YtbdlelojlnhhfaaDoorW.PrintWords Go.Proofs.YtbdlelojlnhhfaaDoorW.PrintLast
theorem evs0 {ρ : Type} {F : Nat → Option ρ} {r : ρ} (H : ∀ k, F (k + 1) = some r) : Ev F r := ⟨1, fun k hk => by obtain ⟨m, rfl⟩ : ∃ m, k = m + 1 := ⟨k - 1, by omega⟩; exact H m⟩
theorem evu1 {ρ : Type} {F : Nat → Option ρ} {r : ρ} {α1 : Type} {g1 : Nat → Option α1} {a1 : α1} (h1 : Ev g1 a1) (H : ∀ k, g1 k = some a1 → F k = some r) : Ev F r := by
  obtain ⟨K1, e1⟩ := h1
  exact ⟨K1, fun k hk => H k (e1 _ (by omega))⟩
theorem evs1 {ρ : Type} {F : Nat → Option ρ} {r : ρ} {α1 : Type} {g1 : Nat → Option α1} {a1 : α1} (h1 : Ev g1 a1) (H : ∀ k, g1 k = some a1 → F (k + 1) = some r) : Ev F r := by
  obtain ⟨K1, e1⟩ := h1
  refine ⟨K1 + 1, fun k hk => ?_⟩
  obtain ⟨m, rfl⟩ : ∃ m, k = m + 1 := ⟨k - 1, by omega⟩
  exact H m (e1 _ (by omega))
theorem evu2 {ρ : Type} {F : Nat → Option ρ} {r : ρ} {α1 : Type} {g1 : Nat → Option α1} {a1 : α1} {α2 : Type} {g2 : Nat → Option α2} {a2 : α2} (h1 : Ev g1 a1) (h2 : Ev g2 a2) (H : ∀ k, g1 k = some a1 → g2 k = some a2 → F k = some r) : Ev F r := by
  obtain ⟨K1, e1⟩ := h1; obtain ⟨K2, e2⟩ := h2
  exact ⟨K1 + K2, fun k hk => H k (e1 _ (by omega)) (e2 _ (by omega))⟩
theorem evs2 {ρ : Type} {F : Nat → Option ρ} {r : ρ} {α1 : Type} {g1 : Nat → Option α1} {a1 : α1} {α2 : Type} {g2 : Nat → Option α2} {a2 : α2} (h1 : Ev g1 a1) (h2 : Ev g2 a2) (H : ∀ k, g1 k = some a1 → g2 k = some a2 → F (k + 1) = some r) : Ev F r := by
  obtain ⟨K1, e1⟩ := h1; obtain ⟨K2, e2⟩ := h2
  refine ⟨K1 + K2 + 1, fun k hk => ?_⟩
  obtain ⟨m, rfl⟩ : ∃ m, k = m + 1 := ⟨k - 1, by omega⟩
  exact H m (e1 _ (by omega)) (e2 _ (by omega))
theorem evs4 {ρ : Type} {F : Nat → Option ρ} {r : ρ} {α1 : Type} {g1 : Nat → Option α1} {a1 : α1} {α2 : Type} {g2 : Nat → Option α2} {a2 : α2} {α3 : Type} {g3 : Nat → Option α3} {a3 : α3} {α4 : Type} {g4 : Nat → Option α4} {a4 : α4} (h1 : Ev g1 a1) (h2 : Ev g2 a2) (h3 : Ev g3 a3) (h4 : Ev g4 a4) (H : ∀ k, g1 k = some a1 → g2 k = some a2 → g3 k = some a3 → g4 k = some a4 → F (k + 1) = some r) : Ev F r := by
  obtain ⟨K1, e1⟩ := h1; obtain ⟨K2, e2⟩ := h2; obtain ⟨K3, e3⟩ := h3; obtain ⟨K4, e4⟩ := h4
  refine ⟨K1 + K2 + K3 + K4 + 1, fun k hk => ?_⟩
  obtain ⟨m, rfl⟩ : ∃ m, k = m + 1 := ⟨k - 1, by omega⟩
  exact H m (e1 _ (by omega)) (e2 _ (by omega)) (e3 _ (by omega)) (e4 _ (by omega))
theorem evu5 {ρ : Type} {F : Nat → Option ρ} {r : ρ} {α1 : Type} {g1 : Nat → Option α1} {a1 : α1} {α2 : Type} {g2 : Nat → Option α2} {a2 : α2} {α3 : Type} {g3 : Nat → Option α3} {a3 : α3} {α4 : Type} {g4 : Nat → Option α4} {a4 : α4} {α5 : Type} {g5 : Nat → Option α5} {a5 : α5} (h1 : Ev g1 a1) (h2 : Ev g2 a2) (h3 : Ev g3 a3) (h4 : Ev g4 a4) (h5 : Ev g5 a5) (H : ∀ k, g1 k = some a1 → g2 k = some a2 → g3 k = some a3 → g4 k = some a4 → g5 k = some a5 → F k = some r) : Ev F r := by
  obtain ⟨K1, e1⟩ := h1; obtain ⟨K2, e2⟩ := h2; obtain ⟨K3, e3⟩ := h3; obtain ⟨K4, e4⟩ := h4; obtain ⟨K5, e5⟩ := h5
  exact ⟨K1 + K2 + K3 + K4 + K5, fun k hk => H k (e1 _ (by omega)) (e2 _ (by omega)) (e3 _ (by omega)) (e4 _ (by omega)) (e5 _ (by omega))⟩
theorem drop_at (l : List Int) (i : Nat) (h : i < l.length) : l.drop i = rd l (i : Int) :: l.drop (i + 1) := by
  rw [List.drop_eq_getElem_cons h, rd_nat l i _ (List.getElem?_eq_getElem h)]
theorem wrap_nat (i : Nat) (h : i < 9223372036854775807) : wrap64 ((i : Int) + 1) = ((i + 1 : Nat) : Int) := by rw [wrap_succ (by omega) (by omega)]; rfl
def inB (l : List Int) (v : Int) : Bool := l.any (fun x => x == v)
theorem In_loop (l : List Int) (hl : l.length ≤ 9223372036854775807) (v : Int) : ∀ d i : Nat, l.length = i + d → Ev (fun k => arboristref01_In.l0 k l v (i : Int)) (inB (l.drop i) v) := by
  intro d
  induction d with
  | zero =>
    intro i h
    refine Ev.step (f := fun _ => some (inB (l.drop i) v)) (fun k => ?_) (Ev.now _)
    simp only [arboristref01_In.l0]
    rw [if_neg (by omega), List.drop_eq_nil_of_le (by omega)]
    rfl
  | succ d ih =>
    intro i h
    have hi : i < l.length := by omega
    by_cases e : rd l (i : Int) = v
    · refine Ev.step (f := fun _ => some (inB (l.drop i) v)) (fun k => ?_) (Ev.now _)
      simp only [arboristref01_In.l0]
      rw [if_pos (by omega), if_pos (by omega), if_pos e, drop_at l i hi]
      simp [inB, e]
    · refine Ev.step (f := fun k => arboristref01_In.l0 k l v ((i + 1 : Nat) : Int)) (fun k => ?_) ?_
      · simp only [arboristref01_In.l0]
        rw [if_pos (by omega), if_pos (by omega), if_neg e, wrap_nat i (by omega)]
      · have := ih (i + 1) (by omega)
        rw [drop_at l i hi]
        have e2 : (rd l (i : Int) == v) = false := by simpa using e
        simpa [inB, e2] using this
theorem In_ev (l : List Int) (hl : l.length ≤ 9223372036854775807) (v : Int) : Ev (fun k => arboristref01_In.f k l v) (inB l v) := by
  have := In_loop l hl v l.length 0 (by omega)
  simpa [arboristref01_In.f] using this
end Go.Proofs.YtbdlelojlnhhfaaDoor.Pr
set_option linter.unusedVariables false
set_option linter.unusedSimpArgs false
namespace Go.Proofs.YtbdlelojlnhhfaaDoor.Pr
open Go.RowKit Go.Proofs.YtbdlelojlnhhfaaDoorW.PrintWords Go.Proofs.YtbdlelojlnhhfaaDoorW.PrintLast Go.Proofs.YtbdlelojlnhhfaaDoorW.PrintMore
def wd : Nat → (Nat → Bool) → Nat
  | 0, _ => 0
  | n + 1, f => 2 ^ n * (if f n = true then 1 else 0) + wd n f
theorem wd_lt : ∀ (n : Nat) (f : Nat → Bool), wd n f < 2 ^ n
  | 0, _ => by simp [wd]
  | n + 1, f => by
    have := wd_lt n f
    rw [wd, Nat.pow_succ]
    split <;> omega
theorem one_bit (j : Nat) : (1 : Nat).testBit (j + 1) = false := by rw [Nat.testBit_succ]; simp
theorem wd_bit : ∀ (n : Nat) (f : Nat → Bool) (i : Nat), (wd n f).testBit i = (decide (i < n) && f i)
  | 0, f, i => by simp [wd]
  | n + 1, f, i => by
    rw [wd, Nat.testBit_two_pow_mul_add _ (wd_lt n f), wd_bit n f i]
    by_cases h : i < n
    · rw [if_pos h, decide_eq_true h, decide_eq_true (show i < n + 1 by omega)]
    · rw [if_neg h]
      by_cases e : i = n
      · subst e
        rw [Nat.sub_self, decide_eq_true (show i < i + 1 by omega), Bool.true_and]
        by_cases hf : f i = true
        · rw [if_pos hf, hf]; decide
        · rw [if_neg hf, Bool.not_eq_true _ |>.mp hf]; decide
      · obtain ⟨j, rfl⟩ : ∃ j, i = n + (j + 1) := ⟨i - n - 1, by omega⟩
        rw [decide_eq_false (show ¬ n + (j + 1) < n + 1 by omega), Bool.false_and, show n + (j + 1) - n = j + 1 by omega]
        split
        · exact one_bit j
        · simp
theorem bits_ge {x n : Nat} (h : x < 2 ^ n) {i : Nat} (hi : n ≤ i) : x.testBit i = false := Nat.testBit_lt_two_pow (Nat.lt_of_lt_of_le h (Nat.pow_le_pow_right (by omega) hi))
theorem pow_64 : (2 : Nat) ^ 64 = 18446744073709551616 := by decide
theorem wd_64 {n : Nat} (h : n ≤ 64) (f : Nat → Bool) : wd n f < 18446744073709551616 := by
  rw [← pow_64]
  exact Nat.lt_of_lt_of_le (wd_lt n f) (Nat.pow_le_pow_right (by omega) h)
theorem shl_one (b : Nat) (h : b < 64) : shl .u64 1 (b : Int) = ((2 ^ b : Nat) : Int) := by
  unfold shl
  have hb : IntKind.bits .u64 = 64 := rfl
  have hp : 2 ^ b < 18446744073709551616 := by rw [← pow_64]; exact Nat.pow_lt_pow_right (by omega) h
  rw [Int.toNat_natCast, hb, Nat.min_eq_left (by omega), IntKind.wrap_u64, Int.one_mul]
  have e : ((2 : Int) ^ b) = ((2 ^ b : Nat) : Int) := by push_cast; rfl
  rw [e]
  obtain ⟨p, hp1⟩ : ∃ p : Nat, p = 2 ^ b := ⟨_, rfl⟩
  rw [← hp1] at hp ⊢
  omega
theorem pow_bit (b i : Nat) : (2 ^ b).testBit i = decide (b = i) := Nat.testBit_two_pow
theorem or_u64 (a b : Nat) (ha : a < 18446744073709551616) (hb : b < 18446744073709551616) : a ||| b < 18446744073709551616 ∧ Go.bits .or .u64 (a : Int) (b : Int) = ((a ||| b : Nat) : Int) := by
  refine ⟨?_, u64_or_nat a b ha hb⟩
  rw [← pow_64] at ha hb ⊢
  exact Nat.or_lt_two_pow ha hb
theorem pow_lt_64 (b : Nat) (h : b < 64) : 2 ^ b < 18446744073709551616 := by rw [← pow_64]; exact Nat.pow_lt_pow_right (by omega) h
theorem mem_listW (x : Nat) (v : Int) : v ∈ listN x ↔ ∃ i : Nat, i < 64 ∧ x.testBit i = true ∧ v = (i : Int) := by
  unfold listN
  simp only [List.mem_map, List.mem_filter, List.mem_range]
  constructor
  · rintro ⟨i, ⟨h1, h2⟩, rfl⟩
    exact ⟨i, h1, h2, rfl⟩
  · rintro ⟨i, h1, h2, rfl⟩
    exact ⟨i, ⟨h1, h2⟩, rfl⟩
def ofT (n : Nat) (f : Nat → Bool) : List Int := ((List.range n).filter f).map fun (i : Nat) => (i : Int)
theorem filter_range (f : Nat → Bool) (n : Nat) : ∀ d, (List.range (n + d)).filter (fun i => decide (i < n) && f i) = (List.range n).filter f
  | 0 => List.filter_congr (fun i hi => by rw [decide_eq_true (show i < n by have := List.mem_range.1 hi; omega), Bool.true_and])
  | d + 1 => by
    rw [show n + (d + 1) = (n + d) + 1 by omega, List.range_succ, List.filter_append, filter_range f n d, List.filter_cons_of_neg (by rw [decide_eq_false (by omega)]; simp), List.filter_nil, List.append_nil]
theorem listN_wd {n : Nat} (h : n ≤ 64) (f : Nat → Bool) : listN (wd n f) = ofT n f := by
  unfold listN ofT
  congr 1
  obtain ⟨d, hd⟩ : ∃ d, 64 = n + d := ⟨64 - n, by omega⟩
  rw [hd, ← filter_range f n d]
  exact List.filter_congr (fun i _ => wd_bit n f i)
theorem list_f (x : Nat) (h : x < 18446744073709551616) : graph_list.f (x : Int) = some (listN x) := by
  unfold graph_list.f
  rw [if_pos ⟨by omega, by omega⟩, Int.toNat_natCast]
def gI (ws : List Nat) : List Int := ws.map fun (x : Nat) => (x : Int)
def wAt (ws : List Nat) (i : Nat) : Nat := ws.getD i 0
def Wok (ws : List Nat) : Prop := ∀ x ∈ ws, x < 18446744073709551616
theorem gI_len (ws : List Nat) : (gI ws).length = ws.length := by simp [gI]
theorem gI_rd (ws : List Nat) (i : Nat) : rd (gI ws) (i : Int) = ((wAt ws i : Nat) : Int) := by
  unfold rd gI wAt
  rw [Int.toNat_natCast, List.getD_eq_getElem?_getD, List.getD_eq_getElem?_getD, List.getElem?_map]
  cases ws[i]? <;> rfl
theorem wAt_get (ws : List Nat) (i : Nat) (h : i < ws.length) : wAt ws i = ws[i] := by
  unfold wAt
  rw [List.getD_eq_getElem?_getD, List.getElem?_eq_getElem h]
  rfl
theorem wAt_lt {ws : List Nat} (h : Wok ws) (i : Nat) : wAt ws i < 18446744073709551616 := by
  by_cases c : i < ws.length
  · rw [wAt_get ws i c]; exact h _ (List.getElem_mem c)
  · unfold wAt
    rw [List.getD_eq_getElem?_getD, List.getElem?_eq_none (by omega)]
    decide
theorem gI_ext {a b : List Nat} (hl : a.length = b.length) (h : ∀ i, i < a.length → wAt a i = wAt b i) : a = b := List.ext_getElem hl (fun i h1 h2 => by
  have := h i h1
  rwa [wAt_get a i h1, wAt_get b i h2] at this)
def isP (n : Nat) (a : Int) : Bool := decide (0 ≤ a ∧ a < (n : Int))
theorem is_f (ws : List Nat) (a : Int) : graph_is.f (gI ws) a = some (isP ws.length a) := by
  unfold graph_is.f isP
  rw [gI_len]
  by_cases h : a ≥ 0
  · rw [if_pos h]
    congr 1
    simp [h]
  · rw [if_neg h, decide_eq_false (by omega)]
def nbL (ws : List Nat) (a : Int) : List Int := if isP ws.length a = true then listN (wAt ws a.toNat) else []
theorem neighbors_f (ws : List Nat) (hw : Wok ws) (a : Int) : graph_Neighbors.f (gI ws) a = some (nbL ws a) := by
  unfold graph_Neighbors.f nbL
  rw [is_f, Option.bind_some]
  by_cases ha : isP ws.length a = true
  · have h1 := of_decide_eq_true ha
    obtain ⟨i, rfl⟩ := Int.eq_ofNat_of_zero_le h1.1
    rw [if_pos ha, if_pos (by omega), if_pos (by rw [gI_len]; omega), gI_rd, list_f _ (wAt_lt hw i), Option.bind_some, if_pos ha, Int.toNat_natCast]
  · rw [if_neg ha, if_neg ha]
def joinW (ws : List Nat) (a b : Int) : List Nat := if isP ws.length a = true ∧ isP ws.length b = true ∧ a ≠ b then
  (ws.set a.toNat (wAt ws a.toNat ||| 2 ^ b.toNat)).set b.toNat (wAt (ws.set a.toNat (wAt ws a.toNat ||| 2 ^ b.toNat)) b.toNat ||| 2 ^ a.toNat) else ws
theorem wok_set {ws : List Nat} (hw : Wok ws) (i v : Nat) (hv : v < 18446744073709551616) : Wok (ws.set i v) := fun x hx => by
  rcases List.mem_or_eq_of_mem_set hx with h | h
  · exact hw x h
  · rw [h]; exact hv
theorem gI_set (ws : List Nat) (i v : Nat) : (gI ws).set i (v : Int) = gI (ws.set i v) := by unfold gI; rw [List.map_set]
theorem or_pow {x b : Nat} (hx : x < 18446744073709551616) (hb : b < 64) : x ||| 2 ^ b < 18446744073709551616 ∧ Go.bits .or .u64 (x : Int) (shl .u64 1 (b : Int)) = ((x ||| 2 ^ b : Nat) : Int) := by
  rw [shl_one b hb]
  exact or_u64 x (2 ^ b) hx (pow_lt_64 b hb)
theorem join_f (ws : List Nat) (hw : Wok ws) (hn : ws.length ≤ 64) (a b : Int) : graph_Join.f (gI ws) a b = some (gI (joinW ws a b)) ∧ Wok (joinW ws a b) := by
  unfold graph_Join.f joinW
  have hc : slices_Clone_uint64_uint64.f (gI ws) = some (gI ws) := by unfold slices_Clone_uint64_uint64.f; rw [if_pos (by rw [gI_len]; omega)]
  rw [hc, Option.bind_some, is_f, Option.bind_some, is_f]
  by_cases ha : isP ws.length a = true
  · by_cases hb : isP ws.length b = true
    · by_cases e : a = b
      · rw [if_pos ha, Option.bind_some, if_pos hb, if_pos e, if_neg (by simp [e])]
        exact ⟨rfl, hw⟩
      · have h1 := of_decide_eq_true ha
        have h2 := of_decide_eq_true hb
        obtain ⟨i, rfl⟩ := Int.eq_ofNat_of_zero_le h1.1
        obtain ⟨k, rfl⟩ := Int.eq_ofNat_of_zero_le h2.1
        obtain ⟨o1, o2⟩ := or_pow (wAt_lt hw i) (show k < 64 by omega)
        have hw2 := wok_set hw i _ o1
        obtain ⟨o3, o4⟩ := or_pow (wAt_lt hw2 k) (show i < 64 by omega)
        rw [if_pos ha, Option.bind_some, if_pos hb, if_neg e, if_pos (by omega), if_pos (by rw [gI_len]; omega), if_pos (by omega), if_pos ⟨ha, hb, e⟩]
        simp only [Option.bind_some, Int.toNat_natCast]
        rw [if_pos (by rw [gI_len]; omega), gI_rd, o2, gI_set, gI_rd, o4, gI_set]
        exact ⟨rfl, wok_set hw2 k _ o3⟩
    · rw [if_pos ha, Option.bind_some, if_neg hb, if_neg (by simp [hb])]
      exact ⟨rfl, hw⟩
  · rw [if_neg ha, if_neg (by simp [ha])]
    exact ⟨rfl, hw⟩
theorem joinW_len (ws : List Nat) (a b : Int) : (joinW ws a b).length = ws.length := by
  unfold joinW
  split <;> simp
theorem wAt_set (ws : List Nat) (i v k : Nat) (h : i < ws.length) : wAt (ws.set i v) k = if k = i then v else wAt ws k := by
  unfold wAt
  rw [List.getD_eq_getElem?_getD, List.getD_eq_getElem?_getD, List.getElem?_set]
  by_cases e : i = k
  · rw [if_pos e, if_pos h, if_pos e.symm]; rfl
  · rw [if_neg e, if_neg (fun h => e h.symm)]
theorem join_bit (ws : List Nat) (a b : Int) (i k : Nat) : (wAt (joinW ws a b) i).testBit k = ((wAt ws i).testBit k || (isP ws.length a && isP ws.length b && decide (a ≠ b) && (decide ((i : Int) = a ∧ (k : Int) = b) || decide ((i : Int) = b ∧ (k : Int) = a)))) := by
  unfold joinW
  by_cases c : isP ws.length a = true ∧ isP ws.length b = true ∧ a ≠ b
  · rw [if_pos c]
    obtain ⟨ha, hb, e⟩ := c
    have h1 := of_decide_eq_true ha
    have h2 := of_decide_eq_true hb
    obtain ⟨p, rfl⟩ := Int.eq_ofNat_of_zero_le h1.1
    obtain ⟨q, rfl⟩ := Int.eq_ofNat_of_zero_le h2.1
    have e2 : p ≠ q := fun h => e (by rw [h])
    rw [ha, hb, Bool.and_self, Bool.true_and, decide_eq_true e, Bool.true_and]
    simp only [Int.toNat_natCast]
    rw [wAt_set _ q _ i (by rw [List.length_set]; omega), wAt_set ws p _ q (by omega), wAt_set ws p _ i (by omega), if_neg (show ¬ q = p from fun h => e2 h.symm)]
    by_cases c1 : i = q
    · subst c1
      rw [if_pos rfl, Nat.testBit_or, pow_bit]
      have : ¬ i = p := fun h => e2 h.symm
      congr 1
      rw [Bool.eq_iff_iff, Bool.or_eq_true, decide_eq_true_iff, decide_eq_true_iff, decide_eq_true_iff]
      exact ⟨fun h => .inr ⟨rfl, by omega⟩, fun h => by rcases h with ⟨h1, h2⟩ | ⟨h1, h2⟩ <;> omega⟩
    · rw [if_neg c1]
      by_cases c2 : i = p
      · subst c2
        rw [if_pos rfl, Nat.testBit_or, pow_bit]
        congr 1
        rw [Bool.eq_iff_iff, Bool.or_eq_true, decide_eq_true_iff, decide_eq_true_iff, decide_eq_true_iff]
        exact ⟨fun h => .inl ⟨rfl, by omega⟩, fun h => by rcases h with ⟨h1, h2⟩ | ⟨h1, h2⟩ <;> omega⟩
      · rw [if_neg c2]
        have : (decide ((i : Int) = (p : Int) ∧ (k : Int) = (q : Int)) || decide ((i : Int) = (q : Int) ∧ (k : Int) = (p : Int))) = false := by
          rw [decide_eq_false (by omega), decide_eq_false (by omega)]; rfl
        rw [this, Bool.or_false]
  · rw [if_neg c]
    have : (isP ws.length a && isP ws.length b && decide (a ≠ b) && (decide ((i : Int) = a ∧ (k : Int) = b) || decide ((i : Int) = b ∧ (k : Int) = a))) = false := by
      rw [Bool.eq_false_iff]
      intro h
      simp only [Bool.and_eq_true, decide_eq_true_eq] at h
      exact c ⟨h.1.1.1, h.1.1.2, h.1.2⟩
    rw [this, Bool.or_false]
def rowR (ws : List Nat) (i : Nat) : Bool := decide (wAt ws i < 2 ^ ws.length) && (listN (wAt ws i)).all fun k => !(k == (i : Int)) && (wAt ws k.toNat).testBit i
def rightB (ws : List Nat) : Bool := decide (ws.length ≤ 40) && (List.range ws.length).all (rowR ws)
theorem rdn (l : List Int) (j : Nat) (h : j < l.length) : rd l (j : Int) = l[j] := rd_nat l j _ (List.getElem?_eq_getElem h)
theorem listN_in {x n : Nat} (h : x < 2 ^ n) (v : Int) (hv : v ∈ listN x) : 0 ≤ v ∧ v < (n : Int) := by
  obtain ⟨i, h1, h2, rfl⟩ := (mem_listW x v).1 hv
  refine ⟨by omega, ?_⟩
  by_cases c : i < n
  · omega
  · rw [bits_ge h (by omega)] at h2
    cases h2
theorem rightB_iff (ws : List Nat) : rightB ws = true ↔ ws.length ≤ 40 ∧ ∀ i, i < ws.length → wAt ws i < 2 ^ ws.length ∧ ∀ k, k < ws.length → (wAt ws i).testBit k = true → k ≠ i ∧ (wAt ws k).testBit i = true := by
  unfold rightB rowR
  simp only [Bool.and_eq_true, decide_eq_true_eq, List.all_eq_true, List.mem_range]
  constructor
  · rintro ⟨h1, h2⟩
    refine ⟨h1, fun i hi => ⟨(h2 i hi).1, fun k hk hb => ?_⟩⟩
    have := (h2 i hi).2 (k : Int) ((mem_listW _ _).2 ⟨k, by omega, hb, rfl⟩)
    simp only [Bool.not_eq_true', beq_eq_false_iff_ne, Int.toNat_natCast] at this
    exact ⟨fun e => this.1 (by rw [e]), this.2⟩
  · rintro ⟨h1, h2⟩
    refine ⟨h1, fun i hi => ⟨(h2 i hi).1, fun v hv => ?_⟩⟩
    obtain ⟨k, k1, k2, rfl⟩ := (mem_listW _ _).1 hv
    have hk := listN_in (h2 i hi).1 _ hv
    obtain ⟨g1, g2⟩ := (h2 i hi).2 k (by omega) k2
    simp only [Bool.not_eq_true', beq_eq_false_iff_ne, Int.toNat_natCast]
    exact ⟨fun e => g1 (by omega), g2⟩
def rowT (n : Nat) (f : Nat → Bool) : List Bool := (List.range n).map f
def mat (n : Nat) (f : Nat → Nat → Bool) : List (List Bool) := (List.range n).map fun i => rowT n (f i)
theorem rowT_len (n : Nat) (f : Nat → Bool) : (rowT n f).length = n := by simp [rowT]
theorem mat_len (n : Nat) (f : Nat → Nat → Bool) : (mat n f).length = n := by simp [mat]
theorem rowT_rd (n : Nat) (f : Nat → Bool) (k : Nat) (h : k < n) : rdOf false (rowT n f) (k : Int) = f k := by
  unfold rdOf rowT
  rw [Int.toNat_natCast, List.getD_eq_getElem?_getD, List.getElem?_map, List.getElem?_range h]
  rfl
theorem mat_rd (n : Nat) (f : Nat → Nat → Bool) (i : Nat) (h : i < n) : rd_L8 (mat n f) (i : Int) = rowT n (f i) := by
  unfold rd_L8 mat
  rw [Int.toNat_natCast, List.getD_eq_getElem?_getD, List.getElem?_map, List.getElem?_range h]
  rfl
theorem rowT_set (n : Nat) (f : Nat → Bool) (k : Nat) (b : Bool) : (rowT n f).set k b = rowT n fun j => if j = k then b else f j := by
  unfold rowT
  apply List.ext_getElem
  · simp
  · intro j h1 h2
    rw [List.getElem_set]
    simp only [List.getElem_map, List.getElem_range]
    by_cases e : k = j
    · rw [if_pos e, if_pos e.symm]
    · rw [if_neg e, if_neg (fun h => e h.symm)]
theorem mat_set (n : Nat) (f : Nat → Nat → Bool) (i : Nat) (g : Nat → Bool) : (mat n f).set i (rowT n g) = mat n fun j => if j = i then g else f j := by
  unfold mat
  apply List.ext_getElem
  · simp
  · intro j h1 h2
    rw [List.getElem_set]
    simp only [List.getElem_map, List.getElem_range]
    by_cases e : i = j
    · rw [if_pos e, if_pos e.symm]
    · rw [if_neg e, if_neg (fun h => e h.symm)]
theorem rowT_congr {n : Nat} {f g : Nat → Bool} (h : ∀ k, k < n → f k = g k) : rowT n f = rowT n g := List.map_congr_left (fun k hk => h k (List.mem_range.1 hk))
theorem mat_congr {n : Nat} {f g : Nat → Nat → Bool} (h : ∀ i k, i < n → k < n → f i k = g i k) : mat n f = mat n g := List.map_congr_left (fun i hi => rowT_congr (fun k hk => h i k (List.mem_range.1 hi) hk))
theorem rep_row (n : Nat) : List.replicate n false = rowT n fun _ => false := by
  unfold rowT
  apply List.ext_getElem
  · simp
  · intro j h1 h2; simp
def gW (n : Nat) (f : Nat → Nat → Bool) : List Nat := (List.range n).map fun i => wd n (f i)
theorem gW_len (n : Nat) (f : Nat → Nat → Bool) : (gW n f).length = n := by simp [gW]
theorem gW_at (n : Nat) (f : Nat → Nat → Bool) (i : Nat) (h : i < n) : wAt (gW n f) i = wd n (f i) := by
  unfold wAt gW
  rw [List.getD_eq_getElem?_getD, List.getElem?_map, List.getElem?_range h]
  rfl
theorem gW_ok {n : Nat} (h : n ≤ 64) (f : Nat → Nat → Bool) : Wok (gW n f) := fun x hx => by
  obtain ⟨i, _, rfl⟩ := List.mem_map.1 hx
  exact wd_64 h _
theorem gW_bit (n : Nat) (f : Nat → Nat → Bool) (i k : Nat) : (wAt (gW n f) i).testBit k = (decide (i < n) && (decide (k < n) && f i k)) := by
  by_cases h : i < n
  · rw [gW_at n f i h, wd_bit, decide_eq_true h, Bool.true_and]
  · rw [decide_eq_false h, Bool.false_and]
    unfold wAt
    rw [List.getD_eq_getElem?_getD, List.getElem?_eq_none (by rw [gW_len]; omega)]
    simp
theorem gW_congr {n : Nat} {f g : Nat → Nat → Bool} (h : ∀ i k, i < n → k < n → f i k = g i k) : gW n f = gW n g := gI_ext (by rw [gW_len, gW_len]) (fun i hi => Nat.eq_of_testBit_eq (fun k => by
  rw [gW_len] at hi
  rw [gW_bit, gW_bit, decide_eq_true hi]
  simp only [Bool.true_and]
  by_cases c : k < n
  · rw [h i k hi c]
  · rw [decide_eq_false c]; rfl))
theorem gW_right (n : Nat) (hn : n ≤ 40) (f : Nat → Nat → Bool) (h : ∀ i k, i < n → k < n → f i k = true → k ≠ i ∧ f k i = true) : rightB (gW n f) = true := by
  rw [rightB_iff, gW_len]
  refine ⟨hn, fun i hi => ⟨by rw [gW_at n f i hi]; exact wd_lt _ _, fun k hk hb => ?_⟩⟩
  rw [gW_bit, decide_eq_true hi, decide_eq_true hk] at hb
  obtain ⟨h1, h2⟩ := h i k hi hk (by simpa using hb)
  refine ⟨h1, ?_⟩
  rw [gW_bit, decide_eq_true hi, decide_eq_true hk, h2]
  rfl
theorem graph_l1 (n : Nat) (hn : n ≤ 64) (f : Nat → Nat → Bool) (i : Nat) (hi : i < n) (o : List Int) (ho : o.length < 17592186044416) (R : List Int) (H : Ev (fun k => arboristref08_Graph.l0 k (mat n f) ((i + 1 : Nat) : Int) (o ++ [((wd n (f i) : Nat) : Int)])) R) :
    ∀ (d j : Nat), j + d = n → Ev (fun k => arboristref08_Graph.l1 k (mat n f) (i : Int) ((wd j (f i) : Nat) : Int) (j : Int) o) R
  | 0, j, h => by
    obtain rfl : j = n := by omega
    refine evs1 H (fun k e => ?_)
    rw [arboristref08_Graph.l1, mat_len, if_neg (by omega), if_pos ho, wrap_nat i (by omega)]
    exact e
  | d + 1, j, h => by
    refine evs1 (graph_l1 n hn f i hi o ho R H d (j + 1) (by omega)) (fun k e => ?_)
    have hw : IntKind.u64.wrap (j : Int) = (j : Int) := by rw [IntKind.wrap_u64]; omega
    rw [arboristref08_Graph.l1, mat_len, if_pos (by omega), if_pos (by omega), if_pos (by omega), if_pos (by omega), mat_rd n f i hi, rowT_len, if_pos (by omega), rowT_rd n (f i) j (by omega), hw, wrap_nat j (by omega)]
    rw [wd] at e
    by_cases c : f i j = true
    · rw [if_pos c] at e ⊢
      have h1 := wd_lt j (f i)
      have h2 := pow_lt_64 j (by omega)
      have h3 : IntKind.u64.wrap (((wd j (f i) : Nat) : Int) + ((2 ^ j : Nat) : Int)) = ((2 ^ j * 1 + wd j (f i) : Nat) : Int) := by
        have h4 : 2 ^ j * 1 + wd j (f i) < 18446744073709551616 := by
          have := wd_64 (show j + 1 ≤ 64 by omega) (f i)
          rw [wd, if_pos c] at this
          exact this
        obtain ⟨p, hp⟩ : ∃ p : Nat, p = 2 ^ j := ⟨_, rfl⟩
        rw [← hp] at h4 ⊢
        rw [IntKind.wrap_u64]
        omega
      rw [if_pos (by omega), shl_one j (by omega), h3]
      exact e
    · rw [if_neg c] at e ⊢
      rw [Nat.mul_zero, Nat.zero_add] at e
      exact e
theorem graph_l0 (n : Nat) (hn : n ≤ 64) (f : Nat → Nat → Bool) : ∀ (d i : Nat), i + d = n → Ev (fun k => arboristref08_Graph.l0 k (mat n f) (i : Int) (gI ((List.range i).map fun j => wd n (f j)))) (gI (gW n f))
  | 0, i, h => by
    obtain rfl : i = n := by omega
    exact evs0 (fun k => by rw [arboristref08_Graph.l0, mat_len, if_neg (by omega)]; rfl)
  | d + 1, i, h => by
    have hr := graph_l0 n hn f d (i + 1) (by omega)
    rw [List.range_succ, List.map_append] at hr
    have e0 : gI ((List.range i).map (fun j => wd n (f j)) ++ [i].map (fun j => wd n (f j))) = gI ((List.range i).map fun j => wd n (f j)) ++ [((wd n (f i) : Nat) : Int)] := by simp [gI]
    rw [e0] at hr
    have hl : (gI ((List.range i).map fun j => wd n (f j))).length < 17592186044416 := by rw [gI_len]; simp; omega
    refine evs1 (graph_l1 n hn f i (by omega) _ hl _ hr n 0 (by omega)) (fun k e => ?_)
    rw [arboristref08_Graph.l0, mat_len, if_pos (by omega)]
    exact e
theorem graph_ev (n : Nat) (hn : n ≤ 64) (f : Nat → Nat → Bool) : Ev (fun k => arboristref08_Graph.f k (mat n f)) (gI (gW n f)) := graph_l0 n hn f n 0 (by omega)
theorem empty_l0 (n : Nat) (hn : n ≤ 1000) : ∀ (d i : Nat), i + d = n → Ev (fun k => arboristref08_Empty.l0 k (n : Int) (List.replicate i (rowT n fun _ => false)) (i : Int)) (mat n fun _ _ => false)
  | 0, i, h => by
    obtain rfl : i = n := by omega
    refine evs0 (fun k => ?_)
    rw [arboristref08_Empty.l0, if_neg (by omega)]
    congr 1
    unfold mat
    apply List.ext_getElem
    · simp
    · intro j h1 h2; simp
  | d + 1, i, h => by
    have hr := empty_l0 n hn d (i + 1) (by omega)
    rw [List.replicate_succ'] at hr
    refine evs1 hr (fun k e => ?_)
    rw [arboristref08_Empty.l0, if_pos (by omega), if_pos (by omega), if_pos (by omega), if_pos (by simp; omega), Int.toNat_natCast, rep_row, wrap_nat i (by omega)]
    exact e
theorem empty_ev (n : Nat) (hn : n ≤ 1000) : Ev (fun k => arboristref08_Empty.f k (n : Int)) (mat n fun _ _ => false) := empty_l0 n hn n 0 (by omega)
theorem ofT_from (n : Nat) (f : Nat → Bool) (j : Nat) (h : j < n) : ((List.range' j (n - j)).filter f) = if f j = true then j :: (List.range' (j + 1) (n - (j + 1))).filter f else (List.range' (j + 1) (n - (j + 1))).filter f := by
  rw [show n - j = (n - (j + 1)) + 1 by omega, List.range'_succ, List.filter_cons]
theorem evp {ρ : Type} {F g : Nat → Option ρ} {r : ρ} (h : Ev g r) (H : ∀ k, g k = some r → F (k + 1) = some r) : Ev F r := evs1 h H
theorem neigh_l0 (n : Nat) (hn : n ≤ 1000) (f : Nat → Nat → Bool) (a : Nat) (ha : a < n) : ∀ (d j : Nat) (o : List Int), j + d = n → o.length ≤ j → Ev (fun k => arboristref08_Neighbors.l0 k (mat n f) (a : Int) o (j : Int)) (o ++ ((List.range' j (n - j)).filter (f a)).map fun (i : Nat) => (i : Int))
  | 0, j, o, h, ho => by
    rw [show n - j = 0 by omega]
    refine evs1 (evs0 (F := fun k => arboristref08_Neighbors.j1 k (mat n f) (a : Int) o (j : Int) false) (r := o ++ ((List.range' j 0).filter (f a)).map fun (i : Nat) => (i : Int)) (fun k => ?_)) (fun k e => ?_)
    · rw [arboristref08_Neighbors.j1, if_neg (by decide)]; simp
    · rw [arboristref08_Neighbors.l0, mat_len, if_neg (by omega)]; exact e
  | d + 1, j, o, h, ho => by
    rw [ofT_from n (f a) j (by omega)]
    by_cases c : f a j = true
    · rw [if_pos c]
      have hr := neigh_l0 n hn f a ha d (j + 1) (o ++ [(j : Int)]) (by omega) (by simp; omega)
      rw [List.append_assoc] at hr
      refine evp (g := fun k => arboristref08_Neighbors.j1 k (mat n f) (a : Int) o (j : Int) true) (evp hr (fun k e => ?_)) (fun k e => ?_)
      · rw [arboristref08_Neighbors.j1, if_pos rfl, if_pos (by omega), mat_len, if_pos (by omega), if_pos (by omega), mat_rd n f a ha, rowT_len, if_pos (by omega), rowT_rd n (f a) j (by omega), if_pos c, if_pos (by omega), wrap_nat j (by omega)]
        exact e
      · rw [arboristref08_Neighbors.l0, mat_len, if_pos (by omega), if_pos (by omega), decide_eq_true (by omega)]; exact e
    · rw [if_neg c]
      have hr := neigh_l0 n hn f a ha d (j + 1) o (by omega) (by omega)
      refine evp (g := fun k => arboristref08_Neighbors.j1 k (mat n f) (a : Int) o (j : Int) true) (evp hr (fun k e => ?_)) (fun k e => ?_)
      · rw [arboristref08_Neighbors.j1, if_pos rfl, if_pos (by omega), mat_len, if_pos (by omega), if_pos (by omega), mat_rd n f a ha, rowT_len, if_pos (by omega), rowT_rd n (f a) j (by omega), if_neg c, wrap_nat j (by omega)]
        exact e
      · rw [arboristref08_Neighbors.l0, mat_len, if_pos (by omega), if_pos (by omega), decide_eq_true (by omega)]; exact e
theorem neigh_ev (n : Nat) (hn : n ≤ 1000) (f : Nat → Nat → Bool) (a : Int) : Ev (fun k => arboristref08_Neighbors.f k (mat n f) a) (if isP n a = true then ofT n (f a.toNat) else []) := by
  by_cases c : isP n a = true
  · have h := of_decide_eq_true c
    obtain ⟨i, rfl⟩ := Int.eq_ofNat_of_zero_le h.1
    have hr := neigh_l0 n hn f i (by omega) n 0 [] (by omega) (by simp)
    rw [if_pos c]
    rw [List.nil_append, Nat.sub_zero, ← List.range_eq_range'] at hr
    exact hr
  · rw [if_neg c]
    have h : ¬ (0 ≤ a ∧ a < (n : Int)) := of_decide_eq_false (Bool.not_eq_true _ |>.mp c)
    have hj : Ev (fun k => arboristref08_Neighbors.j1 k (mat n f) a [] 0 false) [] := evs0 (fun k => by rw [arboristref08_Neighbors.j1, if_neg (by decide)])
    refine evs1 hj (fun k e => ?_)
    rw [arboristref08_Neighbors.f, arboristref08_Neighbors.l0, mat_len]
    by_cases c1 : (0 : Int) < (n : Int)
    · rw [if_pos c1]
      by_cases c2 : a ≥ 0
      · rw [if_pos c2, decide_eq_false (by omega)]; exact e
      · rw [if_neg c2]; exact e
    · rw [if_neg c1]; exact e
section
variable (ws : List Nat)
end
theorem low16 (x : Int) : 0 ≤ Go.bits .and .i64 x 65535 ∧ Go.bits .and .i64 x 65535 ≤ 65535 := by
  have h2 : (BitVec.ofInt 64 (65535 : Int)).toNat = 65535 := by decide
  have h3 : (BitVec.ofInt 64 x &&& BitVec.ofInt 64 (65535 : Int)).toNat ≤ 65535 := by
    rw [BitVec.toNat_and, h2]; exact Nat.and_le_right
  have e : Go.bits .and .i64 x 65535 = IntKind.i64.wrap ((BitVec.ofInt 64 x &&& BitVec.ofInt 64 (65535 : Int)).toNat : Int) := rfl
  rw [e, IntKind.wrap_i64]
  omega
theorem kT_in {n : Nat} (h : 0 < n) (x : Int) : ∃ k : Nat, k < n ∧ Int.tmod (Go.bits .and .i64 x 65535) (n : Int) = (k : Int) := by
  obtain ⟨h1, h2⟩ := low16 x
  have a := Int.tmod_nonneg (n : Int) h1
  have b := Int.tmod_lt_of_pos (Go.bits .and .i64 x 65535) (show (0 : Int) < (n : Int) by omega)
  exact ⟨(Int.tmod (Go.bits .and .i64 x 65535) (n : Int)).toNat, by omega, by omega⟩
def Sy (n : Nat) (f : Nat → Nat → Bool) : Prop := (∀ i k, f i k = f k i) ∧ (∀ i, f i i = false) ∧ ∀ i k, f i k = true → i < n ∧ k < n
def addE (f : Nat → Nat → Bool) (a b : Nat) : Nat → Nat → Bool := fun i k => f i k || (decide (i = a ∧ k = b) || decide (i = b ∧ k = a))
theorem Sy.no (n : Nat) : Sy n fun _ _ => false := ⟨fun _ _ => rfl, fun _ => rfl, fun _ _ h => by cases h⟩
theorem Sy.add {n : Nat} {f : Nat → Nat → Bool} (h : Sy n f) {a b : Nat} (ha : a < n) (hb : b < n) (e : a ≠ b) : Sy n (addE f a b) := by
  obtain ⟨h1, h2, h3⟩ := h
  refine ⟨fun i k => ?_, fun i => ?_, fun i k => ?_⟩
  · unfold addE
    rw [h1 i k]
    congr 1
    rw [Bool.eq_iff_iff]
    simp only [Bool.or_eq_true, decide_eq_true_eq]
    omega
  · unfold addE
    rw [h2 i, decide_eq_false (by omega), decide_eq_false (by omega)]
    rfl
  · unfold addE
    rw [Bool.or_eq_true, Bool.or_eq_true, decide_eq_true_iff, decide_eq_true_iff]
    rintro (h | h | h)
    · exact h3 i k h
    · omega
    · omega
theorem Sy.right {n : Nat} {f : Nat → Nat → Bool} (h : Sy n f) (hn : n ≤ 40) : rightB (gW n f) = true := gW_right n hn f (fun i k _ _ hb => ⟨fun e => (by rw [e, h.2.1] at hb; cases hb), (by rw [h.1]; exact hb)⟩)
theorem mat_edge (n : Nat) (f : Nat → Nat → Bool) (a b : Nat) (ha : a < n) (hb : b < n) (y : List (List Bool)) (hy : y = (mat n f).set a ((rd_L8 (mat n f) (a : Int)).set b true)) :
    y.length = n ∧ (rd_L8 y (b : Int)).length = n ∧ y.set b ((rd_L8 y (b : Int)).set a true) = mat n (addE f a b) := by
  rw [mat_rd n f a ha, rowT_set, mat_set] at hy
  subst hy
  rw [mat_len, mat_rd n _ b hb, rowT_len, rowT_set, mat_set]
  refine ⟨rfl, rfl, mat_congr (fun i k hi hk => ?_)⟩
  unfold addE
  by_cases c1 : i = b
  · subst c1
    rw [if_pos rfl]
    by_cases c2 : k = a
    · subst c2
      rw [if_pos rfl, decide_eq_true (show i = i ∧ k = k from ⟨rfl, rfl⟩)]
      simp
    · rw [if_neg c2, decide_eq_false (show ¬ (i = i ∧ k = a) by omega), Bool.or_false]
      by_cases c3 : i = a
      · subst c3
        rw [if_pos rfl]
        by_cases c4 : k = i
        · exact absurd c4 c2
        · rw [if_neg c4, decide_eq_false (by omega), Bool.or_false]
      · rw [if_neg c3, decide_eq_false (by omega), Bool.or_false]
  · rw [if_neg c1, decide_eq_false (show ¬ (i = b ∧ k = a) by omega), Bool.or_false]
    by_cases c3 : i = a
    · subst c3
      rw [if_pos rfl]
      by_cases c4 : k = b
      · rw [if_pos c4, decide_eq_true (by omega)]; simp
      · rw [if_neg c4, decide_eq_false (by omega), Bool.or_false]
    · rw [if_neg c3, decide_eq_false (by omega), Bool.or_false]
theorem joinW_gW {n : Nat} (f : Nat → Nat → Bool) {a b : Nat} (ha : a < n) (hb : b < n) (e : a ≠ b) : joinW (gW n f) (a : Int) (b : Int) = gW n (addE f a b) := by
  refine gI_ext (by rw [joinW_len, gW_len, gW_len]) (fun i hi => Nat.eq_of_testBit_eq (fun k => ?_))
  rw [joinW_len, gW_len] at hi
  have pa : isP n (a : Int) = true := decide_eq_true (by omega)
  have pb : isP n (b : Int) = true := decide_eq_true (by omega)
  rw [join_bit, gW_bit, gW_bit, gW_len, pa, pb, decide_eq_true hi]
  simp only [Bool.true_and, Bool.and_self]
  rw [decide_eq_true (show (a : Int) ≠ (b : Int) by omega), Bool.true_and]
  unfold addE
  by_cases c : k < n
  · rw [decide_eq_true c, Bool.true_and, Bool.true_and]
    congr 1
    rw [Bool.eq_iff_iff]
    simp only [Bool.or_eq_true, decide_eq_true_eq]
    omega
  · rw [decide_eq_false c, Bool.false_and, Bool.false_and, Bool.false_or, decide_eq_false (by omega), decide_eq_false (by omega)]
    rfl
def cliqB (n : Nat) (f : Nat → Nat → Bool) (l : List Int) : Bool := l.all (isP n) && l.all fun x => l.all fun y => x == y || f x.toNat y.toNat
theorem shown_9 : arboristlaw11_shown.f = some true := by decide +kernel
theorem made9_j (n : Nat) (l : List (List Int)) (f : Nat → Nat → Bool) (i : Nat) : Ev (fun k => arboristlaw11_made.j1 k (n : Int) l (mat n f) (i : Int) false) (mat n f) := evs0 (fun k => by rw [arboristlaw11_made.j1, if_neg (by decide)])
theorem made9_l0 (n : Nat) (hn : n ≤ 12) (l : List (List Int)) : ∀ (d i : Nat) (f : Nat → Nat → Bool), 40 = i + d → Sy n f → ∃ f', Sy n f' ∧ Ev (fun k => arboristlaw11_made.l0 k (n : Int) l (mat n f) (i : Int)) (mat n f')
  | 0, i, f, h, hf => by
    refine ⟨f, hf, evp (made9_j n l f i) (fun k e => ?_)⟩
    rw [arboristlaw11_made.l0]
    by_cases c : (i : Int) < (l.length : Int)
    · rw [if_pos c, if_neg (by omega)]; exact e
    · rw [if_neg c]; exact e
  | d + 1, i, f, h, hf => by
    by_cases c : i < l.length
    · by_cases c0 : n = 0
      · refine ⟨f, hf, evp (made9_j n l f i) (fun k e => ?_)⟩
        rw [arboristlaw11_made.l0, if_pos (by omega), if_pos (by omega), decide_eq_false (by omega)]
        exact e
      · -- an edge
        have hgo : ∀ {G : Nat → Option (List (List Bool))} {f' : Nat → Nat → Bool}, Ev G (mat n f') → (∀ k, arboristlaw11_made.j1 (k + 1) (n : Int) l (mat n f) (i : Int) true = G k) → Ev (fun k => arboristlaw11_made.l0 k (n : Int) l (mat n f) (i : Int)) (mat n f') := fun hG hj =>
          evp (g := fun k => arboristlaw11_made.j1 k (n : Int) l (mat n f) (i : Int) true) (evp hG (fun k e => by rw [hj]; exact e)) (fun k e => by
            rw [arboristlaw11_made.l0, if_pos (by omega), if_pos (by omega), decide_eq_true (by omega)]
            exact e)
        obtain ⟨e, he⟩ : ∃ e, e = rd_L1 l (i : Int) := ⟨_, rfl⟩
        obtain ⟨p, hp, hp2⟩ := kT_in (show 0 < n by omega) (rd e 0)
        obtain ⟨q, hq, hq2⟩ := kT_in (show 0 < n by omega) (rd e 1)
        by_cases c1 : e.length < 2
        · obtain ⟨f', s, hr⟩ := made9_l0 n hn l d (i + 1) f (by omega) hf
          refine ⟨f', s, hgo hr (fun k => ?_)⟩
          rw [arboristlaw11_made.j1, if_pos rfl, if_pos (by omega), if_pos (by omega), ← he, if_pos (by omega), wrap_nat i (by omega)]
        · by_cases c2 : p = q
          · obtain ⟨f', s, hr⟩ := made9_l0 n hn l d (i + 1) f (by omega) hf
            refine ⟨f', s, hgo hr (fun k => ?_)⟩
            rw [arboristlaw11_made.j1, if_pos rfl, if_pos (by omega), if_pos (by omega), ← he, if_neg (by omega), if_pos (by omega), if_neg (by omega), if_pos (by omega), hp2, hq2, if_pos (by omega), wrap_nat i (by omega)]
          · obtain ⟨f', s, hr⟩ := made9_l0 n hn l d (i + 1) (addE f p q) (by omega) (hf.add hp hq c2)
            obtain ⟨y, hy⟩ : ∃ y, y = (mat n f).set p ((rd_L8 (mat n f) (p : Int)).set q true) := ⟨_, rfl⟩
            obtain ⟨y1, y2, y3⟩ := mat_edge n f p q hp hq y hy
            refine ⟨f', s, hgo hr (fun k => ?_)⟩
            rw [arboristlaw11_made.j1, if_pos rfl, if_pos (by omega), if_pos (by omega), ← he, if_neg (by omega), if_pos (by omega), if_neg (by omega), if_pos (by omega), hp2, hq2, if_neg (by omega), if_pos (by omega), mat_len, if_pos (by omega), if_pos (by omega), if_pos (by rw [mat_rd n f p hp, rowT_len]; omega)]
            simp only [Option.bind_some, Int.toNat_natCast]
            rw [← hy, if_pos (by omega), if_pos (by omega), y3, wrap_nat i (by omega)]
    · refine ⟨f, hf, evp (made9_j n l f i) (fun k e => ?_)⟩
      rw [arboristlaw11_made.l0, if_neg (by omega)]
      exact e
theorem made9_ev (a : Int) (l : List (List Int)) : ∃ (n : Nat) (f : Nat → Nat → Bool), n ≤ 9 ∧ Sy n f ∧ Ev (fun k => arboristlaw11_made.f k a l) (mat n f) := by
  obtain ⟨n, hn, hn2⟩ := kT_in (show 0 < 10 by omega) a
  obtain ⟨f, hf, hr⟩ := made9_l0 n (by omega) l 40 0 (fun _ _ => false) (by omega) (Sy.no n)
  refine ⟨n, f, by omega, hf, evu2 (empty_ev n (by omega)) hr (fun k e1 e2 => ?_)⟩
  rw [show ((10 : Nat) : Int) = 10 from rfl] at hn2
  rw [arboristlaw11_made.f, hn2, e1, Option.bind_some]
  exact e2
def idI (n : Nat) : List Int := (List.range n).map fun (i : Nat) => (i : Int)
theorem idI_len (n : Nat) : (idI n).length = n := by simp [idI]
theorem idI_succ (n : Nat) : idI (n + 1) = idI n ++ [(n : Int)] := by simp [idI, List.range_succ]
theorem mem_idI {n : Nat} {x : Int} : x ∈ idI n ↔ ∃ k : Nat, k < n ∧ x = (k : Int) := by
  unfold idI
  simp only [List.mem_map, List.mem_range]
  constructor
  · rintro ⟨k, h, rfl⟩; exact ⟨k, h, rfl⟩
  · rintro ⟨k, h, rfl⟩; exact ⟨k, h, rfl⟩
theorem idI_nodup (n : Nat) : (idI n).Nodup := by
  unfold idI
  rw [List.Nodup, List.pairwise_map]
  exact List.nodup_range.imp (fun h e => h (by omega))
theorem given_step (out left : List Int) (p : Nat) (h : p < left.length) {I : List Int} (hp : (out ++ left).Perm I) : ((out ++ [rd left (p : Int)]) ++ (left.take p ++ left.drop (p + 1))).Perm I := by
  have hx : left[p]? = some (left[p]) := List.getElem?_eq_getElem h
  rw [rd_nat left p _ hx]
  have e : left = left.take p ++ left[p] :: left.drop (p + 1) := by rw [← List.drop_eq_getElem_cons h, List.take_append_drop]
  refine List.Perm.trans ?_ hp
  rw [List.append_assoc]
  refine List.Perm.append_left out ?_
  rw [List.singleton_append]
  conv => rhs; rw [e]
  exact List.perm_middle.symm
theorem given_l1 (n : Nat) (hn : n ≤ 1000) (l : List Int) (I : List Int) (d : Nat) : ∀ (i : Nat) (left out : List Int), i + d = n → left.length = d → out.length = i → (out ++ left).Perm I → ∃ o, o.Perm I ∧ Ev (fun k => arboristlaw11_given.l1 k (n : Int) l left out (i : Int)) o := by
  induction d with
  | zero =>
    intro i left out h hl ho hp
    obtain rfl := List.eq_nil_of_length_eq_zero hl
    exact ⟨out, by simpa using hp, evs0 (fun k => by rw [arboristlaw11_given.l1, if_neg (by omega)])⟩
  | succ d ih =>
    intro i left out h hl ho hp
    have next : ∀ p : Nat, p < left.length → ∃ o, o.Perm I ∧ Ev (fun k => arboristlaw11_given.l1 k (n : Int) l (left.take p ++ left.drop (p + 1)) (out ++ [rd left (p : Int)]) ((i + 1 : Nat) : Int)) o := fun p hpl =>
      ih (i + 1) _ _ (by omega) (by rw [List.length_append, List.length_take, List.length_drop]; omega) (by rw [List.length_append, ho]; rfl) (given_step out left p hpl hp)
    clear ih hp
    by_cases c : i < l.length
    · obtain ⟨p, hpl, hp2⟩ := kT_in (show 0 < left.length by omega) (rd l (i : Int))
      obtain ⟨o, ho1, ho2⟩ := next p hpl
      refine ⟨o, ho1, evp ho2 (fun k e => ?_)⟩
      have hq : wrap64 ((p : Int) + 1) = ((p + 1 : Nat) : Int) := wrap_nat p (by omega)
      have hw : wrap64 ((i : Int) + 1) = ((i + 1 : Nat) : Int) := wrap_nat i (by omega)
      have g1 : ([] : List Int).length + (left.take p).length < 17592186044416 := by rw [List.length_take]; simp; omega
      have g2 : (left.take p).length + (left.drop (p + 1)).length < 17592186044416 := by rw [List.length_take, List.length_drop]; omega
      rw [arboristlaw11_given.l1, if_pos (by omega), if_pos (by omega), if_pos (by omega), if_neg (by omega), hp2, if_pos (by omega), if_pos (by omega), if_pos (by omega)]
      rw [Option.bind_some, if_pos (by omega), Option.bind_some, Int.toNat_natCast, if_pos g1, Option.bind_some, hq, if_pos (by omega), if_pos (by omega), Option.bind_some, List.nil_append, Int.toNat_natCast, if_pos g2, hw]
      exact e
    · obtain ⟨o, ho1, ho2⟩ := next 0 (by omega)
      refine ⟨o, ho1, evp ho2 (fun k e => ?_)⟩
      have hw : wrap64 ((i : Int) + 1) = ((i + 1 : Nat) : Int) := wrap_nat i (by omega)
      have g1 : ([] : List Int).length + (left.take 0).length < 17592186044416 := by simp
      have g2 : (left.take 0).length + (left.drop 1).length < 17592186044416 := by simp; omega
      rw [arboristlaw11_given.l1, if_pos (by omega), if_neg (by omega), if_pos (by omega), if_pos (by omega)]
      rw [Option.bind_some, if_pos (by omega), Option.bind_some, if_pos g1, Option.bind_some, if_pos (by omega), Option.bind_some, List.nil_append, if_pos g2, hw]
      exact e
theorem given_l0 (n : Nat) (hn : n ≤ 1000) (l : List Int) : ∀ (d i : Nat), i + d = n → ∃ o, o.Perm (idI n) ∧ Ev (fun k => arboristlaw11_given.l0 k (n : Int) l (idI i) (i : Int)) o
  | 0, i, h => by
    obtain rfl : i = n := by omega
    obtain ⟨o, ho1, ho2⟩ := given_l1 i hn l (idI i) i 0 (idI i) [] (by omega) (idI_len i) rfl (by simp)
    refine ⟨o, ho1, evp ho2 (fun k e => ?_)⟩
    rw [arboristlaw11_given.l0, if_neg (by omega)]
    exact e
  | d + 1, i, h => by
    obtain ⟨o, ho1, ho2⟩ := given_l0 n hn l d (i + 1) (by omega)
    refine ⟨o, ho1, evp ho2 (fun k e => ?_)⟩
    rw [arboristlaw11_given.l0, if_pos (by omega), if_pos (by rw [idI_len]; omega), wrap_nat i (by omega), ← idI_succ]
    exact e
theorem given_ev (n : Nat) (hn : n ≤ 1000) (l : List Int) : ∃ o, o.Perm (idI n) ∧ Ev (fun k => arboristlaw11_given.f k (n : Int) l) o := given_l0 n hn l n 0 (by omega)
def goT (f : Nat → Nat → Bool) (v : Nat) : Nat → Nat → Bool := fun i k => !decide (i = v) && (!decide (k = v) && (f i k || (f v i && (f v k && !decide (i = k)))))
def nbN (n : Nat) (f : Nat → Nat → Bool) (v : Nat) : List Nat := (List.range n).filter (f v)
theorem mem_nbN {n : Nat} {f : Nat → Nat → Bool} {v x : Nat} : x ∈ nbN n f v ↔ x < n ∧ f v x = true := by unfold nbN; rw [List.mem_filter, List.mem_range]
theorem nbN_len (n : Nat) (f : Nat → Nat → Bool) (v : Nat) : (nbN n f v).length ≤ n := Nat.le_trans (List.length_filter_le _ _) (by simp)
theorem ofT_nbN (n : Nat) (f : Nat → Nat → Bool) (v : Nat) : ofT n (f v) = gI (nbN n f v) := rfl
theorem neigh9 (n : Nat) (hn : n ≤ 1000) (f : Nat → Nat → Bool) (v : Nat) (hv : v < n) : Ev (fun k => arboristref08_Neighbors.f k (mat n f) (v : Int)) (gI (nbN n f v)) := by
  have h := neigh_ev n hn f (v : Int)
  rw [if_pos (by unfold isP; exact decide_eq_true (by omega)), Int.toNat_natCast, ofT_nbN] at h
  exact h
theorem wAt_in {l : List Nat} {i : Nat} (h : i < l.length) : wAt l i ∈ l := by rw [wAt_get l i h]; exact List.getElem_mem h
theorem nodup_at {l : List Nat} (h : l.Nodup) {i k : Nat} (hi : i < l.length) (hk : k < l.length) (e : l[i] = l[k]) : i = k := by
  have hp := List.pairwise_iff_getElem.1 h
  rcases Nat.lt_trichotomy i k with c | c | c
  · exact absurd e (hp i k hi hk c)
  · exact c
  · exact absurd e.symm (hp k i hk hi c)
theorem take_one (l : List Nat) (j : Nat) (h : j < l.length) : l.take (j + 1) = l.take j ++ [wAt l j] := by rw [List.take_succ_eq_append_getElem h, wAt_get l j h]
def setT (f : Nat → Nat → Bool) (p q : Nat) (b : Bool) : Nat → Nat → Bool := fun i => if i = p then (fun k => if k = q then b else f p k) else f i
theorem setT_mat (n : Nat) (f : Nat → Nat → Bool) (p q : Nat) (b : Bool) (hp : p < n) (hq : q < n) : (mat n f).set p ((rd_L8 (mat n f) (p : Int)).set q b) = mat n (setT f p q b) := by
  rw [mat_rd n f p hp, rowT_set, mat_set]
  rfl
theorem setT_true (f : Nat → Nat → Bool) (p q i k : Nat) : setT f p q true i k = true ↔ f i k = true ∨ (i = p ∧ k = q) := by
  unfold setT
  by_cases c : i = p
  · subst c
    rw [if_pos rfl]
    by_cases c2 : k = q
    · rw [if_pos c2]; exact ⟨fun _ => .inr ⟨rfl, c2⟩, fun _ => rfl⟩
    · rw [if_neg c2]; exact ⟨.inl, fun h => h.elim id (fun h => absurd h.2 c2)⟩
  · rw [if_neg c]; exact ⟨.inl, fun h => h.elim id (fun h => absurd h.1 c)⟩
theorem setT_false (f : Nat → Nat → Bool) (p q i k : Nat) : setT f p q false i k = true ↔ f i k = true ∧ ¬ (i = p ∧ k = q) := by
  unfold setT
  by_cases c : i = p
  · subst c
    rw [if_pos rfl]
    by_cases c2 : k = q
    · rw [if_pos c2]; exact ⟨fun h => (by cases h), fun h => absurd ⟨rfl, c2⟩ h.2⟩
    · rw [if_neg c2]; exact ⟨fun h => ⟨h, fun h2 => c2 h2.2⟩, fun h => h.1⟩
  · rw [if_neg c]; exact ⟨fun h => ⟨h, fun h2 => c h2.1⟩, fun h => h.1⟩
theorem goT_iff {n : Nat} {f : Nat → Nat → Bool} (hf : Sy n f) (v p q : Nat) : goT f v p q = true ↔ ((f p q = true ∨ (f v p = true ∧ f v q = true ∧ p ≠ q)) ∧ ¬ ((p = v ∧ f v q = true) ∨ (f v p = true ∧ q = v))) := by
  unfold goT
  have hvv := hf.2.1 v
  by_cases c1 : p = v
  · subst c1
    simp [hvv]
  · by_cases c2 : q = v
    · subst c2
      rw [hf.1 p q]
      simp [c1, hvv]
    · simp [c1, c2]
theorem go_l2 (n : Nat) (hn : n ≤ 1000) (f F : Nat → Nat → Bool) (v : Nat) (hv : v < n) (l : List Nat) (hl : ∀ x ∈ l, x < n) (hll : l.length ≤ 1000)
    (hF : ∀ g : Nat → Nat → Bool, (∀ p q, g p q = true ↔ f p q = true ∧ ¬ ∃ j, j < l.length ∧ ((p = v ∧ q = wAt l j) ∨ (p = wAt l j ∧ q = v))) → mat n g = mat n F) (d : Nat) :
    ∀ j (g : Nat → Nat → Bool), j + d = l.length → (∀ p q, g p q = true ↔ f p q = true ∧ ¬ ∃ j', j' < j ∧ ((p = v ∧ q = wAt l j') ∨ (p = wAt l j' ∧ q = v))) → Ev (fun k => arboristref09_Go.l2 k (mat n g) (v : Int) (gI l) (j : Int)) (mat n F) := by
  induction d with
  | zero =>
    intro j g h hg
    obtain rfl : j = l.length := by omega
    exact evs0 (fun k => by rw [arboristref09_Go.l2, gI_len, if_neg (by omega), hF g hg])
  | succ d ih =>
    intro j g h hg
    have h2 := hl _ (wAt_in (show j < l.length by omega))
    have h3 := ih (j + 1) (setT (setT g v (wAt l j) false) (wAt l j) v false) (by omega) (fun p q => by
      rw [setT_false, setT_false, hg]
      constructor
      · rintro ⟨⟨⟨a, b⟩, c⟩, e⟩
        refine ⟨a, fun ⟨j', hj', hh⟩ => ?_⟩
        by_cases cj : j' = j
        · subst cj
          rcases hh with hh | hh
          · exact c hh
          · exact e hh
        · exact b ⟨j', by omega, hh⟩
      · rintro ⟨a, b⟩
        exact ⟨⟨⟨a, fun ⟨j', hj', hh⟩ => b ⟨j', by omega, hh⟩⟩, fun hh => b ⟨j, by omega, .inl hh⟩⟩, fun hh => b ⟨j, by omega, .inr hh⟩⟩)
    refine evp h3 (fun k e => ?_)
    rw [arboristref09_Go.l2, gI_len, if_pos (by omega), if_pos (by omega), mat_len, if_pos (by omega), if_pos (by omega), gI_rd, if_pos (by omega), mat_rd n g v hv, rowT_len, if_pos (by omega)]
    rw [Option.bind_some, if_pos (by omega)]
    have e1 := setT_mat n g v (wAt l j) false hv h2
    rw [mat_rd n g v hv] at e1
    rw [Int.toNat_natCast, Int.toNat_natCast, e1, mat_rd n _ _ h2, rowT_len, if_pos (by omega)]
    have e2 := setT_mat n (setT g v (wAt l j) false) (wAt l j) v false h2 hv
    rw [mat_rd n _ _ h2] at e2
    rw [e2, wrap_nat j (by omega)]
    exact e
def Did (f : Nat → Nat → Bool) (l : List Nat) (i k : Nat) (g : Nat → Nat → Bool) : Prop := ∀ p q, g p q = true ↔ f p q = true ∨ ∃ i' k', i' < l.length ∧ k' < l.length ∧ i' ≠ k' ∧ (i' < i ∨ (i' = i ∧ k' < k)) ∧ wAt l i' = p ∧ wAt l k' = q
theorem go_l1 (n : Nat) (hn : n ≤ 1000) (f : Nat → Nat → Bool) (v : Nat) (l : List Nat) (hl : ∀ x ∈ l, x < n) (hll : l.length ≤ 1000) (R : List (List Bool)) (i : Nat) (hi : i < l.length)
    (H : ∀ g, Did f l (i + 1) 0 g → Ev (fun k => arboristref09_Go.l0 k (mat n g) (v : Int) (gI l) ((i + 1 : Nat) : Int)) R) (d : Nat) : ∀ j g, j + d = l.length → Did f l i j g → Ev (fun k => arboristref09_Go.l1 k (mat n g) (v : Int) (gI l) (i : Int) (j : Int)) R := by
  induction d with
  | zero =>
    intro j g h hg
    obtain rfl : j = l.length := by omega
    refine evp (H g (fun p q => by
      rw [hg]
      constructor
      · rintro (a | ⟨i', k', h1, h2, h3, h4, h5⟩)
        · exact .inl a
        · exact .inr ⟨i', k', h1, h2, h3, .inl (by omega), h5⟩
      · rintro (a | ⟨i', k', h1, h2, h3, h4, h5⟩)
        · exact .inl a
        · exact .inr ⟨i', k', h1, h2, h3, by omega, h5⟩)) (fun k e => ?_)
    rw [arboristref09_Go.l1, gI_len, if_neg (by omega), wrap_nat i (by omega)]
    exact e
  | succ d ih =>
    intro j g h hg
    have h1 := hl _ (wAt_in hi)
    have h2 := hl _ (wAt_in (show j < l.length by omega))
    by_cases c : i = j
    · subst c
      refine evp (ih (i + 1) g (by omega) (fun p q => by
        rw [hg]
        constructor
        · rintro (a | ⟨i', k', q1, q2, q3, q4, q5⟩)
          · exact .inl a
          · exact .inr ⟨i', k', q1, q2, q3, by omega, q5⟩
        · rintro (a | ⟨i', k', q1, q2, q3, q4, q5⟩)
          · exact .inl a
          · exact .inr ⟨i', k', q1, q2, q3, by omega, q5⟩)) (fun k e => ?_)
      rw [arboristref09_Go.l1, gI_len, if_pos (by omega), if_pos rfl, wrap_nat i (by omega)]
      exact e
    · refine evp (ih (j + 1) (setT g (wAt l i) (wAt l j) true) (by omega) (fun p q => by
        rw [setT_true, hg]
        constructor
        · rintro ((a | ⟨i', k', q1, q2, q3, q4, q5⟩) | ⟨e1, e2⟩)
          · exact .inl a
          · exact .inr ⟨i', k', q1, q2, q3, by omega, q5⟩
          · exact .inr ⟨i, j, hi, by omega, c, .inr ⟨rfl, by omega⟩, e1.symm, e2.symm⟩
        · rintro (a | ⟨i', k', q1, q2, q3, q4, q5, q6⟩)
          · exact .inl (.inl a)
          · by_cases cc : i' = i ∧ k' = j
            · rw [cc.1] at q5; rw [cc.2] at q6; exact .inr ⟨q5.symm, q6.symm⟩
            · exact .inl (.inr ⟨i', k', q1, q2, q3, by omega, q5, q6⟩))) (fun k e => ?_)
      have e1 := setT_mat n g (wAt l i) (wAt l j) true h1 h2
      rw [mat_rd n g _ h1] at e1
      rw [arboristref09_Go.l1, gI_len, if_pos (by omega), if_neg (by omega), if_pos (by omega), if_pos (by omega), gI_rd, gI_rd, if_pos (by omega), mat_len, if_pos (by omega), if_pos (by omega), if_pos (by omega), mat_rd n g _ h1, rowT_len, if_pos (by omega), Int.toNat_natCast, Int.toNat_natCast, e1, wrap_nat j (by omega)]
      exact e
theorem go_l0 (n : Nat) (hn : n ≤ 1000) (f : Nat → Nat → Bool) (v : Nat) (l : List Nat) (hl : ∀ x ∈ l, x < n) (hll : l.length ≤ 1000) (R : List (List Bool))
    (H : ∀ g, Did f l l.length 0 g → Ev (fun k => arboristref09_Go.l2 k (mat n g) (v : Int) (gI l) 0) R) (d : Nat) : ∀ i g, i + d = l.length → Did f l i 0 g → Ev (fun k => arboristref09_Go.l0 k (mat n g) (v : Int) (gI l) (i : Int)) R := by
  induction d with
  | zero =>
    intro i g h hg
    obtain rfl : i = l.length := by omega
    refine evp (H g hg) (fun k e => ?_)
    rw [arboristref09_Go.l0, gI_len, if_neg (by omega)]
    exact e
  | succ d ih =>
    intro i g h hg
    refine evp (go_l1 n hn f v l hl hll R i (by omega) (fun g' hg' => ih (i + 1) g' (by omega) hg') l.length 0 g (by omega) hg) (fun k e => ?_)
    rw [arboristref09_Go.l0, gI_len, if_pos (by omega)]
    exact e
theorem go_ev (n : Nat) (hn : n ≤ 1000) (f : Nat → Nat → Bool) (hf : Sy n f) (v : Nat) (hv : v < n) : Ev (fun k => arboristref09_Go.f k (mat n f) (v : Int)) (mat n (goT f v)) := by
  have hln := nbN_len n f v
  have hin : ∀ x ∈ nbN n f v, x < n := fun x hx => (mem_nbN.1 hx).1
  have hat : ∀ x, (∃ j, j < (nbN n f v).length ∧ wAt (nbN n f v) j = x) ↔ f v x = true := fun x => by
    constructor
    · rintro ⟨j, hj, rfl⟩; exact (mem_nbN.1 (wAt_in hj)).2
    · intro h
      obtain ⟨j, hj, e⟩ := List.getElem_of_mem (mem_nbN.2 ⟨(hf.2.2 _ _ h).2, h⟩)
      exact ⟨j, hj, by rw [wAt_get _ _ hj, e]⟩
  refine evu2 (neigh9 n hn f v hv) (go_l0 n hn f v (nbN n f v) hin (by omega) (mat n (goT f v)) (fun g hg => ?_) (nbN n f v).length 0 f (by omega) (fun p q => ⟨.inl, fun h => h.elim id (fun ⟨i', k', _, _, _, h4, _⟩ => by omega)⟩)) (fun k e1 e2 => ?_)
  · refine go_l2 n hn g (goT f v) v hv (nbN n f v) hin (by omega) (fun g2 hg2 => mat_congr (fun p q hp hq => ?_)) (nbN n f v).length 0 g (by omega) (fun p q => ⟨fun h => ⟨h, fun ⟨j', hj', _⟩ => by omega⟩, fun h => h.1⟩)
    have e : g2 p q = true ↔ goT f v p q = true := by
      rw [hg2, hg, goT_iff hf]
      have m1 : (∃ i' k', i' < (nbN n f v).length ∧ k' < (nbN n f v).length ∧ i' ≠ k' ∧ (i' < (nbN n f v).length ∨ (i' = (nbN n f v).length ∧ k' < 0)) ∧ wAt (nbN n f v) i' = p ∧ wAt (nbN n f v) k' = q) ↔ (f v p = true ∧ f v q = true ∧ p ≠ q) := by
        constructor
        · rintro ⟨i', k', h1, h2, h3, _, h5, h6⟩
          refine ⟨(hat p).1 ⟨i', h1, h5⟩, (hat q).1 ⟨k', h2, h6⟩, fun e => h3 ?_⟩
          have hnd : (nbN n f v).Nodup := List.Nodup.sublist List.filter_sublist List.nodup_range
          rw [wAt_get _ _ h1] at h5
          rw [wAt_get _ _ h2] at h6
          exact nodup_at hnd h1 h2 (by rw [h5, h6, e])
        · rintro ⟨h1, h2, h3⟩
          obtain ⟨i', a1, a2⟩ := (hat p).2 h1
          obtain ⟨k', b1, b2⟩ := (hat q).2 h2
          exact ⟨i', k', a1, b1, fun e => h3 (by rw [← a2, ← b2, e]), .inl a1, a2, b2⟩
      have m2 : (∃ j, j < (nbN n f v).length ∧ ((p = v ∧ q = wAt (nbN n f v) j) ∨ (p = wAt (nbN n f v) j ∧ q = v))) ↔ ((p = v ∧ f v q = true) ∨ (f v p = true ∧ q = v)) := by
        constructor
        · rintro ⟨j, h1, (⟨h2, h3⟩ | ⟨h2, h3⟩)⟩
          · exact .inl ⟨h2, (hat q).1 ⟨j, h1, h3.symm⟩⟩
          · exact .inr ⟨(hat p).1 ⟨j, h1, h2.symm⟩, h3⟩
        · rintro (⟨h2, h3⟩ | ⟨h2, h3⟩)
          · obtain ⟨j, a1, a2⟩ := (hat q).2 h3; exact ⟨j, a1, .inl ⟨h2, a2.symm⟩⟩
          · obtain ⟨j, a1, a2⟩ := (hat p).2 h2; exact ⟨j, a1, .inr ⟨a2.symm, h3⟩⟩
      rw [m1, m2]
    cases h1 : g2 p q <;> cases h2 : goT f v p q <;> simp_all
  · rw [arboristref09_Go.f, e1, Option.bind_some]
    exact e2
theorem copy_l0 (n : Nat) (hn : n ≤ 1000) (f : Nat → Nat → Bool) (d : Nat) : ∀ i, i + d = n → Ev (fun k => arboristref09_Copy.l0 k (mat n f) ((List.range i).map fun j => rowT n (f j)) (i : Int)) (mat n f) := by
  induction d with
  | zero =>
    intro i h
    obtain rfl : i = n := by omega
    exact evs0 (fun k => by rw [arboristref09_Copy.l0, mat_len, if_neg (by omega)]; rfl)
  | succ d ih =>
    intro i h
    refine evp (ih (i + 1) (by omega)) (fun k e => ?_)
    rw [arboristref09_Copy.l0, mat_len, if_pos (by omega), Option.bind_some, if_pos (by omega), mat_rd n f i (by omega), rowT_len, if_pos (by simp; omega), List.length_map, List.length_range, if_pos (by omega), List.nil_append, wrap_nat i (by omega)]
    rw [List.range_succ, List.map_append] at e
    exact e
theorem copy_ev (n : Nat) (hn : n ≤ 1000) (f : Nat → Nat → Bool) : Ev (fun k => arboristref09_Copy.f k (mat n f)) (mat n f) := copy_l0 n hn f n 0 (by omega)
theorem sum_if (l : List Nat) (p : Nat → Bool) : (l.map fun x => if p x = true then 1 else 0).sum = l.countP p := by
  induction l with
  | nil => rfl
  | cons x l ih =>
    rw [List.map_cons, List.sum_cons, List.countP_cons, ih]
    omega
theorem sum_add (l : List Nat) (a b : Nat → Nat) : (l.map fun x => a x + b x).sum = (l.map a).sum + (l.map b).sum := by
  induction l with
  | nil => rfl
  | cons x l ih => rw [List.map_cons, List.sum_cons, List.map_cons, List.sum_cons, List.map_cons, List.sum_cons, ih]; omega
theorem nbN_nodup (n : Nat) (f : Nat → Nat → Bool) (v : Nat) : (nbN n f v).Nodup := List.Nodup.sublist List.filter_sublist List.nodup_range
def without (left : Nat → Bool) (v : Nat) : Nat → Bool := fun i => left i && !decide (v = i)
theorem mem_ofT {n : Nat} {g : Nat → Bool} {x : Int} : x ∈ ofT n g ↔ ∃ i : Nat, i < n ∧ g i = true ∧ x = (i : Int) := by
  unfold ofT
  simp only [List.mem_map, List.mem_filter, List.mem_range]
  constructor
  · rintro ⟨i, ⟨h1, h2⟩, rfl⟩; exact ⟨i, h1, h2, rfl⟩
  · rintro ⟨i, h1, h2, rfl⟩; exact ⟨i, ⟨h1, h2⟩, rfl⟩
theorem perm_of_in : ∀ (xs l : List Int), xs.Nodup → (∀ x ∈ xs, x ∈ l) → l.length ≤ xs.length → l.Perm xs
  | [], l, _, _, h => by
    have : l = [] := List.eq_nil_of_length_eq_zero (by simpa using h)
    rw [this]
  | x :: xs, l, hd, hin, hl => by
    have hx : x ∈ l := hin x List.mem_cons_self
    have h1 : l.Perm (x :: l.erase x) := List.perm_cons_erase hx
    have hlen := h1.length_eq
    have h2 := perm_of_in xs (l.erase x) (List.nodup_cons.1 hd).2 (fun y hy => by
      have hne : y ≠ x := fun e => (List.nodup_cons.1 hd).1 (e ▸ hy)
      exact (List.mem_erase_of_ne hne).2 (hin y (List.mem_cons_of_mem _ hy))) (by simp at hlen hl ⊢; omega)
    exact h1.trans (h2.cons x)
def validB (n : Nat) (l : List Int) : Bool := decide (l.length = n ∧ ∀ v, v < n → l.count (v : Int) = 1)
theorem idI_count (n v : Nat) (h : v < n) : (idI n).count (v : Int) = 1 := List.Nodup.count (idI_nodup n) |>.trans (if_pos (mem_idI.2 ⟨v, h, rfl⟩))
theorem validB_perm (n : Nat) (l : List Int) : validB n l = true ↔ l.Perm (idI n) := by
  unfold validB
  rw [decide_eq_true_iff]
  constructor
  · rintro ⟨h1, h2⟩
    refine perm_of_in (idI n) l (idI_nodup n) (fun x hx => ?_) (by rw [idI_len]; omega)
    obtain ⟨v, hv, rfl⟩ := mem_idI.1 hx
    exact List.count_pos_iff.1 (by rw [h2 v hv]; decide)
  · intro h
    exact ⟨by rw [h.length_eq, idI_len], fun v hv => by rw [h.count_eq, idI_count n v hv]⟩
theorem chkN_iff : ∀ (l : List Int) (i : Nat), chkN i l = true ↔ l = (List.range' i l.length).map fun (k : Nat) => (k : Int)
  | [], i => by simp [chkN]
  | x :: l, i => by
    rw [chkN, List.length_cons, List.range'_succ, List.map_cons]
    by_cases c : (i : Int) = x
    · rw [if_pos c, chkN_iff l (i + 1)]
      constructor
      · intro h; rw [← h, c]
      · intro h; exact (List.cons.inj h).2
    · rw [if_neg c]
      constructor
      · intro h; cases h
      · intro h; exact absurd (List.cons.inj h).1.symm c
theorem idI_sorted (n : Nat) : (idI n).Pairwise (· ≤ ·) := by
  unfold idI
  rw [List.pairwise_map]
  exact List.pairwise_lt_range.imp (fun h => by omega)
theorem chk_perm (l : List Int) : chkN 0 (SortedSeq.sortZ l) = true ↔ l.Perm (idI l.length) := by
  rw [chkN_iff, SortedSeq.sortZ_len, ← List.range_eq_range']
  constructor
  · intro h
    have hp := (SortedSeq.sortZ_perm l).symm
    have e : SortedSeq.sortZ l = idI l.length := h
    rw [e] at hp
    exact hp
  · intro h
    exact SortedSeq.sortZ_uniq ((SortedSeq.sortZ_perm l).trans h) (SortedSeq.sortZ_sorted l) (idI_sorted _)
theorem pvalid_f (n : Nat) (l : List Int) (hl : l.length < 17592186043904) : order_Valid.f (n : Int) l = some (validB n l) := by
  unfold order_Valid.f
  by_cases c : l.length = n
  · rw [if_pos (by omega), if_pos hl]
    congr 1
    have h1 := chk_perm l
    rw [c] at h1
    have h2 := validB_perm n l
    rw [Bool.eq_iff_iff, h1, h2]
  · rw [if_neg (by omega)]
    congr 1
    unfold validB
    rw [decide_eq_false (fun h => c h.1)]
theorem validB_of {n : Nat} {l : List Int} (h : l.Perm (idI n)) : validB n l = true := (validB_perm n l).2 h
theorem ofT_nodup (n : Nat) (g : Nat → Bool) : (ofT n g).Nodup := by
  unfold ofT
  rw [List.Nodup, List.pairwise_map]
  exact (List.Nodup.sublist List.filter_sublist List.nodup_range).imp (fun h e => h (by omega))
theorem ofT_rising (n : Nat) (g : Nat → Bool) : (ofT n g).Pairwise (· < ·) := by
  unfold ofT
  rw [List.pairwise_map]
  exact (List.Pairwise.sublist List.filter_sublist List.pairwise_lt_range).imp (fun h => by omega)
end Go.Proofs.YtbdlelojlnhhfaaDoor.Pr
set_option linter.unusedVariables false
set_option linter.unusedSimpArgs false
namespace Go.Proofs.YtbdlelojlnhhfaaDoor.Mcs
structure Gr (n : Nat) (A : Nat → Nat → Bool) : Prop where
  sym : ∀ i k, A i k = A k i
  irr : ∀ i, A i i = false
  rng : ∀ i k, A i k = true → i < n ∧ k < n
structure Way (A : Nat → Nat → Bool) (p : Nat → Nat) (m : Nat) : Prop where
  beside : ∀ i k, i ≤ m → k ≤ m → (A (p i) (p k) = true ↔ (k = i + 1 ∨ i = k + 1))
  once : ∀ i k, i ≤ m → k ≤ m → p i = p k → i = k
end Go.Proofs.YtbdlelojlnhhfaaDoor.Mcs
set_option linter.unusedVariables false
set_option linter.unusedSimpArgs false
namespace Go.Proofs.YtbdlelojlnhhfaaDoor.Pr
open Go.RowKit Go.Proofs.YtbdlelojlnhhfaaDoorW.PrintWords Go.Proofs.YtbdlelojlnhhfaaDoorW.PrintLast Go.Proofs.YtbdlelojlnhhfaaDoorW.PrintMore
def rst (f : Nat → Nat → Bool) (left : Nat → Bool) : Nat → Nat → Bool := fun p q => f p q && (left p && left q)
theorem rst_all (f : Nat → Nat → Bool) : rst f (fun _ => true) = f := by funext p q; unfold rst; simp
theorem rst_iff (f : Nat → Nat → Bool) (left : Nat → Bool) (p q : Nat) : rst f left p q = true ↔ f p q = true ∧ left p = true ∧ left q = true := by unfold rst; simp
theorem Sy.rst {n : Nat} {f : Nat → Nat → Bool} (h : Sy n f) (left : Nat → Bool) : Sy n (rst f left) := by
  refine ⟨fun p q => ?_, fun p => ?_, fun p q e => h.2.2 p q ((rst_iff _ _ _ _).1 e).1⟩
  · unfold Pr.rst; rw [h.1 p q, Bool.and_comm (left p)]
  · unfold Pr.rst; rw [h.2.1 p]; rfl
theorem without_iff (left : Nat → Bool) (v k : Nat) : without left v k = true ↔ left k = true ∧ v ≠ k := by unfold without; simp
theorem countP_lt {l : List Nat} {p q : Nat → Bool} (h : ∀ x ∈ l, p x = true → q x = true) {z : Nat} (hz : z ∈ l) (h1 : q z = true) (h2 : p z = false) : l.countP p < l.countP q := by
  induction l with
  | nil => cases hz
  | cons y l ih =>
    rw [List.countP_cons, List.countP_cons]
    have hle : l.countP p ≤ l.countP q := List.countP_mono_left (fun x hx hp => h x (List.mem_cons_of_mem _ hx) hp)
    rcases List.mem_cons.1 hz with rfl | hz
    · rw [h1, h2]; simp; omega
    · have := ih (fun x hx => h x (List.mem_cons_of_mem _ hx)) hz
      have hy := h y List.mem_cons_self
      cases hp : p y with
      | false => simp; omega
      | true => rw [hy hp]; simp; omega
def joinOne (h : Nat → Nat → Bool) (a : Nat) (bs : List Nat) : Nat → Nat → Bool := fun i k => h i k || (decide (i = a ∧ k ∈ bs) || decide (k = a ∧ i ∈ bs))
def joinBd (h : Nat → Nat → Bool) (l : List Nat) : Nat → Nat → Bool := fun i k => h i k || decide (i ∈ l ∧ k ∈ l ∧ i ≠ k)
theorem joinIn_gW {n : Nat} (hn : n ≤ 40) (a : Nat) (ha : a < n) : ∀ (bs : List Nat) (h : Nat → Nat → Bool), (∀ b ∈ bs, b < n) → a ∉ bs → joinIn (a : Int) (gI bs) (gI (gW n h)) = some (gI (gW n (joinOne h a bs)))
  | [], h, _, _ => by
    show some _ = some _
    congr 2
    exact gW_congr (fun i k _ _ => by unfold joinOne; simp)
  | b :: bs, h, hb, hna => by
    have hbn := hb b List.mem_cons_self
    have hab : a ≠ b := fun e => hna (e ▸ List.mem_cons_self)
    show (graph_Join.f (gI (gW n h)) (a : Int) (b : Int)).bind _ = _
    rw [(join_f (gW n h) (gW_ok (by omega) h) (by rw [gW_len]; omega) (a : Int) (b : Int)).1, Option.bind_some, joinW_gW h ha hbn hab]
    show joinIn (a : Int) (gI bs) (gI (gW n (addE h a b))) = _
    rw [joinIn_gW hn a ha bs (addE h a b) (fun c hc => hb c (List.mem_cons_of_mem _ hc)) (fun hc => hna (List.mem_cons_of_mem _ hc))]
    congr 2
    refine gW_congr (fun i k _ _ => ?_)
    unfold joinOne addE
    rw [Bool.eq_iff_iff]
    simp only [Bool.or_eq_true, decide_eq_true_eq, List.mem_cons]
    constructor
    · rintro ((h1 | h1 | h1) | h1 | h1)
      · exact .inl h1
      · exact .inr (.inl ⟨h1.1, .inl h1.2⟩)
      · exact .inr (.inr ⟨h1.2, .inl h1.1⟩)
      · exact .inr (.inl ⟨h1.1, .inr h1.2⟩)
      · exact .inr (.inr ⟨h1.1, .inr h1.2⟩)
    · rintro (h1 | ⟨h1, h2 | h2⟩ | ⟨h1, h2 | h2⟩)
      · exact .inl (.inl h1)
      · exact .inl (.inr (.inl ⟨h1, h2⟩))
      · exact .inr (.inl ⟨h1, h2⟩)
      · exact .inl (.inr (.inr ⟨h2, h1⟩))
      · exact .inr (.inr ⟨h1, h2⟩)
theorem gI_take (l : List Nat) (i : Nat) : (gI l).take i = gI (l.take i) := by unfold gI; rw [List.map_take]
theorem hm' {bd : List Nat} (hd : bd.Nodup) {i : Nat} (hi : i < bd.length) : wAt bd i ∉ bd.take i := fun h => by
  obtain ⟨q, hq, e⟩ := List.getElem_of_mem h
  rw [List.length_take] at hq
  rw [List.getElem_take, wAt_get bd i hi] at e
  have := nodup_at hd (by omega) hi e
  omega
theorem joinAll_gW {n : Nat} (hn : n ≤ 40) (bd : List Nat) (hb : ∀ b ∈ bd, b < n) (hd : bd.Nodup) (h : Nat → Nat → Bool) (d : Nat) : ∀ i, i + d = bd.length → joinAll (gI bd) d i (gI (gW n (joinBd h (bd.take i)))) = some (gI (gW n (joinBd h bd))) := by
  induction d with
  | zero =>
    intro i hi
    obtain rfl : i = bd.length := by omega
    rw [joinAll, List.take_length]
  | succ d ih =>
    intro i hi
    have hil : i < bd.length := by omega
    rw [joinAll, gI_rd, gI_take, joinIn_gW hn (wAt bd i) (hb _ (wAt_in hil)) (bd.take i) _ (fun b hb2 => hb b (List.mem_of_mem_take hb2)) (fun hm => ?_), Option.bind_some]
    · rw [show gW n (joinOne (joinBd h (bd.take i)) (wAt bd i) (bd.take i)) = gW n (joinBd h (bd.take (i + 1))) from ?_]
      · exact ih (i + 1) (by omega)
      · refine gW_congr (fun p q _ _ => ?_)
        unfold joinOne joinBd
        rw [take_one bd i hil, Bool.eq_iff_iff]
        simp only [Bool.or_eq_true, decide_eq_true_eq, List.mem_append, List.mem_singleton]
        constructor
        · rintro ((h1 | h1) | h1 | h1)
          · exact .inl h1
          · exact .inr ⟨.inl h1.1, .inl h1.2.1, h1.2.2⟩
          · exact .inr ⟨.inr h1.1, .inl h1.2, fun e => hm' hd hil (by rw [← h1.1, e]; exact h1.2)⟩
          · exact .inr ⟨.inl h1.2, .inr h1.1, fun e => hm' hd hil (by rw [← h1.1, ← e]; exact h1.2)⟩
        · rintro (h1 | ⟨h1 | h1, h2 | h2, h3⟩)
          · exact .inl (.inl h1)
          · exact .inl (.inr ⟨h1, h2, h3⟩)
          · exact .inr (.inr ⟨h2, h1⟩)
          · exact .inr (.inl ⟨h1, h2⟩)
          · exact absurd (h1.trans h2.symm) h3
    · exact hm' hd hil hm
def laterN (n : Nat) (h : Nat → Nat → Bool) (left : Nat → Bool) (v : Nat) : List Nat := (nbN n h v).filter left
def bagT (n : Nat) (h : Nat → Nat → Bool) (left : Nat → Bool) (v : Nat) : List Int := ofT n fun k => decide (k = v) || (h v k && left k)
def fillB (n : Nat) : List Nat → (Nat → Nat → Bool) → (Nat → Bool) → List (List Int) × (Nat → Nat → Bool)
  | [], h, _ => ([], h)
  | v :: l, h, left => (bagT n h left v :: (fillB n l (joinBd h (laterN n h left v)) (without left v)).1, (fillB n l (joinBd h (laterN n h left v)) (without left v)).2)
theorem joinBd_sy {n : Nat} {h : Nat → Nat → Bool} (hh : Sy n h) {l : List Nat} (hl : ∀ x ∈ l, x < n) : Sy n (joinBd h l) := by
  refine ⟨fun i k => ?_, fun i => ?_, fun i k e => ?_⟩
  · unfold joinBd
    rw [hh.1 i k]
    congr 1
    rw [Bool.eq_iff_iff, decide_eq_true_iff, decide_eq_true_iff]
    exact ⟨fun ⟨a, b, c⟩ => ⟨b, a, Ne.symm c⟩, fun ⟨a, b, c⟩ => ⟨b, a, Ne.symm c⟩⟩
  · unfold joinBd; rw [hh.2.1 i]; simp
  · unfold joinBd at e
    simp only [Bool.or_eq_true, decide_eq_true_eq] at e
    rcases e with e | e
    · exact hh.2.2 _ _ e
    · exact ⟨hl _ e.1, hl _ e.2.1⟩
theorem mem_laterN {n : Nat} {h : Nat → Nat → Bool} {left : Nat → Bool} {v x : Nat} : x ∈ laterN n h left v ↔ x < n ∧ h v x = true ∧ left x = true := by
  unfold laterN
  rw [List.mem_filter, mem_nbN]
  exact ⟨fun ⟨⟨a, b⟩, c⟩ => ⟨a, b, c⟩, fun ⟨a, b, c⟩ => ⟨⟨a, b⟩, c⟩⟩
theorem len_sub : ∀ {xs l : List Int}, xs.Nodup → (∀ x ∈ xs, x ∈ xs) → (∀ x ∈ xs, x ∈ l) → xs.length ≤ l.length
  | [], _, _, _, _ => Nat.zero_le _
  | x :: xs, l, hd, _, hin => by
    have hx := hin x List.mem_cons_self
    have h1 := (List.perm_cons_erase hx).length_eq
    have h2 := len_sub (l := l.erase x) (List.nodup_cons.1 hd).2 (fun _ h => h) (fun y hy => by
      have hne : y ≠ x := fun e => (List.nodup_cons.1 hd).1 (e ▸ hy)
      exact (List.mem_erase_of_ne hne).2 (hin y (List.mem_cons_of_mem _ hy)))
    rw [h1, List.length_cons, List.length_cons]
    omega
theorem bag_sorted {n : Nat} {h : Nat → Nat → Bool} (hh : Sy n h) (left : Nat → Bool) (v : Nat) (hv : v < n) : SortedSeq.sortZ (gI (laterN n h left v) ++ [(v : Int)]) = bagT n h left v := by
  refine SortedSeq.sortZ_uniq ((SortedSeq.sortZ_perm _).trans ?_) (SortedSeq.sortZ_sorted _) ((ofT_rising n _).imp (fun h => by omega))
  have hnd : (laterN n h left v).Nodup := List.Nodup.sublist List.filter_sublist (nbN_nodup n h v)
  have h1 : (gI (laterN n h left v) ++ [(v : Int)]).Nodup := by
    rw [List.nodup_append]
    refine ⟨?_, by simp, fun a ha b hb => ?_⟩
    · unfold gI
      rw [List.Nodup, List.pairwise_map]
      exact hnd.imp (fun h e => h (by omega))
    · unfold gI at ha
      obtain ⟨x, hx, rfl⟩ := List.mem_map.1 ha
      have hvx := (mem_laterN.1 hx).2.1
      rw [List.mem_singleton] at hb
      rw [hb]
      intro e
      have : x = v := by omega
      rw [this, hh.2.1] at hvx
      cases hvx
  have hmem : ∀ x : Int, x ∈ gI (laterN n h left v) ++ [(v : Int)] ↔ x ∈ bagT n h left v := fun x => by
    unfold bagT
    rw [mem_ofT, List.mem_append, List.mem_singleton]
    unfold gI
    rw [List.mem_map]
    constructor
    · rintro (⟨y, hy, rfl⟩ | rfl)
      · have h3 := mem_laterN.1 hy
        exact ⟨y, h3.1, by simp [h3.2.1, h3.2.2], rfl⟩
      · exact ⟨v, hv, by simp, rfl⟩
    · rintro ⟨y, hy, h3, rfl⟩
      simp only [Bool.or_eq_true, decide_eq_true_eq, Bool.and_eq_true] at h3
      rcases h3 with rfl | h3
      · exact .inr rfl
      · exact .inl ⟨y, mem_laterN.2 ⟨hy, h3.1, h3.2⟩, rfl⟩
  have h4 : (bagT n h left v).Nodup := ofT_nodup n _
  exact (perm_of_in _ _ h1 (fun x hx => (hmem x).1 hx) (by
    have := (perm_of_in _ (gI (laterN n h left v) ++ [(v : Int)]) h4 (fun x hx => (hmem x).2 hx))
    exact len_sub h4 (fun x hx => (hmem x).1 ((hmem x).2 hx)) (fun x hx => (hmem x).2 hx))).symm
theorem allGo_gW {n : Nat} (hn : n ≤ 40) : ∀ (l : List Nat) (h : Nat → Nat → Bool) (left : Nat → Bool) (vs : List Int) (bags : List (List Int)), Sy n h → (∀ v ∈ l, v < n ∧ left v = true) → l.Nodup → (∀ k, k < n → (left k = true ↔ (k : Int) ∉ vs)) → bags.length + l.length ≤ 1000 →
    allGo (gI l) (gI (gW n h)) vs bags = some (bags ++ (fillB n l h left).1, gI (gW n (fillB n l h left).2))
  | [], h, left, vs, bags, _, _, _, _, _ => by
    show some (bags, _) = _
    rw [fillB, List.append_nil]
  | v :: l, h, left, vs, bags, hh, hl, hd, hleft, hb => by
    obtain ⟨hv, hlv⟩ := hl v List.mem_cons_self
    have hnb : graph_Neighbors.f (gI (gW n h)) (v : Int) = some (gI (nbN n h v)) := by
      rw [neighbors_f _ (gW_ok (by omega) h)]
      unfold nbL
      rw [gW_len, if_pos (by unfold isP; exact decide_eq_true (by omega)), Int.toNat_natCast, gW_at n h v hv, listN_wd (by omega)]
      rfl
    have hlen := nbN_len n h v
    have hfil : (gI (nbN n h v)).filter (fun a => !decide (a ∈ vs)) = gI (laterN n h left v) := by
      unfold gI laterN
      rw [List.filter_map]
      congr 1
      refine List.filter_congr (fun x hx => ?_)
      have hxn := (mem_nbN.1 hx).1
      have := hleft x hxn
      show (!decide ((x : Int) ∈ vs)) = left x
      rw [Bool.eq_iff_iff, this]
      simp
    have hlin : ∀ x ∈ laterN n h left v, x < n := fun x hx => (mem_laterN.1 hx).1
    have hlnd : (laterN n h left v).Nodup := List.Nodup.sublist List.filter_sublist (nbN_nodup n h v)
    have hj := joinAll_gW hn (laterN n h left v) hlin hlnd h (laterN n h left v).length 0 (by omega)
    rw [show gW n (joinBd h ((laterN n h left v).take 0)) = gW n h from gW_congr (fun i k _ _ => by unfold joinBd; simp)] at hj
    have hh2 := joinBd_sy hh hlin
    have ih := allGo_gW hn l (joinBd h (laterN n h left v)) (without left v) (vs ++ [(v : Int)]) (bags ++ [bagT n h left v]) hh2 (fun x hx => ⟨(hl x (List.mem_cons_of_mem _ hx)).1, (without_iff _ _ _).2 ⟨(hl x (List.mem_cons_of_mem _ hx)).2, fun e => (List.nodup_cons.1 hd).1 (e ▸ hx)⟩⟩) (List.nodup_cons.1 hd).2 (fun k hk => by
      rw [without_iff, hleft k hk, List.mem_append, List.mem_singleton]
      constructor
      · rintro ⟨a, b⟩ (c | c)
        · exact a c
        · exact b (by omega)
      · intro a
        exact ⟨fun c => a (.inl c), fun c => a (.inr (by rw [c]))⟩) (by rw [List.length_append]; simp at hb ⊢; omega)
    show (graph_Neighbors.f (gI (gW n h)) (v : Int)).bind _ = _
    rw [hnb, Option.bind_some, if_pos ⟨by rw [gI_len]; omega, (hleft v hv).1 hlv, by simp at hb; omega⟩, hfil, gI_len, hj, Option.bind_some, bag_sorted hh left v hv]
    show allGo (gI l) _ _ _ = _
    rw [ih, fillB, List.append_assoc]
    rfl
theorem toN_of {n : Nat} {o : List Int} (h : o.Perm (idI n)) : ∃ ln : List Nat, o = gI ln ∧ ln.Nodup ∧ ∀ x ∈ ln, x < n := by
  refine ⟨o.map Int.toNat, ?_, ?_, fun x hx => ?_⟩
  · unfold gI
    rw [List.map_map]
    conv => lhs; rw [← List.map_id o]
    refine List.map_congr_left (fun x hx => ?_)
    obtain ⟨k, _, rfl⟩ := mem_idI.1 (h.mem_iff.1 hx)
    rfl
  · have hd : o.Nodup := h.nodup_iff.2 (idI_nodup n)
    rw [List.Nodup, List.pairwise_map]
    refine List.Pairwise.imp_of_mem (fun ha hb hne e => hne ?_) hd
    obtain ⟨a, _, rfl⟩ := mem_idI.1 (h.mem_iff.1 ha)
    obtain ⟨b, _, rfl⟩ := mem_idI.1 (h.mem_iff.1 hb)
    rw [Int.toNat_natCast, Int.toNat_natCast] at e
    rw [e]
  · obtain ⟨y, hy, rfl⟩ := List.mem_map.1 hx
    obtain ⟨k, hk, rfl⟩ := mem_idI.1 (h.mem_iff.1 hy)
    rw [Int.toNat_natCast]; exact hk
def allL : Nat → Bool := fun _ => true
theorem all_f {n : Nat} (hn : n ≤ 40) {f : Nat → Nat → Bool} (hf : Sy n f) {ln : List Nat} (ho : (gI ln).Perm (idI n)) (hd : ln.Nodup) (hl : ∀ x ∈ ln, x < n) : fill_all.f (gI (gW n f)) (gI ln) = some ((fillB n ln f allL).1, gI (gW n (fillB n ln f allL).2), 0) := by
  have hlen : ln.length = n := by have := ho.length_eq; rw [gI_len, idI_len] at this; exact this
  unfold fill_all.f
  rw [gI_len, gW_len, pvalid_f n (gI ln) (by rw [gI_len]; omega), Option.bind_some, validB_of ho, if_pos rfl, allGo_gW hn ln f allL [] [] hf (fun v hv => ⟨hl v hv, rfl⟩) hd (fun k _ => by simp [allL]) (by simp; omega), Option.bind_some, List.nil_append]
theorem bags_f {n : Nat} (hn : n ≤ 40) {f : Nat → Nat → Bool} (hf : Sy n f) {ln : List Nat} (ho : (gI ln).Perm (idI n)) (hd : ln.Nodup) (hl : ∀ x ∈ ln, x < n) : fill_Bags.f (gI (gW n f)) (gI ln) = some ((fillB n ln f allL).1, 0) := by
  unfold fill_Bags.f
  rw [all_f hn hf ho hd hl, Option.bind_some]
theorem joinBd_ge {h : Nat → Nat → Bool} {l : List Nat} {i k : Nat} (e : h i k = true) : joinBd h l i k = true := by unfold joinBd; rw [e]; rfl
theorem fillB_ge {n : Nat} : ∀ (l : List Nat) (h : Nat → Nat → Bool) (left : Nat → Bool) (i k : Nat), h i k = true → (fillB n l h left).2 i k = true
  | [], h, left, i, k, e => e
  | v :: l, h, left, i, k, e => fillB_ge l _ _ i k (joinBd_ge e)
theorem in_of {n : Nat} {ln : List Nat} (ho : (gI ln).Perm (idI n)) (k : Nat) (hk : k < n) : k ∈ ln := by
  obtain ⟨y, hy, e⟩ := List.mem_map.1 (ho.mem_iff.2 (mem_idI.2 ⟨k, hk, rfl⟩))
  obtain rfl : y = k := by omega
  exact hy
theorem left_tail {n : Nat} {v : Nat} {l : List Nat} {left : Nat → Bool} (hl : ∀ x, x < n → (left x = true ↔ x ∈ v :: l)) (hd : (v :: l).Nodup) : ∀ x, x < n → (without left v x = true ↔ x ∈ l) := fun x hx => by
  rw [without_iff, hl x hx, List.mem_cons]
  constructor
  · rintro ⟨a, b⟩; exact a.resolve_left (Ne.symm b)
  · intro a; exact ⟨.inr a, fun e => (List.nodup_cons.1 hd).1 (e ▸ a)⟩
theorem mem_bagT {n : Nat} {h : Nat → Nat → Bool} {left : Nat → Bool} {v : Nat} {x : Int} : x ∈ bagT n h left v ↔ ∃ k : Nat, k < n ∧ x = (k : Int) ∧ (k = v ∨ (h v k = true ∧ left k = true)) := by
  unfold bagT
  rw [mem_ofT]
  constructor
  · rintro ⟨k, hk, e, rfl⟩
    simp only [Bool.or_eq_true, Bool.and_eq_true, decide_eq_true_eq] at e
    exact ⟨k, hk, rfl, e⟩
  · rintro ⟨k, hk, rfl, e⟩
    refine ⟨k, hk, ?_, rfl⟩
    simp only [Bool.or_eq_true, Bool.and_eq_true, decide_eq_true_eq]
    exact e
theorem bagT_len (n : Nat) (h : Nat → Nat → Bool) (left : Nat → Bool) (v : Nat) : (bagT n h left v).length ≤ n := by
  unfold bagT ofT
  rw [List.length_map]
  exact Nat.le_trans (List.length_filter_le _ _) (by simp)
theorem fillB_cliq {n : Nat} : ∀ (l : List Nat) (h : Nat → Nat → Bool) (left : Nat → Bool), Sy n h → ∀ b ∈ (fillB n l h left).1, cliqB n (fillB n l h left).2 b = true ∧ b.length ≤ n
  | [], _, _, _, b, hb => absurd hb List.not_mem_nil
  | v :: l, h, left, hh, b, hb => by
    have hh2 := joinBd_sy hh (l := laterN n h left v) (fun x hx => (mem_laterN.1 hx).1)
    rcases List.mem_cons.1 hb with rfl | hb
    · refine ⟨?_, bagT_len _ _ _ _⟩
      unfold cliqB
      rw [Bool.and_eq_true, List.all_eq_true, List.all_eq_true]
      refine ⟨fun x hx => ?_, fun x hx => List.all_eq_true.2 (fun y hy => ?_)⟩
      · obtain ⟨k, hk, rfl, _⟩ := mem_bagT.1 hx
        unfold isP; exact decide_eq_true (by omega)
      · obtain ⟨i, hi, rfl, h1⟩ := mem_bagT.1 hx
        obtain ⟨k, hk, rfl, h2⟩ := mem_bagT.1 hy
        rw [Bool.or_eq_true, beq_iff_eq, Int.toNat_natCast, Int.toNat_natCast]
        by_cases c : i = k
        · exact .inl (by rw [c])
        · refine .inr ?_
          show (fillB n l (joinBd h (laterN n h left v)) (without left v)).2 i k = true
          refine fillB_ge l _ _ i k ?_
          rcases h1 with rfl | h1
          · rcases h2 with rfl | h2
            · exact absurd rfl c
            · exact joinBd_ge h2.1
          · rcases h2 with rfl | h2
            · exact joinBd_ge (by rw [hh.1]; exact h1.1)
            · unfold joinBd
              rw [decide_eq_true (show i ∈ laterN n h left v ∧ k ∈ laterN n h left v ∧ i ≠ k from ⟨mem_laterN.2 ⟨hi, h1.1, h1.2⟩, mem_laterN.2 ⟨hk, h2.1, h2.2⟩, c⟩), Bool.or_true]
    · exact fillB_cliq l _ _ hh2 b hb
theorem fillB_len {n : Nat} : ∀ (l : List Nat) (h : Nat → Nat → Bool) (left : Nat → Bool), (fillB n l h left).1.length = l.length
  | [], _, _ => rfl
  | v :: l, h, left => by
    show (fillB n l _ _).1.length + 1 = l.length + 1
    rw [fillB_len l]
end Go.Proofs.YtbdlelojlnhhfaaDoor.Pr
set_option linter.unusedVariables false
set_option linter.unusedSimpArgs false
namespace Go.Proofs.YtbdlelojlnhhfaaDoor.Pure
open Go.RowKit Go.Proofs.YtbdlelojlnhhfaaDoor.Pr Go.Proofs.YtbdlelojlnhhfaaDoorW.PrintWords Go.Proofs.YtbdlelojlnhhfaaDoorW.PrintLast Go.Proofs.YtbdlelojlnhhfaaDoorW.PrintMore
theorem later_sy {n : Nat} {h : Nat → Nat → Bool} (hh : Sy n h) (left : Nat → Bool) (v : Nat) : Sy n (joinBd h (laterN n h left v)) := joinBd_sy hh (fun x hx => (mem_laterN.1 hx).1)
theorem clique_bag {n : Nat} : ∀ (l : List Nat) (h : Nat → Nat → Bool) (left : Nat → Bool) (C : List Nat), Sy n h → (∀ x, x < n → (left x = true ↔ x ∈ l)) → (∀ v ∈ l, v < n) → l.Nodup → (∃ x, x ∈ C) → (∀ x ∈ C, x ∈ l) → (∀ x ∈ C, ∀ y ∈ C, x ≠ y → h x y = true) → ∃ b ∈ (fillB n l h left).1, ∀ x ∈ C, (x : Int) ∈ b
  | [], _, _, C, _, _, _, _, ⟨x, hx⟩, hC, _ => absurd (hC x hx) List.not_mem_nil
  | v :: l, h, left, C, hh, hl, hv, hd, hC0, hC, hq => by
    by_cases c : v ∈ C
    · refine ⟨bagT n h left v, List.mem_cons_self, fun x hx => mem_bagT.2 ⟨x, hv x (hC x hx), rfl, ?_⟩⟩
      by_cases e : x = v
      · exact .inl e
      · exact .inr ⟨hq v c x hx (Ne.symm e), (hl x (hv x (hC x hx))).2 (hC x hx)⟩
    · obtain ⟨b, hb, hx⟩ := clique_bag l (joinBd h (laterN n h left v)) (without left v) C (later_sy hh left v) (left_tail hl hd) (fun x hx => hv x (List.mem_cons_of_mem _ hx)) (List.nodup_cons.1 hd).2 hC0 (fun x hx => (List.mem_cons.1 (hC x hx)).resolve_left (fun e => c (e ▸ hx))) (fun x hx y hy e => joinBd_ge (hq x hx y hy e))
      exact ⟨b, List.mem_cons_of_mem _ hb, hx⟩
theorem bag_nodup {n : Nat} (h : Nat → Nat → Bool) (left : Nat → Bool) (v : Nat) : (bagT n h left v).Nodup := ofT_nodup n _
theorem sub_len {xs l : List Int} (hd : xs.Nodup) (h : ∀ x ∈ xs, x ∈ l) : xs.length ≤ l.length := len_sub hd (fun _ h => h) h
def mostL : List (List Int) → Nat
  | [] => 0
  | b :: B => max b.length (mostL B)
theorem mostL_ge : ∀ (B : List (List Int)), ∀ b ∈ B, b.length ≤ mostL B
  | [], b, hb => by cases hb
  | c :: B, b, hb => by
    rcases List.mem_cons.1 hb with rfl | hb
    · exact Nat.le_max_left _ _
    · exact Nat.le_trans (mostL_ge B b hb) (Nat.le_max_right _ _)
theorem mostL_le (m : Nat) : ∀ (B : List (List Int)), (∀ b ∈ B, b.length ≤ m) → mostL B ≤ m
  | [], _ => Nat.zero_le _
  | c :: B, h => Nat.max_le.2 ⟨h c List.mem_cons_self, mostL_le m B (fun b hb => h b (List.mem_cons_of_mem _ hb))⟩
theorem most_n {n : Nat} (ln : List Nat) (F : Nat → Nat → Bool) (hF : Sy n F) : mostL (fillB n ln F allL).1 ≤ n := mostL_le n _ (fun b hb => (fillB_cliq (n := n) ln F allL hF b hb).2)
end Go.Proofs.YtbdlelojlnhhfaaDoor.Pure
set_option linter.unusedVariables false
set_option linter.unusedSimpArgs false
namespace Go.Proofs.YtbdlelojlnhhfaaDoor.Pr
open Go.RowKit Go.Proofs.YtbdlelojlnhhfaaDoorW.PrintWords Go.Proofs.YtbdlelojlnhhfaaDoorW.PrintLast
def withoutL (a b : List Int) : List Int := a.filter (fun x => !inB b x)
def meetL (a b : List Int) : List Int := a.filter (fun x => inB b x)
theorem Without_loop (a b : List Int) (ha : a.length < 17592186044416) (hb : b.length ≤ 9223372036854775807) : ∀ (d i : Nat) (out : List Int), a.length = i + d → out.length ≤ i → Ev (fun k => arboristref01_Without.l0 k a b out (i : Int)) (out ++ withoutL (a.drop i) b) := by
  intro d
  induction d with
  | zero =>
    intro i out h ho
    refine Ev.step (f := fun _ => some (out ++ withoutL (a.drop i) b)) (fun k => ?_) (Ev.now _)
    simp only [arboristref01_Without.l0]
    rw [if_neg (by omega), List.drop_eq_nil_of_le (by omega)]
    simp [withoutL]
  | succ d ih =>
    intro i out h ho
    have hi : i < a.length := by omega
    refine Ev.step (f := fun k => (arboristref01_In.f k b (rd a (i : Int))).bind fun t => if t = true then arboristref01_Without.l0 k a b out ((i + 1 : Nat) : Int) else if out.length < 17592186044416 then arboristref01_Without.l0 k a b (out ++ [rd a (i : Int)]) ((i + 1 : Nat) : Int) else none) (fun k => ?_) ?_
    · simp only [arboristref01_Without.l0]
      rw [if_pos (by omega), if_pos (by omega), wrap_nat i (by omega)]
    · refine Ev.bind (In_ev b hb _) ?_
      rw [drop_at a i hi]
      cases hc : inB b (rd a (i : Int)) with
      | true =>
        have := ih (i + 1) out (by omega) (by omega)
        simpa [withoutL, hc] using this
      | false =>
        have := ih (i + 1) (out ++ [rd a (i : Int)]) (by omega) (by simp; omega)
        have hlt : out.length < 17592186044416 := by omega
        simpa [withoutL, hc, hlt] using this
theorem Without_ev (a b : List Int) (ha : a.length < 17592186044416) (hb : b.length ≤ 9223372036854775807) : Ev (fun k => arboristref01_Without.f k a b) (withoutL a b) := by
  have := Without_loop a b ha hb a.length 0 [] (by omega) (by simp)
  simpa [arboristref01_Without.f] using this
def withinR (a b : List Int) : Bool := ((withoutL a b).length : Int) == 0
theorem Within_ev (a b : List Int) (ha : a.length < 17592186044416) (hb : b.length ≤ 9223372036854775807) : Ev (fun k => arboristref01_Within.f k a b) (withinR a b) := by
  refine Ev.congr (f := fun k => (arboristref01_Without.f k a b).bind fun t => some ((t.length : Int) == 0)) (fun k => rfl) ?_
  exact Ev.bind (f := fun _ (t : List Int) => some ((t.length : Int) == 0)) (Without_ev a b ha hb) (Ev.now _)
theorem withinR_iff (a b : List Int) : withinR a b = true ↔ ∀ x ∈ a, x ∈ b := by
  unfold withinR withoutL
  simp only [beq_iff_eq]
  constructor
  · intro h x hx
    have h2 : (a.filter (fun x => !inB b x)) = [] := List.eq_nil_of_length_eq_zero (by omega)
    have := List.filter_eq_nil_iff.1 h2 x hx
    simp [inB] at this
    exact this
  · intro h
    have : (a.filter (fun x => !inB b x)) = [] := List.filter_eq_nil_iff.2 (fun x hx => by simp [inB]; exact h x hx)
    simp [this]
def uniteL : List Int → List Int → List Int
  | [], r => r
  | a :: l, [] => a :: l
  | a :: l, m :: r => if a < m then a :: uniteL l (m :: r) else m :: uniteL (a :: l) r
termination_by a b => a.length + b.length
theorem uniteL_nil (a : List Int) : uniteL a [] = a := by cases a <;> simp [uniteL]
theorem Unite_loop (a m : List Int) (hl : a.length + m.length < 17592186044416) : ∀ (d i j : Nat) (out : List Int), a.length + m.length = i + j + d → i ≤ a.length → j ≤ m.length → out.length ≤ i + j → Ev (fun k => arboristref01_Unite.l0 k a out m (i : Int) (j : Int)) (out ++ uniteL (a.drop i) (m.drop j)) := by
  intro d
  induction d with
  | zero =>
    intro i j out h hi hj ho
    refine Ev.step (f := fun k => arboristref01_Unite.j1 k a out m (i : Int) (j : Int) false) (fun k => ?_) ?_
    · simp only [arboristref01_Unite.l0]
      rw [if_neg (by omega), show decide ((j : Int) < (m.length : Int)) = false from decide_eq_false (by omega)]
    · refine Ev.step (f := fun _ => some (out ++ uniteL (a.drop i) (m.drop j))) (fun k => ?_) (Ev.now _)
      simp only [arboristref01_Unite.j1]
      rw [if_neg (by simp), show a.drop i = [] from List.drop_eq_nil_of_le (by omega), show m.drop j = [] from List.drop_eq_nil_of_le (by omega)]
      simp [uniteL]
  | succ d ih =>
    intro i j out h hi hj ho
    refine Ev.step (f := fun k => arboristref01_Unite.j1 k a out m (i : Int) (j : Int) true) (fun k => ?_) ?_
    · simp only [arboristref01_Unite.l0]
      by_cases h1 : i < a.length
      · rw [if_pos (by omega)]
      · rw [if_neg (by omega), show decide ((j : Int) < (m.length : Int)) = true from decide_eq_true (by omega)]
    · have hlt : out.length < 17592186044416 := by omega
      have left : i < a.length → (j = m.length ∨ (j < m.length ∧ rd a (i : Int) < rd m (j : Int))) → Ev (fun k => arboristref01_Unite.l0 k a (out ++ [rd a (i : Int)]) m ((i + 1 : Nat) : Int) (j : Int)) (out ++ uniteL (a.drop i) (m.drop j)) := by
        intro h1 h2
        have := ih (i + 1) j (out ++ [rd a (i : Int)]) (by omega) (by omega) hj (by simp; omega)
        rw [drop_at a i h1]
        rcases h2 with h2 | ⟨h2, h3⟩
        · rw [show m.drop j = [] from List.drop_eq_nil_of_le (by omega)] at this ⊢
          simpa [uniteL, uniteL_nil] using this
        · rw [drop_at m j h2] at this ⊢
          rw [uniteL, if_pos h3]
          simpa using this
      have right : j < m.length → (i = a.length ∨ (i < a.length ∧ ¬ rd a (i : Int) < rd m (j : Int))) → Ev (fun k => arboristref01_Unite.l0 k a (out ++ [rd m (j : Int)]) m (i : Int) ((j + 1 : Nat) : Int)) (out ++ uniteL (a.drop i) (m.drop j)) := by
        intro h1 h2
        have := ih i (j + 1) (out ++ [rd m (j : Int)]) (by omega) hi (by omega) (by simp; omega)
        rw [drop_at m j h1]
        rcases h2 with h2 | ⟨h2, h3⟩
        · rw [show a.drop i = [] from List.drop_eq_nil_of_le (by omega)] at this ⊢
          simpa [uniteL] using this
        · rw [drop_at a i h2] at this ⊢
          rw [uniteL, if_neg h3]
          simpa using this
      by_cases h1 : j = m.length
      · refine Ev.step (f := fun k => arboristref01_Unite.l0 k a (out ++ [rd a (i : Int)]) m ((i + 1 : Nat) : Int) (j : Int)) (fun k => ?_) (left (by omega) (.inl h1))
        simp only [arboristref01_Unite.j1]
        rw [if_pos trivial, if_pos (by omega), if_pos (by omega), if_pos (by omega), if_pos hlt, wrap_nat i (by omega)]
      · by_cases h2 : i < a.length
        · by_cases h3 : rd a (i : Int) < rd m (j : Int)
          · refine Ev.step (f := fun k => arboristref01_Unite.l0 k a (out ++ [rd a (i : Int)]) m ((i + 1 : Nat) : Int) (j : Int)) (fun k => ?_) (left h2 (.inr ⟨by omega, h3⟩))
            simp only [arboristref01_Unite.j1]
            rw [if_pos trivial, if_neg (by omega), if_pos (by omega), if_pos (by omega), if_pos (by omega), if_pos (by omega), if_pos h3, if_pos hlt, wrap_nat i (by omega)]
          · refine Ev.step (f := fun k => arboristref01_Unite.l0 k a (out ++ [rd m (j : Int)]) m (i : Int) ((j + 1 : Nat) : Int)) (fun k => ?_) (right (by omega) (.inr ⟨h2, h3⟩))
            simp only [arboristref01_Unite.j1]
            rw [if_pos trivial, if_neg (by omega), if_pos (by omega), if_pos (by omega), if_pos (by omega), if_pos (by omega), if_neg h3, if_pos hlt, wrap_nat j (by omega)]
        · refine Ev.step (f := fun k => arboristref01_Unite.l0 k a (out ++ [rd m (j : Int)]) m (i : Int) ((j + 1 : Nat) : Int)) (fun k => ?_) (right (by omega) (.inl (by omega)))
          simp only [arboristref01_Unite.j1]
          rw [if_pos trivial, if_neg (by omega), if_neg (by omega), if_pos (by omega), if_pos (by omega), if_pos hlt, wrap_nat j (by omega)]
theorem withoutL_len (a b : List Int) : (withoutL a b).length ≤ a.length := List.length_filter_le _ _
theorem Unite_ev (a b : List Int) (h : a.length + b.length < 17592186044416) : Ev (fun k => arboristref01_Unite.f k a b) (uniteL a (withoutL b a)) := by
  refine Ev.congr (f := fun k => (arboristref01_Without.f k b a).bind fun t => arboristref01_Unite.l0 k a ([] : List Int) t 0 0) (fun k => rfl) ?_
  have hw := withoutL_len b a
  refine Ev.bind (f := fun k (t : List Int) => arboristref01_Unite.l0 k a ([] : List Int) t 0 0) (Without_ev b a (by omega) (by omega)) ?_
  have := Unite_loop a (withoutL b a) (by omega) (a.length + (withoutL b a).length) 0 0 [] (by omega) (by omega) (by omega) (by simp)
  simpa using this
theorem Meet_loop (a b : List Int) (ha : a.length < 17592186044416) (hb : b.length ≤ 9223372036854775807) : ∀ (d i : Nat) (out : List Int), a.length = i + d → out.length ≤ i → Ev (fun k => arboristref01_Meet.l0 k a b out (i : Int)) (out ++ meetL (a.drop i) b) := by
  intro d
  induction d with
  | zero =>
    intro i out h ho
    refine Ev.step (f := fun _ => some (out ++ meetL (a.drop i) b)) (fun k => ?_) (Ev.now _)
    simp only [arboristref01_Meet.l0]
    rw [if_neg (by omega), List.drop_eq_nil_of_le (by omega)]
    simp [meetL]
  | succ d ih =>
    intro i out h ho
    have hi : i < a.length := by omega
    refine Ev.step (f := fun k => (arboristref01_In.f k b (rd a (i : Int))).bind fun t => if t = true then (if out.length < 17592186044416 then arboristref01_Meet.l0 k a b (out ++ [rd a (i : Int)]) ((i + 1 : Nat) : Int) else none) else arboristref01_Meet.l0 k a b out ((i + 1 : Nat) : Int)) (fun k => ?_) ?_
    · simp only [arboristref01_Meet.l0]
      rw [if_pos (by omega), if_pos (by omega), wrap_nat i (by omega)]
    · refine Ev.bind (In_ev b hb _) ?_
      rw [drop_at a i hi]
      cases hc : inB b (rd a (i : Int)) with
      | false =>
        have := ih (i + 1) out (by omega) (by omega)
        simpa [meetL, hc] using this
      | true =>
        have := ih (i + 1) (out ++ [rd a (i : Int)]) (by omega) (by simp; omega)
        have hlt : out.length < 17592186044416 := by omega
        simpa [meetL, hc, hlt] using this
theorem Meet_ev (a b : List Int) (ha : a.length < 17592186044416) (hb : b.length ≤ 9223372036854775807) : Ev (fun k => arboristref01_Meet.f k a b) (meetL a b) := by
  have := Meet_loop a b ha hb a.length 0 [] (by omega) (by simp)
  simpa [arboristref01_Meet.f] using this
theorem uniteL_mem (a m : List Int) (x : Int) : x ∈ uniteL a m ↔ x ∈ a ∨ x ∈ m := by
  fun_induction uniteL a m with
  | case1 r => simp
  | case2 a l => simp
  | case3 a l m r h ih => simp only [List.mem_cons, ih]; clear h; grind
  | case4 a l m r h ih => simp only [List.mem_cons, ih]; clear h; grind
theorem uniteL_rise (a m : List Int) : a.Pairwise (· < ·) → m.Pairwise (· < ·) → (∀ x ∈ m, x ∉ a) → (uniteL a m).Pairwise (· < ·) := by
  fun_induction uniteL a m with
  | case1 r => intro _ h _; exact h
  | case2 a l => intro h _ _; exact h
  | case3 a l m r h ih =>
    intro ha hb hd
    obtain ⟨ha1, ha2⟩ := List.pairwise_cons.1 ha
    obtain ⟨hb1, hb2⟩ := List.pairwise_cons.1 hb
    refine List.pairwise_cons.2 ⟨fun x hx => ?_, ih ha2 hb (fun x hx hc => hd x hx (List.mem_cons_of_mem _ hc))⟩
    rcases (uniteL_mem _ _ _).1 hx with hx | hx
    · exact ha1 x hx
    · rcases List.mem_cons.1 hx with rfl | hx
      · exact h
      · have := hb1 x hx; omega
  | case4 a l m r h ih =>
    intro ha hb hd
    obtain ⟨ha1, ha2⟩ := List.pairwise_cons.1 ha
    obtain ⟨hb1, hb2⟩ := List.pairwise_cons.1 hb
    have hne : m ≠ a := fun e => hd m (by simp) (by simp [e])
    refine List.pairwise_cons.2 ⟨fun x hx => ?_, ih ha hb2 (fun x hx => hd x (List.mem_cons_of_mem _ hx))⟩
    rcases (uniteL_mem _ _ _).1 hx with hx | hx
    · rcases List.mem_cons.1 hx with rfl | hx
      · omega
      · have := ha1 x hx; omega
    · exact hb1 x hx
theorem rise_eq : ∀ (a b : List Int), a.Pairwise (· < ·) → b.Pairwise (· < ·) → (∀ x, x ∈ a ↔ x ∈ b) → a = b
  | [], [], _, _, _ => rfl
  | [], y :: m, _, _, h => absurd ((h y).2 (by simp)) (by simp)
  | x :: l, [], _, _, h => absurd ((h x).1 (by simp)) (by simp)
  | x :: l, y :: m, ha, hb, h => by
    obtain ⟨a1, a2⟩ := List.pairwise_cons.1 ha
    obtain ⟨b1, b2⟩ := List.pairwise_cons.1 hb
    have e : x = y := by
      have h1 := (h x).1 (by simp)
      have h2 := (h y).2 (by simp)
      rcases List.mem_cons.1 h1 with h1 | h1
      · exact h1
      · rcases List.mem_cons.1 h2 with h2 | h2
        · exact h2.symm
        · have := a1 y h2
          have := b1 x h1
          omega
    subst e
    congr 1
    refine rise_eq l m a2 b2 (fun z => ?_)
    have hz := h z
    simp only [List.mem_cons] at hz
    constructor
    · intro hl
      have := a1 z hl
      rcases hz.1 (.inr hl) with h | h
      · omega
      · exact h
    · intro hm
      have := b1 z hm
      rcases hz.2 (.inr hm) with h | h
      · omega
      · exact h
end Go.Proofs.YtbdlelojlnhhfaaDoor.Pr
set_option linter.unusedVariables false
set_option linter.unusedSimpArgs false
namespace Go.Proofs.YtbdlelojlnhhfaaDoor.Pr
open Go.RowKit Go.Proofs.YtbdlelojlnhhfaaDoorW.PrintWords Go.Proofs.YtbdlelojlnhhfaaDoorW.PrintLast
theorem inB_cons (z : Int) (m : List Int) (x : Int) : inB (z :: m) x = (z == x || inB m x) := rfl
theorem merge_meet : ∀ (n : Nat) (a b : List Int), a.length + b.length = n → a.Pairwise (· < ·) → b.Pairwise (· < ·) → mergeL false true false a b = meetL a b := by
  intro n
  induction n using Nat.strongRecOn with
  | _ n ih =>
    intro a b h ha hb
    match a, b with
    | [], [] => simp [mergeL_nn, meetL]
    | y :: l, [] =>
      rw [mergeL_cn]
      have := ih l.length (by simp at h; omega) l [] (by simp) (List.pairwise_cons.1 ha).2 hb
      simpa [keepL, meetL, inB] using this
    | [], z :: m =>
      rw [mergeL_nc]
      have := ih m.length (by simp at h; omega) [] m (by simp) ha (List.pairwise_cons.1 hb).2
      simpa [keepL, meetL] using this
    | y :: l, z :: m =>
      rw [mergeL_cc]
      obtain ⟨ha1, ha2⟩ := List.pairwise_cons.1 ha
      obtain ⟨hb1, hb2⟩ := List.pairwise_cons.1 hb
      have not_in : ∀ (r : List Int) (x : Int), (∀ w ∈ r, x < w) → inB r x = false := by
        intro r x hr
        unfold inB
        rw [List.any_eq_false]
        intro w hw e
        have e2 : w = x := by simpa using e
        have := hr w hw
        omega
      by_cases h1 : y < z
      · rw [if_pos h1]
        have := ih (l.length + (m.length + 1)) (by simp at h; omega) l (z :: m) (by simp) ha2 hb
        have e : inB (z :: m) y = false := not_in _ _ (by
          intro w hw
          rcases List.mem_cons.1 hw with rfl | hw
          · exact h1
          · have := hb1 w hw; omega)
        simp only [keepL, meetL, List.filter_cons, e] at this ⊢
        simpa using this
      · rw [if_neg h1]
        by_cases h2 : z < y
        · rw [if_pos h2]
          have := ih (l.length + 1 + m.length) (by simp at h; omega) (y :: l) m (by simp) ha hb2
          have e : meetL (y :: l) (z :: m) = meetL (y :: l) m := by
            unfold meetL
            apply List.filter_congr
            intro w hw
            rw [inB_cons]
            have : (z == w) = false := by
              rcases List.mem_cons.1 hw with rfl | hw
              · simpa using (by omega : ¬ z = w)
              · have := ha1 w hw
                simpa using (by omega : ¬ z = w)
            rw [this, Bool.false_or]
          rw [e]
          simpa [keepL] using this
        · rw [if_neg h2]
          have e : y = z := by omega
          subst e
          have := ih (l.length + m.length) (by simp at h; omega) l m rfl ha2 hb2
          have e2 : meetL (y :: l) (y :: m) = y :: meetL l m := by
            unfold meetL
            rw [List.filter_cons, if_pos (by rw [inB_cons]; simp)]
            congr 1
            apply List.filter_congr
            intro w hw
            rw [inB_cons]
            have h3 := ha1 w hw
            have : (y == w) = false := by simpa using (by omega : ¬ y = w)
            rw [this, Bool.false_or]
          rw [e2]
          simpa [keepL] using this
theorem merge_without : ∀ (n : Nat) (a b : List Int), a.length + b.length = n → a.Pairwise (· < ·) → b.Pairwise (· < ·) → mergeL true false false a b = withoutL a b := by
  intro n
  induction n using Nat.strongRecOn with
  | _ n ih =>
    intro a b h ha hb
    match a, b with
    | [], [] => simp [mergeL_nn, withoutL]
    | y :: l, [] =>
      rw [mergeL_cn]
      have := ih l.length (by simp at h; omega) l [] (by simp) (List.pairwise_cons.1 ha).2 hb
      simpa [keepL, withoutL, inB] using this
    | [], z :: m =>
      rw [mergeL_nc]
      have := ih m.length (by simp at h; omega) [] m (by simp) ha (List.pairwise_cons.1 hb).2
      simpa [keepL, withoutL] using this
    | y :: l, z :: m =>
      rw [mergeL_cc]
      obtain ⟨ha1, ha2⟩ := List.pairwise_cons.1 ha
      obtain ⟨hb1, hb2⟩ := List.pairwise_cons.1 hb
      have not_in : ∀ (r : List Int) (x : Int), (∀ w ∈ r, x < w) → inB r x = false := by
        intro r x hr
        unfold inB
        rw [List.any_eq_false]
        intro w hw e
        have e2 : w = x := by simpa using e
        have := hr w hw
        omega
      by_cases h1 : y < z
      · rw [if_pos h1]
        have := ih (l.length + (m.length + 1)) (by simp at h; omega) l (z :: m) (by simp) ha2 hb
        have e : inB (z :: m) y = false := not_in _ _ (by
          intro w hw
          rcases List.mem_cons.1 hw with rfl | hw
          · exact h1
          · have := hb1 w hw; omega)
        simp only [keepL, withoutL, List.filter_cons, e] at this ⊢
        simpa using this
      · rw [if_neg h1]
        by_cases h2 : z < y
        · rw [if_pos h2]
          have := ih (l.length + 1 + m.length) (by simp at h; omega) (y :: l) m (by simp) ha hb2
          have e : withoutL (y :: l) (z :: m) = withoutL (y :: l) m := by
            unfold withoutL
            apply List.filter_congr
            intro w hw
            rw [inB_cons]
            have : (z == w) = false := by
              rcases List.mem_cons.1 hw with rfl | hw
              · simpa using (by omega : ¬ z = w)
              · have := ha1 w hw
                simpa using (by omega : ¬ z = w)
            rw [this, Bool.false_or]
          rw [e]
          simpa [keepL] using this
        · rw [if_neg h2]
          have e : y = z := by omega
          subst e
          have := ih (l.length + m.length) (by simp at h; omega) l m rfl ha2 hb2
          have e2 : withoutL (y :: l) (y :: m) = withoutL l m := by
            unfold withoutL
            rw [List.filter_cons, if_neg (by rw [inB_cons]; simp)]
            apply List.filter_congr
            intro w hw
            rw [inB_cons]
            have h3 := ha1 w hw
            have : (y == w) = false := by simpa using (by omega : ¬ y = w)
            rw [this, Bool.false_or]
          rw [e2]
          simpa [keepL] using this
end Go.Proofs.YtbdlelojlnhhfaaDoor.Pr
set_option linter.unusedVariables false
set_option linter.unusedSimpArgs false
namespace Go.Proofs.YtbdlelojlnhhfaaDoor.Pure
open Go.RowKit Go.Proofs.YtbdlelojlnhhfaaDoor.Pr Go.Proofs.YtbdlelojlnhhfaaDoorW.PrintWords Go.Proofs.YtbdlelojlnhhfaaDoorW.PrintLast Go.Proofs.YtbdlelojlnhhfaaDoorW.PrintMore
theorem rising_loop (l : List Int) (hl : l.length ≤ 1000) (hp : l.Pairwise (· < ·)) : ∀ (d i : Nat), 1 ≤ i → l.length + 1 = i + d → Ev (fun k => arboristref01_Rising.l0 k l (i : Int)) true
  | 0, i, h1, h => evs0 (fun k => by rw [arboristref01_Rising.l0, if_neg (by omega)])
  | d + 1, i, h1, h => by
    by_cases c : i < l.length
    · have hi : i - 1 < l.length := by omega
      have hlt : l[i - 1] < l[i] := (List.pairwise_iff_getElem.1 hp) _ _ hi c (by omega)
      have e1 : rd l (i : Int) = l[i] := rdn l i c
      have e2 : wrap64 ((i : Int) - 1) = ((i - 1 : Nat) : Int) := by unfold wrap64; omega
      have e3 : rd l ((i - 1 : Nat) : Int) = l[i - 1] := rdn l (i - 1) hi
      refine evp (rising_loop l hl hp d (i + 1) (by omega) (by omega)) (fun k e => ?_)
      rw [arboristref01_Rising.l0, if_pos (by omega), if_pos (by omega), e2, if_pos (by omega), if_pos (by omega), e1, e3, if_neg (by omega), wrap_nat i (by omega)]
      exact e
    · exact evs0 (fun k => by rw [arboristref01_Rising.l0, if_neg (by omega)])
theorem rising_ev (l : List Int) (hl : l.length ≤ 1000) (hp : l.Pairwise (· < ·)) : Ev (fun k => arboristref01_Rising.f k l) true := evu1 (rising_loop l hl hp l.length 1 (by omega) (by omega)) (fun k e => by rw [arboristref01_Rising.f]; exact e)
theorem ofT_rise (n : Nat) (g : Nat → Bool) : (ofT n g).Pairwise (· < ·) := by
  unfold ofT
  rw [List.pairwise_map]
  refine List.Pairwise.imp (fun h => ?_) (List.Pairwise.sublist List.filter_sublist List.pairwise_lt_range)
  omega
end Go.Proofs.YtbdlelojlnhhfaaDoor.Pure
set_option linter.unusedVariables false
set_option linter.unusedSimpArgs false
namespace Go.Proofs.YtbdlelojlnhhfaaDoor.Pure
open Go.RowKit Go.Proofs.YtbdlelojlnhhfaaDoor.Pr Go.Proofs.YtbdlelojlnhhfaaDoorW.PrintWords Go.Proofs.YtbdlelojlnhhfaaDoorW.PrintLast Go.Proofs.YtbdlelojlnhhfaaDoorW.PrintMore
theorem within_iff {a b : List Int} (ha : a.Pairwise (· < ·)) (hb : b.Pairwise (· < ·)) : withinB a b = true ↔ ∀ x ∈ a, x ∈ b := by
  unfold withinB
  rw [merge_without _ a b rfl ha hb]
  exact withinR_iff a b
theorem meetN_eq (B : List (List Int)) (hr : ∀ b ∈ B, b.Pairwise (· < ·)) {i k : Nat} (hi : i < B.length) (hk : k < B.length) : meetN B i k = ((meetL B[i] B[k]).length : Int) := by
  unfold meetN
  rw [List.getD_eq_getElem?_getD, List.getD_eq_getElem?_getD, List.getElem?_eq_getElem hi, List.getElem?_eq_getElem hk, Option.getD_some, Option.getD_some, merge_meet _ B[i] B[k] rfl (hr _ (List.getElem_mem hi)) (hr _ (List.getElem_mem hk))]
theorem meetN_ge (B : List (List Int)) (i k : Nat) : 0 ≤ meetN B i k := by unfold meetN; omega
theorem fillB_rise {n : Nat} : ∀ (l : List Nat) (h : Nat → Nat → Bool) (left : Nat → Bool), ∀ b ∈ (fillB n l h left).1, b.Pairwise (· < ·)
  | [], _, _, b, hb => by cases hb
  | v :: l, h, left, b, hb => by
    rcases List.mem_cons.1 (show b ∈ bagT n h left v :: (fillB n l (joinBd h (laterN n h left v)) (without left v)).1 from hb) with rfl | hb
    · exact ofT_rise n _
    · exact fillB_rise l _ _ b hb
theorem own_len : ∀ (l seen : List (List Int)), (ownL seen l).length ≤ l.length
  | [], _ => Nat.le_refl _
  | b :: l, seen => by
    unfold ownL
    have := own_len l (seen ++ [b])
    split
    · exact Nat.le_trans this (Nat.le_succ _)
    · exact Nat.succ_le_succ this
theorem own_cover (own0 : List (List Int)) : ∀ (l seen : List (List Int)), (∀ b ∈ l, b.Pairwise (· < ·)) → (∀ b ∈ seen, b.Pairwise (· < ·)) → (∀ s ∈ seen, ∃ c ∈ own0, ∀ x ∈ s, x ∈ c) → (∀ c ∈ ownL seen l, c ∈ own0) → ∀ b ∈ l, ∃ c ∈ own0, ∀ x ∈ b, x ∈ c
  | [], _, _, _, _, _, b, hb => by cases hb
  | a :: l, seen, hr, hrs, hs, ho, b, hb => by
    have ha : ∃ c ∈ own0, ∀ x ∈ a, x ∈ c := by
      by_cases c : seen.any (withinB a) = true
      · obtain ⟨s, hs1, hs2⟩ := List.any_eq_true.1 c
        obtain ⟨c, hc, hx⟩ := hs s hs1
        exact ⟨c, hc, fun x hxa => hx x ((within_iff (hr a List.mem_cons_self) (hrs s hs1)).1 hs2 x hxa)⟩
      · refine ⟨a, ho a ?_, fun x hx => hx⟩
        unfold ownL
        rw [if_neg c]
        exact List.mem_cons_self
    rcases List.mem_cons.1 hb with rfl | hb
    · exact ha
    · refine own_cover own0 l (seen ++ [a]) (fun b hb => hr b (List.mem_cons_of_mem _ hb)) (fun b hb => ?_) (fun s hs' => ?_) (fun c hc => ho c ?_) b hb
      · rcases List.mem_append.1 hb with hb | hb
        · exact hrs b hb
        · rw [List.mem_singleton.1 hb]; exact hr a List.mem_cons_self
      · rcases List.mem_append.1 hs' with hs' | hs'
        · exact hs s hs'
        · rw [List.mem_singleton.1 hs']; exact ha
      · unfold ownL
        split
        · exact hc
        · exact List.mem_cons_of_mem _ hc
theorem build_f {n : Nat} (hn : n ≤ 40) {F : Nat → Nat → Bool} (hF : Sy n F) {ln : List Nat} (hop : (gI ln).Perm (idI n)) (hd : ln.Nodup) (hl : ∀ x ∈ ln, x < n) : decomp_Build.f (gI (gW n F)) (gI ln) = some (ownL [] (fillB n ln F allL).1, primL (ownL [] (fillB n ln F allL).1), 0) := by
  have hlen := fillB_len (n := n) ln F allL
  have hg : ln.length = n := by have := hop.length_eq; rw [gI_len, idI_len] at this; exact this
  have hcl := fillB_cliq (n := n) ln F allL hF
  have ho := own_len (fillB n ln F allL).1 []
  unfold decomp_Build.f
  rw [bags_f hn hF hop hd hl, Option.bind_some]
  have hc : (ownL [] (fillB n ln F allL).1).length ≤ 64 ∧ (fillB n ln F allL).1.length ≤ 100000 ∧ ∀ b ∈ (fillB n ln F allL).1, b.length ≤ 100000 := ⟨by omega, by omega, fun b hb => by have := (hcl b hb).2; omega⟩
  rw [if_pos rfl]
  exact if_pos hc
def inT (L : Nat → Option (Int × Int)) (m s : Nat) : Prop := s < m ∧ L s = none
structure PInv (B : List (List Int)) (L : Nat → Option (Int × Int)) (par : List Int) : Prop where
  len : par.length = B.length
  dom : ∀ i, (L i).isSome = true → i < B.length
  lnk : ∀ i c t, L i = some (c, t) → ((∀ s, ¬ inT L B.length s) ∧ c = -1 ∧ t = -1) ∨ ∃ p : Nat, t = (p : Int) ∧ inT L B.length p ∧ c = meetN B i p ∧ ∀ s, inT L B.length s → meetN B i s ≤ c ∧ (meetN B i s = c → p ≤ s)
  root : (∃ s, inT L B.length s) → inT L B.length 0
  top : inT L B.length 0 → rd par 0 = -1
  par_ : ∀ s, inT L B.length s → s ≠ 0 → ∃ p : Nat, rd par (s : Int) = (p : Int) ∧ p < B.length ∧ p ≠ s ∧ meetN B s 0 ≤ meetN B s p ∧ (meetN B s 0 = meetN B s p → p = 0)
theorem rd_set (l : List Int) (i k : Nat) (x : Int) (hk : k < l.length) : rd (l.set i x) (k : Int) = if i = k then x else rd l (k : Int) := by
  have h1 : (l.set i x)[k]? = some ((l.set i x)[k]'(by simpa using hk)) := List.getElem?_eq_getElem (by simpa using hk)
  rw [rd_nat _ k _ h1, rd_nat l k _ (List.getElem?_eq_getElem hk), List.getElem_set]
theorem comes_none {B : List (List Int)} {k : Nat} {L : Nat → Option (Int × Int)} {i : Nat} : comesL B k L i = none ↔ i = k ∨ L i = none := by
  unfold comesL
  by_cases c : i = k
  · rw [if_pos c]; simp [c]
  · rw [if_neg c]; simp [c]
theorem prim_step {B : List (List Int)} {L : Nat → Option (Int × Int)} {par : List Int} (h : PInv B L par) {k : Nat} {c t : Int} (hk : L k = some (c, t)) (h0 : (∀ s, ¬ inT L B.length s) → k = 0) : PInv B (comesL B k L) (par.set k t) := by
  have hkm := h.dom k (by rw [hk]; rfl)
  have hin : ∀ s, inT (comesL B k L) B.length s ↔ s = k ∨ inT L B.length s := fun s => by
    unfold inT
    rw [comes_none]
    constructor
    · rintro ⟨h1, rfl | h2⟩
      · exact .inl rfl
      · exact .inr ⟨h1, h2⟩
    · rintro (rfl | ⟨h1, h2⟩)
      · exact ⟨hkm, .inl rfl⟩
      · exact ⟨h1, .inr h2⟩
  have hkn : ¬ inT L B.length k := fun h => by rw [h.2] at hk; cases hk
  refine ⟨by rw [List.length_set]; exact h.len, fun i hi => ?_, fun i c' t' hi => ?_, fun _ => ?_, fun _ => ?_, fun s hs hs0 => ?_⟩
  · unfold comesL at hi
    split at hi
    · cases hi
    · exact h.dom i (by rw [Option.isSome_map] at hi; exact hi)
  · refine .inr ?_
    unfold comesL at hi
    by_cases cik : i = k
    · rw [if_pos cik] at hi; cases hi
    · rw [if_neg cik] at hi
      obtain ⟨⟨c0, t0⟩, hl, hu⟩ := Option.map_eq_some_iff.1 hi
      unfold updL at hu
      simp only at hu
      rcases h.lnk i c0 t0 hl with ⟨hno, rfl, rfl⟩ | ⟨p, rfl, hp, hc, hmax⟩
      · rw [if_pos (.inl (by have := meetN_ge B i k; omega))] at hu
        obtain ⟨rfl, rfl⟩ := Prod.mk.inj hu
        refine ⟨k, rfl, (hin k).2 (.inl rfl), rfl, fun s hs => ?_⟩
        rcases (hin s).1 hs with rfl | hs
        · exact ⟨Int.le_refl _, fun _ => Nat.le_refl _⟩
        · exact absurd hs (hno s)
      · by_cases cc : meetN B i k > c0 ∨ (meetN B i k = c0 ∧ (k : Int) < (p : Int))
        · rw [if_pos cc] at hu
          obtain ⟨rfl, rfl⟩ := Prod.mk.inj hu
          refine ⟨k, rfl, (hin k).2 (.inl rfl), rfl, fun s hs => ?_⟩
          rcases (hin s).1 hs with rfl | hs
          · exact ⟨Int.le_refl _, fun _ => Nat.le_refl _⟩
          · have := hmax s hs
            exact ⟨by omega, fun e => by have := this.2 (by omega); omega⟩
        · rw [if_neg cc] at hu
          obtain ⟨rfl, rfl⟩ := Prod.mk.inj hu
          refine ⟨p, rfl, (hin p).2 (.inr hp), hc, fun s hs => ?_⟩
          rcases (hin s).1 hs with rfl | hs
          · exact ⟨by omega, fun e => by omega⟩
          · exact hmax s hs
  · by_cases c1 : ∃ s, inT L B.length s
    · exact (hin 0).2 (.inr (h.root c1))
    · exact (hin 0).2 (.inl (h0 (fun s hs => c1 ⟨s, hs⟩)).symm)
  · have hl := h.len
    rcases h.lnk k c t hk with ⟨hno, _, rfl⟩ | ⟨p, rfl, hp, hc, hmax⟩
    · have := h0 hno
      subst this
      have := rd_set par 0 0 (-1) (by omega)
      rw [if_pos rfl] at this
      exact this
    · have hr := h.root ⟨p, hp⟩
      have hne : k ≠ 0 := fun e => hkn (e ▸ hr)
      have := rd_set par k 0 (p : Int) (by omega)
      rw [if_neg hne] at this
      exact this.trans (h.top hr)
  · have hl := h.len
    rcases (hin s).1 hs with rfl | hs
    · rcases h.lnk s c t hk with ⟨hno, _, rfl⟩ | ⟨p, rfl, hp, hc, hmax⟩
      · exact absurd (h0 hno) hs0
      · have hr := h.root ⟨p, hp⟩
        have h2 := hmax 0 hr
        refine ⟨p, by rw [rd_set par s s _ (by omega), if_pos rfl], hp.1, fun e => hkn (e ▸ hp), by omega, fun e => by have := h2.2 (by omega); omega⟩
    · obtain ⟨p, h1, h2⟩ := h.par_ s hs hs0
      have hne : k ≠ s := fun e => hkn (e ▸ hs)
      exact ⟨p, by rw [rd_set par k s _ (by have := hs.1; omega), if_neg hne]; exact h1, h2⟩
def cntL (L : Nat → Option (Int × Int)) (m : Nat) : Nat := (List.range m).countP fun i => (L i).isSome
theorem cnt_comes {B : List (List Int)} {k : Nat} {L : Nat → Option (Int × Int)} (hk : (L k).isSome = true) : ∀ m, cntL (comesL B k L) m + (if k < m then 1 else 0) = cntL L m
  | 0 => rfl
  | m + 1 => by
    have ih := cnt_comes (B := B) hk m
    unfold cntL at ih ⊢
    rw [List.range_succ, List.countP_append, List.countP_append, List.countP_singleton, List.countP_singleton]
    by_cases c : m = k
    · subst c
      rw [hk, if_pos rfl]
      have : (comesL B m L m).isSome = false := by unfold comesL; rw [if_pos rfl]; rfl
      rw [this, if_neg (by decide), if_pos (show m < m + 1 by omega)]
      rw [if_neg (Nat.lt_irrefl m)] at ih
      omega
    · have : (comesL B k L m).isSome = (L m).isSome := by unfold comesL; rw [if_neg c, Option.isSome_map]
      rw [this]
      by_cases c2 : k < m
      · rw [if_pos c2] at ih; rw [if_pos (show k < m + 1 by omega)]; omega
      · rw [if_neg c2] at ih; rw [if_neg (show ¬ k < m + 1 by omega)]; omega
theorem cnt_pos {L : Nat → Option (Int × Int)} {m : Nat} (h : 0 < cntL L m) : ∃ j, j < m ∧ (L j).isSome = true := by
  obtain ⟨j, hj, hs⟩ := List.countP_pos_iff.1 h
  exact ⟨j, List.mem_range.1 hj, hs⟩
theorem prim_inv {B : List (List Int)} : ∀ (d : Nat) (L : Nat → Option (Int × Int)) (nx : Int) (par : List Int), PInv B L par → cntL L B.length = d → (d = 0 ∨ okL L nx) → ((∀ s, ¬ inT L B.length s) → nx = 0) → ∃ L', PInv B L' (primGo B d L nx par) ∧ ∀ s, s < B.length → L' s = none
  | 0, L, nx, par, h, hc, _, _ => ⟨L, h, fun s hs => by
      cases e : L s with
      | none => rfl
      | some p =>
        have : (L s).isSome = false := by
          have := List.countP_eq_zero.1 hc s (List.mem_range.2 hs)
          simpa using this
        rw [e] at this
        cases this⟩
  | d + 1, L, nx, par, h, hc, hx, h0 => by
    obtain ⟨hx0, hx1⟩ := hx.resolve_left (by omega)
    obtain ⟨k, rfl⟩ := Int.eq_ofNat_of_zero_le hx0
    rw [Int.toNat_natCast] at hx1
    obtain ⟨⟨c, t⟩, hk⟩ := Option.isSome_iff_exists.1 hx1
    have hs := prim_step h hk (fun hno => by have := h0 hno; omega)
    have hcc := cnt_comes (B := B) hx1 B.length
    rw [if_pos (h.dom k hx1)] at hcc
    have hkin : inT (comesL B k L) B.length k := ⟨h.dom k hx1, comes_none.2 (.inl rfl)⟩
    rw [primGo, Int.toNat_natCast, hk]
    refine prim_inv d _ _ _ hs (by omega) ?_ (fun hno => absurd hkin (hno k))
    rcases Nat.eq_zero_or_pos d with h1 | h1
    · exact .inl h1
    · obtain ⟨j, hj, hj2⟩ := cnt_pos (L := comesL B k L) (m := B.length) (by omega)
      exact .inr (bestGo_ok B.length 0 (-1) (.inr ⟨rfl, j, Nat.zero_le _, by omega, hj2⟩))
theorem init_some (m i : Nat) : (initL m i).isSome = decide (i < m) := by
  unfold initL
  by_cases c : i < m
  · rw [if_pos c, decide_eq_true c]; rfl
  · rw [if_neg c, decide_eq_false c]; rfl
theorem prim_all (B : List (List Int)) : (primL B).length = B.length ∧ (0 < B.length → rd (primL B) 0 = -1) ∧ ∀ s, s < B.length → s ≠ 0 → ∃ p : Nat, rd (primL B) (s : Int) = (p : Int) ∧ p < B.length ∧ p ≠ s ∧ meetN B s 0 ≤ meetN B s p ∧ (meetN B s 0 = meetN B s p → p = 0) := by
  have hno : ∀ s, ¬ inT (initL B.length) B.length s := fun s h => by
    have := init_some B.length s
    rw [h.2, decide_eq_true h.1] at this
    cases this
  have hI : PInv B (initL B.length) (List.replicate B.length (-1)) := ⟨by simp, fun i hi => by rw [init_some] at hi; exact of_decide_eq_true hi, fun i c t hi => (by
    refine .inl ⟨hno, ?_⟩
    unfold initL at hi
    split at hi
    · obtain ⟨rfl, rfl⟩ := Prod.mk.inj (Option.some.inj hi)
      exact ⟨rfl, rfl⟩
    · cases hi), fun ⟨s, hs⟩ => absurd hs (hno s), fun h => absurd h (hno 0), fun s hs => absurd hs (hno s)⟩
  have hc : cntL (initL B.length) B.length = B.length := by
    unfold cntL
    rw [List.countP_eq_length.2 (fun i hi => by rw [init_some]; exact decide_eq_true (List.mem_range.1 hi)), List.length_range]
  obtain ⟨L', h, hall⟩ := prim_inv B.length (initL B.length) 0 _ hI hc (by
    rcases Nat.eq_zero_or_pos B.length with h | h
    · exact .inl h
    · exact .inr ⟨Int.le_refl _, by rw [init_some]; exact decide_eq_true h⟩) (fun _ => rfl)
  exact ⟨h.len, fun h0 => h.top ⟨h0, hall 0 h0⟩, fun s hs hs0 => h.par_ s ⟨hs, hall s hs⟩ hs0⟩
theorem rst_join {n : Nat} {h : Nat → Nat → Bool} (hh : Sy n h) (left : Nat → Bool) (v : Nat) (hlv : left v = true) : goT (rst h left) v = rst (joinBd h (laterN n h left v)) (without left v) := by
  funext p q
  rw [Bool.eq_iff_iff, rst_iff, without_iff, without_iff]
  unfold goT joinBd
  simp only [Bool.and_eq_true, Bool.not_eq_true', decide_eq_false_iff_not, Bool.or_eq_true, rst_iff, decide_eq_true_eq, mem_laterN]
  constructor
  · rintro ⟨h1, h2, h3 | ⟨⟨a1, _, a2⟩, ⟨b1, _, b2⟩, h4⟩⟩
    · exact ⟨.inl h3.1, ⟨h3.2.1, Ne.symm h1⟩, h3.2.2, Ne.symm h2⟩
    · exact ⟨.inr ⟨⟨(hh.2.2 _ _ a1).2, a1, a2⟩, ⟨(hh.2.2 _ _ b1).2, b1, b2⟩, h4⟩, ⟨a2, Ne.symm h1⟩, b2, Ne.symm h2⟩
  · rintro ⟨h1 | ⟨⟨_, a1, a2⟩, ⟨_, b1, b2⟩, h4⟩, ⟨c1, c2⟩, d1, d2⟩
    · exact ⟨Ne.symm c2, Ne.symm d2, .inl ⟨h1, c1, d1⟩⟩
    · exact ⟨Ne.symm c2, Ne.symm d2, .inr ⟨⟨a1, hlv, a2⟩, ⟨b1, hlv, b2⟩, h4⟩⟩
theorem rbag_eq {n : Nat} {h : Nat → Nat → Bool} (hh : Sy n h) (left : Nat → Bool) (v : Nat) (hv : v < n) (hlv : left v = true) : uniteL (ofT n (rst h left v)) (withoutL [(v : Int)] (ofT n (rst h left v))) = bagT n h left v := by
  have hno : (v : Int) ∉ ofT n (rst h left v) := fun hx => by
    obtain ⟨k, hk, e, ek⟩ := mem_ofT.1 hx
    obtain rfl : v = k := by omega
    have := (rst_iff h left v v).1 e
    rw [hh.2.1] at this
    cases this.1
  have hw : withoutL [(v : Int)] (ofT n (rst h left v)) = [(v : Int)] := by
    unfold withoutL
    rw [List.filter_cons_of_pos (by simp [inB]; exact fun x hx e => hno (e ▸ hx))]
    rfl
  rw [hw]
  refine rise_eq _ _ (uniteL_rise _ _ (ofT_rise n _) (List.pairwise_singleton _ _) (fun x hx => by rw [List.mem_singleton.1 hx]; exact hno)) (ofT_rise n _) (fun x => ?_)
  rw [uniteL_mem, List.mem_singleton, mem_bagT, mem_ofT]
  constructor
  · rintro (⟨k, hk, e, rfl⟩ | rfl)
    · have := (rst_iff h left v k).1 e
      exact ⟨k, hk, rfl, .inr ⟨this.1, this.2.2⟩⟩
    · exact ⟨v, hv, rfl, .inl rfl⟩
  · rintro ⟨k, hk, rfl, rfl | e⟩
    · exact .inr rfl
    · exact .inl ⟨k, hk, (rst_iff h left v k).2 ⟨e.1, hlv, e.2⟩, rfl⟩
theorem rbags_l0 {n : Nat} (hn : n ≤ 40) (ln : List Nat) (hl : ∀ x ∈ ln, x < n) (hll : ln.length ≤ 1000) : ∀ (d i : Nat) (h : Nat → Nat → Bool) (left : Nat → Bool) (out : List (List Int)), i + d = ln.length → Sy n h → (∀ v ∈ ln.drop i, left v = true) → (ln.drop i).Nodup → out.length = i → Ev (fun k => arboristref10_Bags.l0 k (mat n (rst h left)) (gI ln) out (i : Int)) (out ++ (fillB n (ln.drop i) h left).1)
  | 0, i, h, left, out, hd, _, _, _, ho => by
    rw [List.drop_eq_nil_of_le (show ln.length ≤ i by omega)]
    refine evs0 (fun k => ?_)
    rw [arboristref10_Bags.l0, if_neg (by rw [gI_len]; omega)]
    exact congrArg some (List.append_nil out).symm
  | d + 1, i, h, left, out, hd, hh, hv, hnd, ho => by
    have hi : i < ln.length := by omega
    have hdr := List.drop_eq_getElem_cons hi
    rw [hdr] at hv hnd
    have hvn : ln[i] < n := hl _ (List.getElem_mem hi)
    have hlv := hv ln[i] List.mem_cons_self
    have e1 := neigh9 n (by omega) (rst h left) ln[i] hvn
    have e2 := Unite_ev (gI (nbN n (rst h left) ln[i])) [((ln[i] : Nat) : Int)] (by have := nbN_len n (rst h left) ln[i]; rw [gI_len]; simp; omega)
    rw [← ofT_nbN, rbag_eq hh left ln[i] hvn hlv, ofT_nbN] at e2
    have e3 := go_ev n (by omega) (rst h left) (hh.rst left) ln[i] hvn
    rw [rst_join hh left ln[i] hlv] at e3
    have e4 := rbags_l0 hn ln hl hll d (i + 1) (joinBd h (laterN n h left ln[i])) (without left ln[i]) (out ++ [bagT n h left ln[i]]) (by omega) (joinBd_sy hh (fun x hx => (mem_laterN.1 hx).1)) (fun v hv' => (without_iff _ _ _).2 ⟨hv v (List.mem_cons_of_mem _ hv'), fun e => (List.nodup_cons.1 hnd).1 (e ▸ hv')⟩) (List.nodup_cons.1 hnd).2 (by simp [ho])
    have hr : out ++ (fillB n (ln.drop i) h left).1 = (out ++ [bagT n h left ln[i]]) ++ (fillB n (ln.drop (i + 1)) (joinBd h (laterN n h left ln[i])) (without left ln[i])).1 := by
      rw [hdr, List.append_assoc]
      rfl
    rw [hr]
    refine evs4 e1 e2 e3 e4 (fun k p1 p2 p3 p4 => ?_)
    rw [arboristref10_Bags.l0, if_pos (by rw [gI_len]; omega), if_pos (by omega), gI_rd, wAt_get ln i hi, p1, Option.bind_some, p2, Option.bind_some, if_pos (by omega), p3, Option.bind_some, wrap_nat i (by omega)]
    exact p4
theorem rbags_ev {n : Nat} (hn : n ≤ 40) {F : Nat → Nat → Bool} (hF : Sy n F) {ln : List Nat} (ho : (gI ln).Perm (idI n)) (hd : ln.Nodup) (hl : ∀ x ∈ ln, x < n) : Ev (fun k => arboristref10_Bags.f k (mat n F) (gI ln)) (fillB n ln F allL).1 := by
  have e := rbags_l0 hn ln hl (by have := ho.length_eq; rw [gI_len, idI_len] at this; omega) ln.length 0 F allL [] (by omega) hF (fun _ _ => rfl) (by rw [List.drop_zero]; exact hd) rfl
  rw [show rst F allL = F from rst_all F, List.drop_zero, List.nil_append] at e
  refine evu2 (copy_ev n (by omega) F) e (fun k p1 p2 => ?_)
  rw [arboristref10_Bags.f, p1, Option.bind_some]
  exact p2
def mostR : List (List Int) → Nat
  | [] => 0
  | b :: B => max b.length (mostR B)
theorem rwidth_l0 (B : List (List Int)) (hB : B.length ≤ 1000) : ∀ (d i c : Nat), i + d = B.length → Ev (fun k => arboristref10_Width.l0 k (c : Int) B (i : Int)) (wrap64 (((max c (mostR (B.drop i)) : Nat) : Int) - 1))
  | 0, i, c, h => evs0 (fun k => by
      rw [arboristref10_Width.l0, if_neg (by omega), List.drop_eq_nil_of_le (by omega), show max c (mostR []) = c from Nat.max_eq_left (Nat.zero_le _)])
  | d + 1, i, c, h => by
    have hi : i < B.length := by omega
    have hm : mx (c : Int) ((B[i].length : Nat) : Int) = ((max c B[i].length : Nat) : Int) := by unfold mx; split <;> omega
    have hmx : max c (mostR (B.drop i)) = max (max c B[i].length) (mostR (B.drop (i + 1))) := by
      rw [List.drop_eq_getElem_cons hi]
      show max c (max _ _) = _
      omega
    have hrd : rd_L1 B (i : Int) = B[i] := by
      unfold rd_L1
      rw [Int.toNat_natCast]
      simp [hi]
    rw [hmx]
    refine evp (rwidth_l0 B hB d (i + 1) (max c B[i].length) (by omega)) (fun k e => ?_)
    rw [arboristref10_Width.l0, if_pos (by omega), if_pos (by omega), hrd, hm, wrap_nat i (by omega)]
    exact e
theorem rwidth_ev {n : Nat} (hn : n ≤ 40) {F : Nat → Nat → Bool} (hF : Sy n F) {ln : List Nat} (ho : (gI ln).Perm (idI n)) (hd : ln.Nodup) (hl : ∀ x ∈ ln, x < n) (hlen : (fillB n ln F allL).1.length ≤ 1000) : Ev (fun k => arboristref10_Width.f k (mat n F) (gI ln)) (wrap64 (((mostR (fillB n ln F allL).1 : Nat) : Int) - 1)) := by
  have e1 := rwidth_l0 (fillB n ln F allL).1 hlen (fillB n ln F allL).1.length 0 0 (by omega)
  rw [List.drop_zero, Nat.zero_max] at e1
  refine evu2 (rbags_ev hn hF ho hd hl) e1 (fun k p1 p2 => ?_)
  rw [arboristref10_Width.f, p1, Option.bind_some]
  exact p2
theorem fillB_gI {n : Nat} : ∀ (l : List Nat) (h : Nat → Nat → Bool) (left : Nat → Bool), ∀ b ∈ (fillB n l h left).1, ∃ bn : List Nat, b = gI bn ∧ bn.Nodup ∧ (∀ x ∈ bn, x < n) ∧ bn.length ≤ n
  | [], _, _, b, hb => by cases hb
  | v :: l, h, left, b, hb => by
    rcases List.mem_cons.1 (show b ∈ bagT n h left v :: (fillB n l (joinBd h (laterN n h left v)) (without left v)).1 from hb) with rfl | hb
    · refine ⟨(List.range n).filter fun k => decide (k = v) || (h v k && left k), rfl, List.nodup_range.sublist List.filter_sublist, fun x hx => List.mem_range.1 (List.mem_filter.1 hx).1, ?_⟩
      exact Nat.le_trans (List.length_filter_le _ _) (by simp)
    · exact fillB_gI l _ _ b hb
section
variable {n : Nat} (hn : n ≤ 40) (B : List (List Int)) (hB : B.length ≤ 1000)
include hn hB
end
theorem in_iff (l : List Int) (v : Int) : inB l v = true ↔ v ∈ l := by simp [inB]
def valL (L : Nat → Option (Int × Int)) (b : Int) : Int := ((L b.toNat).getD (0, 0)).1
theorem stepB_val {L : Nat → Option (Int × Int)} {i : Nat} {b : Int} : (∀ l, L i = some l → l.1 ≤ valL L (stepB L i b) ∧ okL L (stepB L i b) ∨ b ≠ -1 ∧ stepB L i b = b ∧ l.1 ≤ valL L b) ∧ (b = -1 ∨ valL L b ≤ valL L (stepB L i b)) ∧ (stepB L i b = b ∨ okL L (stepB L i b)) := by
  unfold stepB
  cases hi : L i with
  | none => exact ⟨fun l h => (by cases h), .inr (Int.le_refl _), .inl rfl⟩
  | some l =>
    have hv : valL L (i : Int) = l.1 := by unfold valL; rw [Int.toNat_natCast, hi]; rfl
    have hk : okL L (i : Int) := ⟨by omega, by rw [Int.toNat_natCast, hi]; rfl⟩
    show (∀ l', some l = some l' → _) ∧ _
    by_cases c : b = -1 ∨ l.1 > ((L b.toNat).getD (0, 0)).1
    · simp only [if_pos c]
      refine ⟨fun l' h => ?_, ?_, .inr hk⟩
      · obtain rfl := Option.some.inj h
        exact .inl ⟨by omega, hk⟩
      · rcases c with c | c
        · exact .inl c
        · exact .inr (by rw [hv]; unfold valL; omega)
    · simp only [if_neg c]
      refine ⟨fun l' h => ?_, .inr (Int.le_refl _), .inl trivial⟩
      obtain rfl := Option.some.inj h
      refine .inr ⟨fun e => c (.inl e), trivial, ?_⟩
      have : ¬ l.1 > ((L b.toNat).getD (0, 0)).1 := fun e => c (.inr e)
      unfold valL
      omega
theorem bestGo_max {L : Nat → Option (Int × Int)} : ∀ (d i : Nat) (b : Int), (∀ j, i ≤ j → j < i + d → ∀ l, L j = some l → l.1 ≤ valL L (bestGo L d i b)) ∧ (b = -1 ∨ valL L b ≤ valL L (bestGo L d i b))
  | 0, i, b => ⟨fun j h1 h2 => by omega, .inr (Int.le_refl _)⟩
  | d + 1, i, b => by
    obtain ⟨h1, h2, h3⟩ := stepB_val (L := L) (i := i) (b := b)
    obtain ⟨i1, i2⟩ := bestGo_max (L := L) d (i + 1) (stepB L i b)
    rw [bestGo_step]
    refine ⟨fun j q1 q2 l hl => ?_, ?_⟩
    · by_cases c : j = i
      · subst c
        rcases h1 l hl with ⟨a1, a2⟩ | ⟨a1, a2, a3⟩
        · rcases i2 with e | e
          · have := a2.1; omega
          · omega
        · rcases i2 with e | e
          · rw [a2] at e; exact absurd e a1
          · rw [a2] at e ⊢; omega
      · exact i1 j (by omega) (by omega) l hl
    · rcases h2 with e | e
      · exact .inl e
      · rcases i2 with e2 | e2
        · rcases h3 with e3 | e3
          · exact .inl (by omega)
          · have := e3.1; omega
        · exact .inr (by omega)
structure RInv (B : List (List Int)) (L : Nat → Option (Int × Int)) (par : List Int) (rk : Nat → Nat) (t : Nat) : Prop where
  base : PInv B L par
  cnt : cntL L B.length + t = B.length
  emp : (∀ s, ¬ inT L B.length s) → t = 0
  lt : ∀ s, inT L B.length s → rk s < t
  inj : ∀ s s', inT L B.length s → inT L B.length s' → rk s = rk s' → s = s'
  zero : inT L B.length 0 → rk 0 = 0
  par_ : ∀ s, inT L B.length s → s ≠ 0 → ∃ p : Nat, rd par (s : Int) = (p : Int) ∧ inT L B.length p ∧ rk p < rk s ∧ ∀ x y, inT L B.length x → rk x < rk s → y < B.length → (inT L B.length y → rk s ≤ rk y) → meetN B y x ≤ meetN B s p
theorem inT_comes {B : List (List Int)} {k : Nat} {L : Nat → Option (Int × Int)} (hk : k < B.length) (s : Nat) : inT (comesL B k L) B.length s ↔ s = k ∨ inT L B.length s := by
  unfold inT
  rw [comes_none]
  constructor
  · rintro ⟨h1, rfl | h2⟩
    · exact .inl rfl
    · exact .inr ⟨h1, h2⟩
  · rintro (rfl | ⟨h1, h2⟩)
    · exact ⟨hk, .inl rfl⟩
    · exact ⟨h1, .inr h2⟩
theorem rank_step {B : List (List Int)} {L : Nat → Option (Int × Int)} {par : List Int} {rk : Nat → Nat} {t : Nat} (h : RInv B L par rk t) {k : Nat} {c u : Int} (hk : L k = some (c, u)) (h0 : (∀ s, ¬ inT L B.length s) → k = 0) (hbest : ∀ i l, L i = some l → l.1 ≤ c) :
    RInv B (comesL B k L) (par.set k u) (fun s => if s = k then t else rk s) (t + 1) := by
  have hkm := h.base.dom k (by rw [hk]; rfl)
  have hin := inT_comes (B := B) (L := L) hkm
  have hkn : ¬ inT L B.length k := fun e => by rw [e.2] at hk; cases hk
  have hne : ∀ s, inT L B.length s → s ≠ k := fun s hs e => hkn (e ▸ hs)
  have hcc := cnt_comes (B := B) (k := k) (L := L) (by rw [hk]; rfl) B.length
  rw [if_pos hkm] at hcc
  have hcnt := h.cnt
  have hlen := h.base.len
  refine ⟨prim_step h.base hk h0, by omega, fun hno => absurd ((hin k).2 (.inl rfl)) (hno k), fun s hs => ?_, fun s s' hs hs' e => ?_, fun hs => ?_, fun s hs hs0 => ?_⟩
  · show (if s = k then t else rk s) < t + 1
    rcases (hin s).1 hs with rfl | hs
    · rw [if_pos rfl]; omega
    · rw [if_neg (hne s hs)]; have := h.lt s hs; omega
  · have e : (if s = k then t else rk s) = (if s' = k then t else rk s') := e
    rcases (hin s).1 hs with e1 | h1 <;> rcases (hin s').1 hs' with e2 | h2
    · rw [e1, e2]
    · rw [if_pos e1, if_neg (hne s' h2)] at e; have := h.lt s' h2; omega
    · rw [if_pos e2, if_neg (hne s h1)] at e; have := h.lt s h1; omega
    · rw [if_neg (hne s h1), if_neg (hne s' h2)] at e; exact h.inj s s' h1 h2 e
  · show (if 0 = k then t else rk 0) = 0
    rcases (hin 0).1 hs with e | hs
    · rw [if_pos e]
      refine h.emp (fun s hs' => ?_)
      have := h.base.root ⟨s, hs'⟩
      rw [e] at this
      exact hkn this
    · rw [if_neg (hne 0 hs)]; exact h.zero hs
  · rcases (hin s).1 hs with rfl | hs
    · rcases h.base.lnk s c u hk with ⟨hno, _, _⟩ | ⟨p, rfl, hp, hc, hmax⟩
      · exact absurd (h0 hno) hs0
      · refine ⟨p, by rw [rd_set par s s _ (by omega), if_pos rfl], (hin p).2 (.inr hp), ?_, fun x y hx hxr hy hyr => ?_⟩
        · show (if p = s then t else rk p) < (if s = s then t else rk s)
          rw [if_pos rfl, if_neg (hne p hp)]; exact h.lt p hp
        · have hxr : (if x = s then t else rk x) < (if s = s then t else rk s) := hxr
          have hyr : inT (comesL B s L) B.length y → (if s = s then t else rk s) ≤ (if y = s then t else rk y) := hyr
          rw [if_pos rfl] at hxr hyr
          have hx2 : inT L B.length x := by
            rcases (hin x).1 hx with rfl | hx
            · rw [if_pos rfl] at hxr; omega
            · exact hx
          have hyn : L y ≠ none := fun e => by
            have hy2 : inT L B.length y := ⟨hy, e⟩
            have := hyr ((hin y).2 (.inr hy2))
            rw [if_neg (hne y hy2)] at this
            have := h.lt y hy2
            omega
          cases e : L y with
          | none => exact absurd e hyn
          | some q =>
            obtain ⟨c', u'⟩ := q
            have hb := hbest y _ e
            rcases h.base.lnk y c' u' e with ⟨hno, _⟩ | ⟨p', _, _, _, hmax'⟩
            · exact absurd hp (hno p)
            · have := (hmax' x hx2).1
              have hb : c' ≤ c := hb
              omega
    · obtain ⟨p, h1, h2, h3, h4⟩ := h.par_ s hs hs0
      refine ⟨p, by rw [rd_set par k s _ (by have := hs.1; omega), if_neg (fun e => hne s hs e.symm)]; exact h1, (hin p).2 (.inr h2), ?_, fun x y hx hxr hy hyr => ?_⟩
      · show (if p = k then t else rk p) < (if s = k then t else rk s)
        rw [if_neg (hne p h2), if_neg (hne s hs)]; exact h3
      · have hxr : (if x = k then t else rk x) < (if s = k then t else rk s) := hxr
        have hyr : inT (comesL B k L) B.length y → (if s = k then t else rk s) ≤ (if y = k then t else rk y) := hyr
        rw [if_neg (hne s hs)] at hxr hyr
        have hst := h.lt s hs
        have hx2 : inT L B.length x := by
          rcases (hin x).1 hx with rfl | hx
          · rw [if_pos rfl] at hxr; omega
          · exact hx
        rw [if_neg (hne x hx2)] at hxr
        exact h4 x y hx2 hxr hy (fun hy2 => by
          have := hyr ((hin y).2 (.inr hy2))
          rw [if_neg (hne y hy2)] at this
          exact this)
theorem rank_run {B : List (List Int)} : ∀ (d : Nat) (L : Nat → Option (Int × Int)) (nx : Int) (par : List Int) (rk : Nat → Nat) (t : Nat), RInv B L par rk t → cntL L B.length = d → (d = 0 ∨ (okL L nx ∧ ∀ i l, L i = some l → l.1 ≤ valL L nx)) → ((∀ s, ¬ inT L B.length s) → nx = 0) →
    ∃ L' rk', RInv B L' (primGo B d L nx par) rk' B.length ∧ ∀ s, s < B.length → L' s = none
  | 0, L, nx, par, rk, t, h, hc, _, _ => by
    have ht : t = B.length := by have := h.cnt; omega
    subst ht
    exact ⟨L, rk, h, fun s hs => by
      cases e : L s with
      | none => rfl
      | some p =>
        have : (L s).isSome = false := by
          have := List.countP_eq_zero.1 hc s (List.mem_range.2 hs)
          simpa using this
        rw [e] at this
        cases this⟩
  | d + 1, L, nx, par, rk, t, h, hc, hx, h0 => by
    obtain ⟨⟨hx0, hx1⟩, hmx⟩ := hx.resolve_left (by omega)
    obtain ⟨k, rfl⟩ := Int.eq_ofNat_of_zero_le hx0
    rw [Int.toNat_natCast] at hx1
    obtain ⟨⟨c, t'⟩, hk⟩ := Option.isSome_iff_exists.1 hx1
    have hv : valL L (k : Int) = c := by unfold valL; rw [Int.toNat_natCast, hk]; rfl
    rw [hv] at hmx
    have hs := rank_step h hk (fun hno => by have := h0 hno; omega) hmx
    have hcc := cnt_comes (B := B) hx1 B.length
    rw [if_pos (h.base.dom k hx1)] at hcc
    have hkin : inT (comesL B k L) B.length k := ⟨h.base.dom k hx1, comes_none.2 (.inl rfl)⟩
    rw [primGo, Int.toNat_natCast, hk]
    refine rank_run d _ _ _ _ _ hs (by omega) ?_ (fun hno => absurd hkin (hno k))
    rcases Nat.eq_zero_or_pos d with h1 | h1
    · exact .inl h1
    · obtain ⟨j, hj, hj2⟩ := cnt_pos (L := comesL B k L) (m := B.length) (by omega)
      refine .inr ⟨bestGo_ok B.length 0 (-1) (.inr ⟨rfl, j, Nat.zero_le _, by omega, hj2⟩), fun i l hl => ?_⟩
      exact (bestGo_max B.length 0 (-1)).1 i (Nat.zero_le _) (by have := hs.base.dom i (by rw [hl]; rfl); omega) l hl
theorem prim_rank (B : List (List Int)) : ∃ rk : Nat → Nat, (∀ s, s < B.length → rk s < B.length) ∧ (∀ s s', s < B.length → s' < B.length → rk s = rk s' → s = s') ∧ (0 < B.length → rk 0 = 0) ∧
    ∀ s, s < B.length → s ≠ 0 → ∃ p : Nat, rd (primL B) (s : Int) = (p : Int) ∧ p < B.length ∧ rk p < rk s ∧ ∀ x y, x < B.length → y < B.length → rk x < rk s → rk s ≤ rk y → meetN B y x ≤ meetN B s p := by
  have hno : ∀ s, ¬ inT (initL B.length) B.length s := fun s h => by
    have := init_some B.length s
    rw [h.2, decide_eq_true h.1] at this
    cases this
  have hI : PInv B (initL B.length) (List.replicate B.length (-1)) := ⟨by simp, fun i hi => by rw [init_some] at hi; exact of_decide_eq_true hi, fun i c t hi => (by
    refine .inl ⟨hno, ?_⟩
    unfold initL at hi
    split at hi
    · obtain ⟨rfl, rfl⟩ := Prod.mk.inj (Option.some.inj hi)
      exact ⟨rfl, rfl⟩
    · cases hi), fun ⟨s, hs⟩ => absurd hs (hno s), fun h => absurd h (hno 0), fun s hs => absurd hs (hno s)⟩
  have hc : cntL (initL B.length) B.length = B.length := by
    unfold cntL
    rw [List.countP_eq_length.2 (fun i hi => by rw [init_some]; exact decide_eq_true (List.mem_range.1 hi)), List.length_range]
  have hR : RInv B (initL B.length) (List.replicate B.length (-1)) (fun _ => 0) 0 := ⟨hI, by omega, fun _ => rfl, fun s hs => absurd hs (hno s), fun s _ hs => absurd hs (hno s), fun _ => rfl, fun s hs => absurd hs (hno s)⟩
  obtain ⟨L', rk, h, hall⟩ := rank_run B.length (initL B.length) 0 _ _ _ hR hc (by
    rcases Nat.eq_zero_or_pos B.length with h | h
    · exact .inl h
    · refine .inr ⟨⟨Int.le_refl _, by rw [init_some]; exact decide_eq_true h⟩, fun i l hl => ?_⟩
      have e0 : valL (initL B.length) 0 = -1 := by
        unfold valL initL
        rw [show (0 : Int).toNat = 0 from rfl, if_pos h]
        rfl
      rw [e0]
      unfold initL at hl
      split at hl
      · rw [← Option.some.inj hl]; exact Int.le_refl _
      · cases hl) (fun _ => rfl)
  have hin : ∀ s, s < B.length → inT L' B.length s := fun s hs => ⟨hs, hall s hs⟩
  refine ⟨rk, fun s hs => h.lt s (hin s hs), fun s s' hs hs' => h.inj s s' (hin s hs) (hin s' hs'), fun h0 => h.zero (hin 0 h0), fun s hs hs0 => ?_⟩
  obtain ⟨p, h1, h2, h3, h4⟩ := h.par_ s (hin s hs) hs0
  exact ⟨p, h1, h2.1, h3, fun x y hx hy hxr hyr => h4 x y (hin x hx) hxr hy (fun _ => hyr)⟩
theorem sum_le : ∀ (l : List Nat) (f g : Nat → Nat), (∀ k ∈ l, f k ≤ g k) → (l.map f).sum ≤ (l.map g).sum
  | [], _, _, _ => Nat.le_refl _
  | x :: l, f, g, h => by
    have h1 := sum_le l f g (fun k hk => h k (List.mem_cons_of_mem _ hk))
    have h2 := h x List.mem_cons_self
    rw [List.map_cons, List.map_cons, List.sum_cons, List.sum_cons]
    omega
theorem sum_swap (l : List Nat) (P : Nat → Nat → Bool) : ∀ (S : List Nat), (l.map fun v => S.countP fun s => P v s).sum = (S.map fun s => l.countP fun v => P v s).sum
  | [] => by
    rw [List.map_nil, List.sum_nil]
    induction l with
    | nil => rfl
    | cons x l ih => rw [List.map_cons, List.sum_cons, ih]; rfl
  | s :: S => by
    rw [List.map_cons, List.sum_cons, ← sum_swap l P S, ← sum_if l (fun v => P v s), ← sum_add]
    congr 1
    refine List.map_congr_left (fun v _ => ?_)
    rw [List.countP_cons]
    omega
theorem cnt_low (v : Nat) : ∀ M, (List.range M).countP (fun k => decide (v < k + 1)) = M - v
  | 0 => by simp
  | M + 1 => by
    rw [List.range_succ, List.countP_append, cnt_low v M, List.countP_singleton]
    by_cases c : v < M + 1
    · rw [decide_eq_true c, if_pos rfl]; omega
    · rw [decide_eq_false c, if_neg (by decide)]; omega
theorem cnt_at (v : Nat) : ∀ M, (List.range M).countP (fun k => decide (v = k + 1)) ≤ 1 ∧ (M < v → (List.range M).countP (fun k => decide (v = k + 1)) = 0)
  | 0 => by simp
  | M + 1 => by
    obtain ⟨h1, h2⟩ := cnt_at v M
    rw [List.range_succ, List.countP_append, List.countP_singleton]
    by_cases c : v = M + 1
    · rw [decide_eq_true c, if_pos rfl, h2 (by omega)]; omega
    · rw [decide_eq_false c, if_neg (by decide)]
      exact ⟨by omega, fun h => by rw [h2 (by omega)]⟩
theorem sum_ones {T : Nat → Nat} : ∀ n, (∀ v, v < n → 1 ≤ T v) → n ≤ ((List.range n).map T).sum
  | 0, _ => Nat.zero_le _
  | n + 1, h => by
    have h1 := sum_ones n (fun v hv => h v (by omega))
    have h2 := h n (by omega)
    rw [List.range_succ, List.map_append, List.sum_append, List.map_cons, List.map_nil, List.sum_cons, List.sum_nil]
    omega
theorem all_one {T : Nat → Nat} : ∀ n, (∀ v, v < n → 1 ≤ T v) → ((List.range n).map T).sum ≤ n → ∀ v, v < n → T v = 1
  | 0, _, _, v, hv => by omega
  | n + 1, h, hs, v, hv => by
    have h1 := sum_ones n (fun v hv => h v (by omega))
    have h2 := h n (by omega)
    rw [List.range_succ, List.map_append, List.sum_append, List.map_cons, List.map_nil, List.sum_cons, List.sum_nil] at hs
    by_cases c : v = n
    · subst c; omega
    · exact all_one n (fun v hv => h v (by omega)) (by omega) v (by omega)
theorem cnt_inj {N n : Nat} {p q : Nat → Bool} (f : Nat → Nat) (h1 : ∀ s, s < N → p s = true → f s < n ∧ q (f s) = true) (h2 : ∀ s s', s < N → s' < N → p s = true → p s' = true → f s = f s' → s = s') : (List.range N).countP p ≤ (List.range n).countP q := by
  rw [List.countP_eq_length_filter, List.countP_eq_length_filter]
  have hn : (((List.range N).filter p).map fun s => ((f s : Nat) : Int)).Nodup := by
    refine List.pairwise_map.2 (List.Pairwise.imp_of_mem (fun {a b} ha hb hab => ?_) (List.Nodup.sublist List.filter_sublist (List.nodup_range (n := N))))
    intro e
    obtain ⟨a1, a2⟩ := List.mem_filter.1 ha
    obtain ⟨b1, b2⟩ := List.mem_filter.1 hb
    exact hab (h2 a b (List.mem_range.1 a1) (List.mem_range.1 b1) a2 b2 (by omega))
  have := sub_len (l := ((List.range n).filter q).map fun (s : Nat) => (s : Int)) hn (fun x hx => by
    obtain ⟨s, hs, rfl⟩ := List.mem_map.1 hx
    obtain ⟨a1, a2⟩ := List.mem_filter.1 hs
    obtain ⟨b1, b2⟩ := h1 s (List.mem_range.1 a1) a2
    exact List.mem_map.2 ⟨f s, List.mem_filter.2 ⟨List.mem_range.2 b1, b2⟩, rfl⟩)
  rw [List.length_map, List.length_map] at this
  exact this
theorem cnt_bag {n : Nat} {b : List Int} (hd : b.Nodup) (hin : ∀ x ∈ b, ∃ k : Nat, k < n ∧ x = (k : Int)) (g : Int → Bool) : (List.range n).countP (fun (v : Nat) => inB b (v : Int) && g (v : Int)) = (b.filter g).length := by
  have hp : (((List.range n).filter fun (v : Nat) => inB b (v : Int) && g (v : Int)).map fun (v : Nat) => (v : Int)).Perm (b.filter g) := by
    refine (List.perm_ext_iff_of_nodup ?_ (List.Nodup.sublist List.filter_sublist hd)).2 (fun x => ?_)
    · refine List.pairwise_map.2 ((List.Nodup.sublist List.filter_sublist (List.nodup_range (n := n))).imp (fun {a b} hab e => hab (by omega)))
    · constructor
      · intro hx
        obtain ⟨v, hv, rfl⟩ := List.mem_map.1 hx
        have h2 := (List.mem_filter.1 hv).2
        rw [Bool.and_eq_true, in_iff] at h2
        exact List.mem_filter.2 h2
      · intro hx
        obtain ⟨h1, h2⟩ := List.mem_filter.1 hx
        obtain ⟨k, hk, rfl⟩ := hin x h1
        exact List.mem_map.2 ⟨k, List.mem_filter.2 ⟨List.mem_range.2 hk, by rw [Bool.and_eq_true, in_iff]; exact ⟨h1, h2⟩⟩, rfl⟩
  rw [List.countP_eq_length_filter, ← hp.length_eq, List.length_map]
def bg (B : List (List Int)) (s : Nat) : List Int := B.getD s []
theorem bg_get {B : List (List Int)} {s : Nat} (h : s < B.length) : bg B s = B[s] := by unfold bg; rw [List.getD_eq_getElem?_getD, List.getElem?_eq_getElem h]; rfl
theorem bg_mem {B : List (List Int)} {s : Nat} (h : s < B.length) : bg B s ∈ B := by rw [bg_get h]; exact List.getElem_mem h
theorem mem_bg {B : List (List Int)} {b : List Int} (h : b ∈ B) : ∃ s, s < B.length ∧ bg B s = b := by
  obtain ⟨s, hs, e⟩ := List.getElem_of_mem h
  exact ⟨s, hs, by rw [bg_get hs]; exact e⟩
theorem meet_ge {B : List (List Int)} (hr : ∀ b ∈ B, b.Pairwise (· < ·)) {i k : Nat} (hi : i < B.length) (hk : k < B.length) {S : List Int} (hd : S.Nodup) (h1 : ∀ x ∈ S, x ∈ bg B i) (h2 : ∀ x ∈ S, x ∈ bg B k) : (S.length : Int) ≤ meetN B i k := by
  rw [meetN_eq B hr hi hk]
  have := sub_len (l := meetL B[i] B[k]) hd (fun x hx => List.mem_filter.2 ⟨by rw [← bg_get hi]; exact h1 x hx, (in_iff _ _).2 (by rw [← bg_get hk]; exact h2 x hx)⟩)
  omega
theorem nd_of_rise {b : List Int} (h : b.Pairwise (· < ·)) : b.Nodup := h.imp (fun {a b} hab e => by omega)
theorem but_one {b : List Int} (hd : b.Nodup) (v : Int) : b.length ≤ (b.filter fun x => decide (x ≠ v)).length + 1 := by
  have := sub_len (l := v :: b.filter fun x => decide (x ≠ v)) hd (fun x hx => by
    by_cases c : x = v
    · rw [c]; exact List.mem_cons_self
    · exact List.mem_cons_of_mem _ (List.mem_filter.2 ⟨hx, decide_eq_true c⟩))
  rw [List.length_cons] at this
  exact this
def cls (N w : Nat) (rk mS : Nat → Nat) (i : Nat) : Nat := (List.range N).countP fun s => decide (mS s < w) && decide (rk s ≤ rk i)
theorem top_max (left : Nat → Bool) : ∀ n, (∃ k, k < n ∧ left k = true) → ∃ m, m < n ∧ left m = true ∧ ∀ k, k < n → left k = true → k ≤ m
  | 0, ⟨k, h, _⟩ => by omega
  | n + 1, ⟨k, hk, hl⟩ => by
    cases h : left n with
    | true => exact ⟨n, by omega, h, fun k hk _ => by omega⟩
    | false =>
      have hkn : k ≠ n := fun e => by rw [e, h] at hl; cases hl
      obtain ⟨m, h1, h2, h3⟩ := top_max left n ⟨k, by omega, hl⟩
      refine ⟨m, by omega, h2, fun j hj hlj => h3 j ?_ hlj⟩
      have : j ≠ n := fun e => by rw [e, h] at hlj; cases hlj
      omega
theorem cls_same {B : List (List Int)} {rk mS : Nat → Nat} {w : Nat} (hr0 : 0 < B.length → rk 0 = 0) (hlow : ∀ s x y, s < B.length → s ≠ 0 → x < B.length → y < B.length → rk x < rk s → rk s ≤ rk y → meetN B y x ≤ (mS s : Int)) {i j : Nat} (hi : i < B.length) (hj : j < B.length) (h1 : (w : Int) ≤ meetN B i j) (h2 : (w : Int) ≤ meetN B j i) : cls B.length w rk mS i = cls B.length w rk mS j := by
  have key : ∀ i j s, i < B.length → j < B.length → s < B.length → (w : Int) ≤ meetN B j i → mS s < w → rk s ≤ rk j → rk s ≤ rk i := fun i j s hi hj hs hm hlo hle => by
    apply Classical.byContradiction
    intro hn
    have hs0 : s ≠ 0 := fun e => by rw [e, hr0 (by omega)] at hn; omega
    have := hlow s i j hs hs0 hi hj (by omega) hle
    omega
  unfold cls
  refine List.countP_congr (fun s hs => ?_)
  have hs := List.mem_range.1 hs
  simp only [Bool.and_eq_true, decide_eq_true_eq]
  exact ⟨fun ⟨a, b⟩ => ⟨a, key j i s hj hi hs h1 a b⟩, fun ⟨a, b⟩ => ⟨a, key i j s hi hj hs h2 a b⟩⟩
theorem cls_lt {N w : Nat} {rk mS : Nat → Nat} {s s' : Nat} (hs' : s' < N) (hlo : mS s' < w) (h : rk s < rk s') : cls N w rk mS s < cls N w rk mS s' := by
  unfold cls
  refine countP_lt (fun x _ hx => ?_) (z := s') (List.mem_range.2 hs') ?_ ?_
  · simp only [Bool.and_eq_true, decide_eq_true_eq] at hx ⊢
    omega
  · simp only [Bool.and_eq_true, decide_eq_true_eq]
    omega
  · simp only [Bool.and_eq_false_iff, decide_eq_false_iff_not]
    omega
theorem low_count {A B : List (List Int)} (hrA : ∀ b ∈ A, b.Pairwise (· < ·)) (hsub : ∀ b ∈ B, b ∈ A) (hcov : ∀ b ∈ A, ∃ c ∈ B, ∀ x ∈ b, x ∈ c) (hnext : ∀ j, j < A.length → 2 ≤ (bg A j).length → ∃ j' v, j < j' ∧ j' < A.length ∧ ∀ x ∈ bg A j, x ≠ v → x ∈ bg A j')
    {rk mS : Nat → Nat} (hr0 : 0 < B.length → rk 0 = 0) (hinj : ∀ s s', s < B.length → s' < B.length → rk s = rk s' → s = s') (hlow : ∀ s x y, s < B.length → s ≠ 0 → x < B.length → y < B.length → rk x < rk s → rk s ≤ rk y → meetN B y x ≤ (mS s : Int)) (w : Nat) (hw : 1 ≤ w) :
    (List.range B.length).countP (fun s => decide (mS s < w)) ≤ (List.range B.length).countP (fun s => decide ((bg B s).length < w)) + (List.range A.length).countP (fun j => decide ((bg A j).length = w)) := by
  have hrB : ∀ b ∈ B, b.Pairwise (· < ·) := fun b hb => hrA b (hsub b hb)
  have hown : ∀ j, ∃ o, j < A.length → o < B.length ∧ ∀ x ∈ bg A j, x ∈ bg B o := fun j => by
    by_cases hj : j < A.length
    · obtain ⟨c, hc, hx⟩ := hcov _ (bg_mem hj)
      obtain ⟨o, ho, rfl⟩ := mem_bg hc
      exact ⟨o, fun _ => ⟨ho, hx⟩⟩
    · exact ⟨0, fun h => absurd h hj⟩
  obtain ⟨own, hown⟩ := Classical.axiomOfChoice hown
  have hsame : ∀ i j, i < B.length → j < B.length → ∀ S : List Int, S.Nodup → w ≤ S.length → (∀ x ∈ S, x ∈ bg B i) → (∀ x ∈ S, x ∈ bg B j) → cls B.length w rk mS i = cls B.length w rk mS j := fun i j hi hj S hS hl h1 h2 => by
    have a1 := meet_ge hrB hi hj hS h1 h2
    have a2 := meet_ge hrB hj hi hS h2 h1
    exact cls_same hr0 hlow hi hj (by omega) (by omega)
  have hch : ∀ s, ∃ j, s < B.length → w ≤ (bg B s).length → j < A.length ∧ (bg A j).length = w ∧ cls B.length w rk mS (own j) = cls B.length w rk mS s := fun s => by
    by_cases hs : s < B.length
    · by_cases hl : w ≤ (bg B s).length
      · obtain ⟨j0, hj0, e0⟩ := mem_bg (hsub _ (bg_mem hs))
        obtain ⟨o1, o2⟩ := hown j0 hj0
        have c0 := hsame (own j0) s o1 hs (bg A j0) (nd_of_rise (hrA _ (bg_mem hj0))) (by rw [e0]; exact hl) o2 (fun x hx => by rw [e0] at hx; exact hx)
        obtain ⟨j, hj, hlj, hmax⟩ := top_max (fun j => decide (w ≤ (bg A j).length) && decide (cls B.length w rk mS (own j) = cls B.length w rk mS s)) A.length ⟨j0, hj0, by rw [Bool.and_eq_true, decide_eq_true_eq, decide_eq_true_eq]; exact ⟨by rw [e0]; exact hl, c0⟩⟩
        rw [Bool.and_eq_true, decide_eq_true_eq, decide_eq_true_eq] at hlj
        refine ⟨j, fun _ _ => ⟨hj, ?_, hlj.2⟩⟩
        apply Classical.byContradiction
        intro hne
        obtain ⟨j', v, h1, h2, h3⟩ := hnext j hj (by omega)
        have hd := nd_of_rise (hrA _ (bg_mem hj))
        have hdf : ((bg A j).filter fun x => decide (x ≠ v)).Nodup := List.Nodup.sublist List.filter_sublist hd
        have hb1 := but_one hd v
        have hin : ∀ x ∈ (bg A j).filter (fun x => decide (x ≠ v)), x ∈ bg A j ∧ x ∈ bg A j' := fun x hx => by
          obtain ⟨a1, a2⟩ := List.mem_filter.1 hx
          exact ⟨a1, h3 x a1 (of_decide_eq_true a2)⟩
        have hl2 := sub_len hdf (fun x hx => (hin x hx).2)
        obtain ⟨p1, p2⟩ := hown j hj
        obtain ⟨q1, q2⟩ := hown j' h2
        have hc := hsame (own j') (own j) q1 p1 _ hdf (by omega) (fun x hx => q2 x (hin x hx).2) (fun x hx => p2 x (hin x hx).1)
        have := hmax j' h2 (by rw [Bool.and_eq_true, decide_eq_true_eq, decide_eq_true_eq]; exact ⟨by omega, hc.trans hlj.2⟩)
        omega
      · exact ⟨0, fun _ h => absurd h hl⟩
    · exact ⟨0, fun h => absurd h hs⟩
  obtain ⟨f, hf⟩ := Classical.axiomOfChoice hch
  have hsplit : (List.range B.length).countP (fun s => decide (mS s < w)) ≤ (List.range B.length).countP (fun s => decide ((bg B s).length < w)) + (List.range B.length).countP (fun s => decide (mS s < w) && decide (w ≤ (bg B s).length)) := by
    generalize List.range B.length = l
    induction l with
    | nil => simp
    | cons x l ih =>
      rw [List.countP_cons, List.countP_cons, List.countP_cons]
      by_cases c1 : mS x < w
      · by_cases c2 : w ≤ (bg B x).length
        · rw [decide_eq_true c1, decide_eq_true c2]; simp; omega
        · rw [decide_eq_true c1, decide_eq_true (show (bg B x).length < w by omega)]; simp; omega
      · rw [decide_eq_false c1]; simp; omega
  have hi := cnt_inj (N := B.length) (n := A.length) (p := fun s => decide (mS s < w) && decide (w ≤ (bg B s).length)) (q := fun j => decide ((bg A j).length = w)) f (fun s hs hp => by
    rw [Bool.and_eq_true, decide_eq_true_eq, decide_eq_true_eq] at hp
    obtain ⟨a1, a2, _⟩ := hf s hs hp.2
    exact ⟨a1, decide_eq_true a2⟩) (fun s s' hs hs' hp hp' e => by
    rw [Bool.and_eq_true, decide_eq_true_eq, decide_eq_true_eq] at hp hp'
    have a1 := (hf s hs hp.2).2.2
    have a2 := (hf s' hs' hp'.2).2.2
    rw [e] at a1
    have ec := a1.symm.trans a2
    apply Classical.byContradiction
    intro hne
    rcases Nat.lt_or_gt_of_ne (fun er => hne (hinj s s' hs hs' er)) with h | h
    · have := cls_lt (N := B.length) (w := w) (rk := rk) (mS := mS) hs' hp'.1 h
      omega
    · have := cls_lt (N := B.length) (w := w) (rk := rk) (mS := mS) hs hp.1 h
      omega)
  omega
theorem fillB_next {n : Nat} : ∀ (l : List Nat) (h : Nat → Nat → Bool) (left : Nat → Bool), Sy n h → (∀ x, x < n → (left x = true ↔ x ∈ l)) → (∀ v ∈ l, v < n) → l.Nodup → ∀ (j : Nat) (b : List Int), (fillB n l h left).1[j]? = some b → 2 ≤ b.length → ∃ (j' : Nat) (v : Int) (b' : List Int), j < j' ∧ (fillB n l h left).1[j']? = some b' ∧ ∀ x ∈ b, x ≠ v → x ∈ b'
  | [], _, _, _, _, _, _, j, b, hb, _ => by simp [fillB] at hb
  | v :: l, h, left, hh, hl, hv, hd, 0, b, hb, h2 => by
    have e : b = bagT n h left v := (Option.some.inj hb).symm
    subst e
    have hone := but_one (bag_nodup (n := n) h left v) (v : Int)
    have hne : (bagT n h left v).filter (fun x => decide (x ≠ (v : Int))) ≠ [] := fun e0 => by rw [e0] at hone; simp at hone; omega
    obtain ⟨y, hy⟩ := List.exists_mem_of_ne_nil _ hne
    have hin : ∀ x ∈ bagT n h left v, x ≠ (v : Int) → ∃ k, k ∈ laterN n h left v ∧ x = (k : Int) := fun x hx hxv => by
      obtain ⟨k, hk, rfl, hk2⟩ := mem_bagT.1 hx
      exact ⟨k, mem_laterN.2 ⟨hk, hk2.resolve_left (fun e => hxv (by rw [e])) |>.1, (hk2.resolve_left (fun e => hxv (by rw [e]))).2⟩, rfl⟩
    obtain ⟨hy1, hy2⟩ := List.mem_filter.1 hy
    obtain ⟨k, hk, _⟩ := hin y hy1 (of_decide_eq_true hy2)
    have hnv : ∀ x ∈ laterN n h left v, x ≠ v := fun x hx e => by
      have := (mem_laterN.1 hx).2.1
      rw [e, hh.2.1 v] at this
      cases this
    obtain ⟨b', hb', hx'⟩ := clique_bag l (joinBd h (laterN n h left v)) (without left v) (laterN n h left v) (later_sy hh left v) (left_tail hl hd) (fun x hx => hv x (List.mem_cons_of_mem _ hx)) (List.nodup_cons.1 hd).2 ⟨k, hk⟩ (fun x hx => by
      obtain ⟨a1, a2, a3⟩ := mem_laterN.1 hx
      exact (List.mem_cons.1 ((hl x a1).1 a3)).resolve_left (hnv x hx)) (fun x hx y hy e => by
      unfold joinBd
      rw [decide_eq_true (show x ∈ laterN n h left v ∧ y ∈ laterN n h left v ∧ x ≠ y from ⟨hx, hy, e⟩), Bool.or_true])
    obtain ⟨j', hj'⟩ := List.mem_iff_getElem?.1 hb'
    refine ⟨j' + 1, (v : Int), b', Nat.succ_pos _, hj', fun x hx hxv => ?_⟩
    obtain ⟨k, hk, rfl⟩ := hin x hx hxv
    exact hx' k hk
  | v :: l, h, left, hh, hl, hv, hd, j + 1, b, hb, h2 => by
    obtain ⟨j', v', b', h1, h3, h4⟩ := fillB_next l (joinBd h (laterN n h left v)) (without left v) (later_sy hh left v) (left_tail hl hd) (fun x hx => hv x (List.mem_cons_of_mem _ hx)) (List.nodup_cons.1 hd).2 j b hb h2
    exact ⟨j' + 1, v', b', Nat.succ_lt_succ h1, h3, h4⟩
def prN (B : List (List Int)) (s : Nat) : Nat := (rd (primL B) (s : Int)).toNat
def isTop (B : List (List Int)) (v s : Nat) : Bool := inB (bg B s) (v : Int) && (decide (s = 0) || !inB (bg B (prN B s)) (v : Int))
theorem top_of (B : List (List Int)) (rk : Nat → Nat) (hp : ∀ s, s < B.length → s ≠ 0 → prN B s < B.length ∧ rk (prN B s) < rk s) (v : Nat) : ∀ (r s : Nat), s < B.length → rk s ≤ r → inB (bg B s) (v : Int) = true → ∃ s', s' < B.length ∧ isTop B v s' = true
  | r, s, hs, hr, hv => by
    by_cases c : s = 0
    · exact ⟨s, hs, by unfold isTop; rw [hv, decide_eq_true c]; rfl⟩
    · obtain ⟨p1, p2⟩ := hp s hs c
      cases e : inB (bg B (prN B s)) (v : Int) with
      | false => exact ⟨s, hs, by unfold isTop; rw [hv, e, decide_eq_false c]; rfl⟩
      | true =>
        match r, hr with
        | 0, hr => omega
        | r + 1, hr => exact top_of B rk hp v r (prN B s) p1 (by omega) e
theorem filt_not (l : List Int) (p : Int → Bool) : (l.filter fun x => !p x).length + (l.filter p).length = l.length := by
  induction l with
  | nil => rfl
  | cons x l ih =>
    rw [List.filter_cons, List.filter_cons]
    cases p x <;> simp <;> omega
theorem sum_const1 : ∀ l : List Nat, (l.map fun _ => 1).sum = l.length
  | [] => rfl
  | _ :: l => by rw [List.map_cons, List.sum_cons, sum_const1 l, List.length_cons]; omega
theorem tops_one {n : Nat} {A B : List (List Int)} (hAn : A.length = n) (hrA : ∀ b ∈ A, b.Pairwise (· < ·)) (hel : ∀ b ∈ A, ∀ x ∈ b, ∃ k : Nat, k < n ∧ x = (k : Int)) (hsub : ∀ b ∈ B, b ∈ A) (hcov : ∀ b ∈ A, ∃ c ∈ B, ∀ x ∈ b, x ∈ c) (hnext : ∀ j, j < A.length → 2 ≤ (bg A j).length → ∃ j' v, j < j' ∧ j' < A.length ∧ ∀ x ∈ bg A j, x ≠ v → x ∈ bg A j') (hall : ∀ v, v < n → ∃ b ∈ A, (v : Int) ∈ b) : ∀ v, v < n → (List.range B.length).countP (fun s => isTop B v s) = 1 := by
  obtain ⟨rk, hr1, hinj, hr0, hpar⟩ := prim_rank B
  have hrB : ∀ b ∈ B, b.Pairwise (· < ·) := fun b hb => hrA b (hsub b hb)
  have hp : ∀ s, s < B.length → s ≠ 0 → prN B s < B.length ∧ rk (prN B s) < rk s ∧ ∀ x y, x < B.length → y < B.length → rk x < rk s → rk s ≤ rk y → meetN B y x ≤ meetN B s (prN B s) := fun s hs h0 => by
    obtain ⟨p, h1, h2, h3, h4⟩ := hpar s hs h0
    have e : prN B s = p := by unfold prN; rw [h1, Int.toNat_natCast]
    rw [e]
    exact ⟨h2, h3, h4⟩
  have hge : ∀ v, v < n → 1 ≤ (List.range B.length).countP (fun s => isTop B v s) := fun v hv => by
    obtain ⟨b, hb, hvb⟩ := hall v hv
    obtain ⟨c, hc, hx⟩ := hcov b hb
    obtain ⟨s, hs, rfl⟩ := mem_bg hc
    obtain ⟨s', hs', ht⟩ := top_of B rk (fun s hs h0 => ⟨(hp s hs h0).1, (hp s hs h0).2.1⟩) v (rk s) s hs (Nat.le_refl _) ((in_iff _ _).2 (hx _ hvb))
    exact List.countP_pos_iff.2 ⟨s', List.mem_range.2 hs', ht⟩
  obtain ⟨mS, hmS⟩ : ∃ mS : Nat → Nat, ∀ s, mS s = if s = 0 then 0 else (meetN B s (prN B s)).toNat := ⟨_, fun _ => rfl⟩
  have hcnt : ∀ s, s < B.length → (List.range n).countP (fun v => isTop B v s) + mS s = (bg B s).length := fun s hs => by
    have hb := bg_mem hs
    have e1 := cnt_bag (n := n) (nd_of_rise (hrB _ hb)) (hel _ (hsub _ hb)) (fun x => decide (s = 0) || !inB (bg B (prN B s)) x)
    have e2 : (List.range n).countP (fun v => isTop B v s) = ((bg B s).filter (fun x => decide (s = 0) || !inB (bg B (prN B s)) x)).length := e1
    rw [e2, hmS]
    by_cases c : s = 0
    · rw [if_pos c, decide_eq_true c]
      simp
    · rw [if_neg c, decide_eq_false c, meetN_eq B hrB hs (hp s hs c).1, Int.toNat_natCast, ← bg_get hs, ← bg_get (hp s hs c).1]
      simp only [Bool.false_or]
      exact filt_not (bg B s) (fun x => inB (bg B (prN B s)) x)
  have hlow := fun w hw => low_count hrA hsub hcov hnext (rk := rk) (mS := mS) hr0 hinj (fun s x y hs hs0 hx hy h1 h2 => by
    have a1 := (hp s hs hs0).2.2 x y hx hy h1 h2
    have a2 := meetN_ge B s (prN B s)
    rw [hmS, if_neg hs0]
    omega) w hw
  obtain ⟨M, hM⟩ : ∃ M, ∀ b ∈ A, b.length ≤ M := ⟨mostL A, mostL_ge A⟩
  have s1 := sum_le (List.range M) _ _ (fun k _ => hlow (k + 1) (Nat.succ_pos k))
  rw [sum_add, sum_swap (List.range M) (fun k s => decide (mS s < k + 1)) (List.range B.length), sum_swap (List.range M) (fun k s => decide ((bg B s).length < k + 1)) (List.range B.length), sum_swap (List.range M) (fun k j => decide ((bg A j).length = k + 1)) (List.range A.length)] at s1
  have s2 : ((List.range A.length).map fun j => (List.range M).countP fun k => decide ((bg A j).length = k + 1)).sum ≤ A.length := by
    refine Nat.le_trans (sum_le _ _ (fun _ => 1) (fun j _ => (cnt_at _ M).1)) ?_
    rw [sum_const1, List.length_range]
    exact Nat.le_refl _
  have s3 : ((List.range B.length).map fun s => (List.range M).countP fun k => decide (mS s < k + 1)).sum = ((List.range B.length).map fun s => (List.range M).countP fun k => decide ((bg B s).length < k + 1)).sum + ((List.range B.length).map fun s => (List.range n).countP fun v => isTop B v s).sum := by
    rw [← sum_add]
    congr 1
    refine List.map_congr_left (fun s hs => ?_)
    have hs := List.mem_range.1 hs
    have a1 := hcnt s hs
    have a2 := hM _ (hsub _ (bg_mem hs))
    rw [cnt_low, cnt_low]
    omega
  have s4 := sum_swap (List.range n) (fun v s => isTop B v s) (List.range B.length)
  exact all_one n hge (by rw [s4]; omega)
theorem own_apart : ∀ (l seen : List (List Int)), (∀ b ∈ l, b.Pairwise (· < ·)) → (∀ b ∈ seen, b.Pairwise (· < ·)) → l.Pairwise (fun a b => ¬ ∀ x ∈ a, x ∈ b) → (∀ c ∈ ownL seen l, ∀ s ∈ seen, ¬ ∀ x ∈ c, x ∈ s) ∧ (ownL seen l).Pairwise (fun a b => (¬ ∀ x ∈ a, x ∈ b) ∧ ¬ ∀ x ∈ b, x ∈ a)
  | [], seen, _, _, _ => ⟨fun c hc => (by cases hc), List.Pairwise.nil⟩
  | b :: l, seen, hl, hs, hp => by
    obtain ⟨p1, p2⟩ := List.pairwise_cons.1 hp
    obtain ⟨i1, i2⟩ := own_apart l (seen ++ [b]) (fun c hc => hl c (List.mem_cons_of_mem _ hc)) (fun c hc => by
      rcases List.mem_append.1 hc with hc | hc
      · exact hs c hc
      · rw [List.mem_singleton.1 hc]; exact hl b List.mem_cons_self) p2
    rw [ownL]
    by_cases c : seen.any (withinB b) = true
    · rw [if_pos c]
      exact ⟨fun d hd s hs' => i1 d hd s (List.mem_append_left _ hs'), i2⟩
    · rw [if_neg c]
      refine ⟨fun d hd s hs' hx => ?_, List.pairwise_cons.2 ⟨fun d hd => ⟨p1 d (ownL_sub l _ d hd), i1 d hd b (List.mem_append_right _ List.mem_cons_self)⟩, i2⟩⟩
      rcases List.mem_cons.1 hd with rfl | hd
      · exact c (List.any_eq_true.2 ⟨s, hs', (within_iff (hl d List.mem_cons_self) (hs s hs')).2 hx⟩)
      · exact i1 d hd s (List.mem_append_left _ hs') hx
theorem fill_in {n : Nat} : ∀ (l : List Nat) (h : Nat → Nat → Bool) (left : Nat → Bool), ∀ b ∈ (fillB n l h left).1, ∀ k : Nat, (k : Int) ∈ b → k ∈ l ∨ left k = true
  | [], _, _, b, hb, _, _ => by cases hb
  | v :: l, h, left, b, hb, k, hk => by
    rcases List.mem_cons.1 (show b ∈ bagT n h left v :: (fillB n l (joinBd h (laterN n h left v)) (without left v)).1 from hb) with rfl | hb
    · obtain ⟨j, _, e, hj⟩ := mem_bagT.1 hk
      obtain rfl : k = j := by omega
      rcases hj with rfl | hj
      · exact .inl List.mem_cons_self
      · exact .inr hj.2
    · rcases fill_in l _ _ b hb k hk with h1 | h1
      · exact .inl (List.mem_cons_of_mem _ h1)
      · exact .inr (by unfold without at h1; rw [Bool.and_eq_true] at h1; exact h1.1)
theorem fill_apart {n : Nat} : ∀ (l : List Nat) (h : Nat → Nat → Bool) (left : Nat → Bool), (∀ v ∈ l, v < n) → l.Nodup → (fillB n l h left).1.Pairwise (fun a b => ¬ ∀ x ∈ a, x ∈ b)
  | [], _, _, _, _ => List.Pairwise.nil
  | v :: l, h, left, hv, hd => by
    obtain ⟨d1, d2⟩ := List.nodup_cons.1 hd
    refine List.pairwise_cons.2 ⟨fun b hb hx => ?_, fill_apart l _ _ (fun x hx => hv x (List.mem_cons_of_mem _ hx)) d2⟩
    have hin := hx (v : Int) (mem_bagT.2 ⟨v, hv v List.mem_cons_self, rfl, .inl rfl⟩)
    rcases fill_in l _ _ b hb v hin with h1 | h1
    · exact d1 h1
    · unfold without at h1
      rw [decide_eq_true rfl] at h1
      simp at h1
theorem pair_get {α : Type} {R : α → α → Prop} {l : List α} (h : l.Pairwise (fun a b => R a b ∧ R b a)) {i k : Nat} (hi : i < l.length) (hk : k < l.length) (hne : i ≠ k) : R l[i] l[k] := by
  rcases Nat.lt_or_gt_of_ne hne with c | c
  · exact (List.pairwise_iff_getElem.1 h i k hi hk c).1
  · exact (List.pairwise_iff_getElem.1 h k i hk hi c).2
theorem own_most {A B : List (List Int)} (hsub : ∀ b ∈ B, b ∈ A) (hcov : ∀ b ∈ A, ∃ c ∈ B, ∀ x ∈ b, x ∈ c) (hd : ∀ b ∈ A, b.Nodup) : mostL B = mostL A := by
  refine Nat.le_antisymm (mostL_le _ _ (fun b hb => mostL_ge A b (hsub b hb))) (mostL_le _ _ (fun b hb => ?_))
  obtain ⟨c, hc, hx⟩ := hcov b hb
  exact Nat.le_trans (sub_len (hd b hb) hx) (mostL_ge B c hc)
theorem rdI_bg (B : List (List Int)) (i : Nat) (h : i < B.length) : rd_L1 B (i : Int) = bg B i := by
  rw [bg_get h]
  unfold rd_L1
  rw [Int.toNat_natCast]
  simp [h]
def tl (n : Nat) (f : Nat → Nat) : List Int := (List.range n).map fun v => ((f v : Nat) : Int)
theorem tl_len (n : Nat) (f : Nat → Nat) : (tl n f).length = n := by simp [tl]
theorem tl_rd (n : Nat) (f : Nat → Nat) (v : Nat) (h : v < n) : rd (tl n f) (v : Int) = (f v : Int) := rd_nat _ v _ (by unfold tl; rw [List.getElem?_map, List.getElem?_range h]; rfl)
theorem tl_congr {n : Nat} {f g : Nat → Nat} (h : ∀ v, v < n → f v = g v) : tl n f = tl n g := List.map_congr_left (fun v hv => by rw [h v (List.mem_range.1 hv)])
theorem tl_set (n : Nat) (f : Nat → Nat) (v : Nat) (x : Nat) : (tl n f).set v (x : Int) = tl n fun u => if u = v then x else f u := by
  apply List.ext_getElem
  · simp [tl]
  · intro j h1 h2
    simp only [tl, List.getElem_set, List.getElem_map, List.getElem_range]
    by_cases c : v = j
    · rw [if_pos c, if_pos c.symm]
    · rw [if_neg c, if_neg (fun e => c e.symm)]
structure TreeOk (n : Nat) (F : Nat → Nat → Bool) (B : List (List Int)) (par : List Int) (rk : Nat → Nat) : Prop where
  small : B.length ≤ 1000 ∧ n ≤ 1000
  rise : ∀ b ∈ B, b.Pairwise (· < ·)
  len : ∀ b ∈ B, b.length ≤ 1000
  el : ∀ b ∈ B, ∀ x ∈ b, ∃ k : Nat, k < n ∧ x = (k : Int)
  plen : par.length = B.length
  root : 0 < B.length → rd par 0 = -1
  rklt : ∀ s, s < B.length → rk s < B.length
  up : ∀ s, s < B.length → s ≠ 0 → ∃ p : Nat, rd par (s : Int) = (p : Int) ∧ p < B.length ∧ rk p < rk s
  tops : ∀ v, v < n → (List.range B.length).countP (fun s => inB (bg B s) (v : Int) && (decide (s = 0) || !inB (bg B (rd par (s : Int)).toNat) (v : Int))) = 1
  cov : ∀ u v, u < n → v < n → u < v → F v u = true → ∃ s, s < B.length ∧ (u : Int) ∈ bg B s ∧ (v : Int) ∈ bg B s
section
variable {n : Nat} {F : Nat → Nat → Bool} {B : List (List Int)} {par : List Int} {rk : Nat → Nat}
def topP (B : List (List Int)) (par : List Int) (v s : Nat) : Bool := inB (bg B s) (v : Int) && (decide (s = 0) || !inB (bg B (rd par (s : Int)).toNat) (v : Int))
theorem hg_out (h : TreeOk n F B par rk) (M : List (List Bool)) (T : List Int) (i : Nat) (hi : i < B.length) (H : Ev (fun k => arboristlaw11_hangs.l2 k M (B.length : Int) T (i : Int) 0 B par) true) (j : Int) : Ev (fun k => arboristlaw11_hangs.l1 k M (B.length : Int) T (i : Int) (-1) j B par) true := by
  have hb := bg_mem hi
  have e1 := rising_ev (bg B i) (h.len _ hb) (h.rise _ hb)
  have hj3 : Ev (fun k => arboristlaw11_hangs.j3 k M (B.length : Int) T (i : Int) false B par) true := evs1 H (fun k q => by
    rw [arboristlaw11_hangs.j3, if_neg (by decide)]
    exact q)
  have hj2 : Ev (fun k => arboristlaw11_hangs.j2 k M (B.length : Int) T (i : Int) (-1) j false B par) true := evs2 e1 hj3 (fun k q1 q2 => by
    rw [arboristlaw11_hangs.j2, if_neg (by decide), if_neg (by decide), if_pos (by omega), if_pos (by omega), rdI_bg B i hi, q1, Option.bind_some]
    exact q2)
  refine evs1 hj2 (fun k q => ?_)
  rw [arboristlaw11_hangs.l1]
  by_cases c : j < (B.length : Int)
  · rw [if_pos c, decide_eq_false (by omega)]; exact q
  · rw [if_neg c]; exact q
theorem hg_climb (h : TreeOk n F B par rk) (M : List (List Bool)) (T : List Int) (i : Nat) (hi : i < B.length) (H : Ev (fun k => arboristlaw11_hangs.l2 k M (B.length : Int) T (i : Int) 0 B par) true) : ∀ (r s j : Nat), s < B.length → rk s ≤ r → j + r < B.length → Ev (fun k => arboristlaw11_hangs.l1 k M (B.length : Int) T (i : Int) (s : Int) (j : Int) B par) true
  | r, s, j, hs, hr, hj => by
    have hB := h.small.1
    have hpl := h.plen
    have hw := wrap_nat j (by omega)
    by_cases c : s = 0
    · subst c
      have hrt := h.root (by omega)
      have hrt : rd par ((0 : Nat) : Int) = -1 := hrt
      have h0 := hg_out h M T i hi H ((j + 1 : Nat) : Int)
      have hj2 : Ev (fun k => arboristlaw11_hangs.j2 k M (B.length : Int) T (i : Int) ((0 : Nat) : Int) (j : Int) true B par) true := evs1 h0 (fun k q => by
        rw [arboristlaw11_hangs.j2, if_pos rfl, if_pos (by omega), if_pos (by omega), hrt, if_neg (by omega), if_neg (by omega), if_neg (by decide), hw]
        exact q)
      refine evs1 hj2 (fun k q => ?_)
      rw [arboristlaw11_hangs.l1, if_pos (by omega), decide_eq_true (by omega)]
      exact q
    · obtain ⟨p, p1, p2, p3⟩ := h.up s hs c
      match r, hr, hj with
      | 0, hr, hj => omega
      | r + 1, hr, hj =>
        have h0 := hg_climb h M T i hi H r p (j + 1) p2 (by omega) (by omega)
        have hj2 : Ev (fun k => arboristlaw11_hangs.j2 k M (B.length : Int) T (i : Int) (s : Int) (j : Int) true B par) true := evs1 h0 (fun k q => by
          have hb1 : ((s : Int) == 0) = false := beq_eq_false_iff_ne.mpr (by omega)
          rw [arboristlaw11_hangs.j2, if_pos rfl, if_pos (by omega), if_pos (by omega), p1, if_neg (by omega), if_neg (by omega), decide_eq_false (show ¬ (p : Int) < 0 by omega), hb1, if_neg (by decide), hw]
          exact q)
        refine evs1 hj2 (fun k q => ?_)
        rw [arboristlaw11_hangs.l1, if_pos (by omega), decide_eq_true (by omega)]
        exact q
def cntT (B : List (List Int)) (par : List Int) (f0 : Nat → Nat) (i j : Nat) : Nat → Nat := fun v => f0 v + if (v : Int) ∈ (bg B i).take j ∧ topP B par v i = true then 1 else 0
theorem hg_l2s (h : TreeOk n F B par rk) (i : Nat) (hi : i < B.length) (f0 : Nat → Nat) (hf : ∀ v, f0 v ≤ i) (j : Nat) (hjl : j < (bg B i).length) (ih : Ev (fun k => arboristlaw11_hangs.l2 k (mat n F) (B.length : Int) (tl n (cntT B par f0 i (j + 1))) (i : Int) ((j + 1 : Nat) : Int) B par) true) : Ev (fun k => arboristlaw11_hangs.l2 k (mat n F) (B.length : Int) (tl n (cntT B par f0 i j)) (i : Int) (j : Int) B par) true := by
  have hB := h.small
  have hpl := h.plen
  have hb := bg_mem hi
  have hbl := h.len _ hb
  obtain ⟨v, hvn, hv⟩ := h.el _ hb _ (List.getElem_mem hjl)
  have c1 : (j : Int) < ((bg B i).length : Int) := by omega
  have c2 : (0 : Int) ≤ (j : Int) := by omega
  have hrd : rd (bg B i) (j : Int) = (v : Int) := rd_nat _ j _ (by rw [List.getElem?_eq_getElem hjl, hv])
  have hnd := nd_of_rise (h.rise _ hb)
  have htk : (bg B i).take (j + 1) = (bg B i).take j ++ [(v : Int)] := by rw [List.take_succ_eq_append_getElem hjl, hv]
  have hnew : (v : Int) ∉ (bg B i).take j := fun hm => by
    have h1 : ((bg B i).take (j + 1)).Nodup := hnd.sublist (List.take_sublist _ _)
    rw [htk] at h1
    exact (List.nodup_append.1 h1).2.2 _ hm _ (List.mem_singleton.2 rfl) rfl
  have hvb : inB (bg B i) (v : Int) = true := (in_iff _ _).2 (by rw [← hv]; exact List.getElem_mem hjl)
  have hcv : cntT B par f0 i j v = f0 v := by unfold cntT; rw [if_neg (fun e => hnew e.1)]; omega
  have hfv := hf v
  have hw := wrap_nat j (by omega)
  -- a top, or none
  have hyes : topP B par v i = true → (tl n (cntT B par f0 i j)).set ((v : Nat) : Int).toNat (wrap64 (rd (tl n (cntT B par f0 i j)) (v : Int) + 1)) = tl n (cntT B par f0 i (j + 1)) := fun ht => by
    rw [tl_rd n _ v hvn, hcv, wrap_nat (f0 v) (by omega), Int.toNat_natCast, tl_set]
    refine tl_congr (fun u hu => ?_)
    by_cases c : u = v
    · subst c
      rw [if_pos rfl]
      unfold cntT
      rw [if_pos ⟨by rw [htk]; exact List.mem_append_right _ List.mem_cons_self, ht⟩]
    · rw [if_neg c]
      unfold cntT
      rw [htk]
      simp only [List.mem_append, List.mem_singleton, show ¬ ((u : Int) = (v : Int)) by omega, or_false]
  have hno : topP B par v i = false → tl n (cntT B par f0 i j) = tl n (cntT B par f0 i (j + 1)) := fun ht => tl_congr (fun u hu => by
    unfold cntT
    rw [htk]
    by_cases c : u = v
    · subst c
      rw [if_neg (fun e => by rw [ht] at e; cases e.2), if_neg (fun e => by rw [ht] at e; cases e.2)]
    · simp only [List.mem_append, List.mem_singleton, show ¬ ((u : Int) = (v : Int)) by omega, or_false])
  have hj5 : Ev (fun k => arboristlaw11_hangs.j5 k (mat n F) (B.length : Int) (tl n (cntT B par f0 i j)) (i : Int) (j : Int) (v : Int) false B par) true := by
    by_cases c : i = 0
    · subst c
      have hrt : rd par ((0 : Nat) : Int) = -1 := h.root (by omega)
      have ht : topP B par v 0 = true := by unfold topP; rw [hvb]; rfl
      refine evs1 ih (fun k q => ?_)
      rw [arboristlaw11_hangs.j5, if_neg (by decide), if_pos (by omega), if_pos (by omega), hrt, if_neg (by omega), if_pos (by omega), if_pos (by rw [tl_len]; omega), hyes ht, hw]
      exact q
    · obtain ⟨p, p1, p2, p3⟩ := h.up i hi c
      have hpb := bg_mem p2
      have e1 := In_ev (bg B p) (by have := h.len _ hpb; omega) (v : Int)
      have ht : topP B par v i = !inB (bg B p) (v : Int) := by unfold topP; rw [hvb, p1, Int.toNat_natCast, decide_eq_false c]; rfl
      refine evs2 e1 ih (fun k q1 q => ?_)
      rw [arboristlaw11_hangs.j5, if_neg (by decide), if_pos (by omega), if_pos (by omega), p1, if_pos (by omega), if_pos (by omega), if_pos (by omega), rdI_bg B p p2, q1, Option.bind_some]
      cases hz : inB (bg B p) (v : Int) with
      | true =>
        rw [hz] at ht
        rw [if_pos rfl, hw, hno ht]
        exact q
      | false =>
        rw [hz] at ht
        rw [if_neg (by decide), if_pos (by omega), if_pos (by rw [tl_len]; omega), hyes ht, hw]
        exact q
  have c3 : ¬ rd (bg B i) (j : Int) < 0 := by rw [hrd]; omega
  have c4 : ¬ rd (bg B i) (j : Int) ≥ (n : Int) := by rw [hrd]; omega
  clear hyes hno ih hnew htk hcv hnd hvb hf hfv hw hb hbl
  refine evs1 hj5 (fun k q => ?_)
  rw [arboristlaw11_hangs.l2, if_pos (by omega), if_pos (by omega), rdI_bg B i hi, if_pos c1, if_pos c2, if_neg c3, mat_len, decide_eq_false c4, hrd]
  exact q
theorem hg_l2 (h : TreeOk n F B par rk) (i : Nat) (hi : i < B.length) (f0 : Nat → Nat) (hf : ∀ v, f0 v ≤ i) (H : Ev (fun k => arboristlaw11_hangs.l0 k (mat n F) (B.length : Int) (tl n (cntT B par f0 i (bg B i).length)) ((i + 1 : Nat) : Int) B par) true) : ∀ (d j : Nat), j + d = (bg B i).length → Ev (fun k => arboristlaw11_hangs.l2 k (mat n F) (B.length : Int) (tl n (cntT B par f0 i j)) (i : Int) (j : Int) B par) true
  | 0, j, hj => by
    have hB := h.small.1
    obtain rfl : j = (bg B i).length := by omega
    refine evs1 H (fun k q => ?_)
    rw [arboristlaw11_hangs.l2, if_pos (by omega), if_pos (by omega), rdI_bg B i hi, if_neg (by omega), wrap_nat i (by omega)]
    exact q
  | d + 1, j, hj => hg_l2s h i hi f0 hf j (by omega) (hg_l2 h i hi f0 hf H d (j + 1) (by omega))
theorem hg_l5 (h : TreeOk n F B par rk) (T : List Int) (u v : Nat) (H : Ev (fun k => arboristlaw11_hangs.l4 k (mat n F) (B.length : Int) T (v : Int) ((u + 1 : Nat) : Int) B par) true) (hu : u < n) : ∀ (d i : Nat) (x : Bool), i + d = B.length → (x = true ∨ ∃ s, i ≤ s ∧ s < B.length ∧ (u : Int) ∈ bg B s ∧ (v : Int) ∈ bg B s) → u ≠ v → Ev (fun k => arboristlaw11_hangs.l5 k (mat n F) (B.length : Int) T (v : Int) (u : Int) x (i : Int) B par) true
  | 0, i, x, hi, hx, hne => by
    have hB := h.small
    have hx : x = true := by
      rcases hx with hx | ⟨s, h1, h2, _⟩
      · exact hx
      · omega
    subst hx
    refine evs1 H (fun k q => ?_)
    rw [arboristlaw11_hangs.l5, if_neg (by omega), if_pos rfl, wrap_nat u (by omega)]
    exact q
  | d + 1, i, x, hi, hx, hne => by
    have hB := h.small
    have hil : i < B.length := by omega
    have hb := bg_mem hil
    have e1 := Meet_ev [(u : Int), (v : Int)] (bg B i) (by simp) (by have := h.len _ hb; omega)
    have hw := wrap_nat i (by omega)
    cases x with
    | true =>
      refine evs2 e1 (hg_l5 h T u v H hu d (i + 1) true (by omega) (.inl rfl) hne) (fun k q1 q => ?_)
      rw [arboristlaw11_hangs.l5, if_pos (by omega), if_pos (by omega), if_pos (by omega), rdI_bg B i hil, q1, Option.bind_some, if_pos rfl, hw]
      exact q
    | false =>
      have hx := hx.resolve_left (by decide)
      have ih := hg_l5 h T u v H hu d (i + 1) (((meetL [(u : Int), (v : Int)] (bg B i)).length : Int) == 2) (by omega) (by
        obtain ⟨s, h1, h2, h3, h4⟩ := hx
        by_cases c : s = i
        · subst c
          left
          unfold meetL
          rw [List.filter_cons_of_pos ((in_iff _ _).2 h3), List.filter_cons_of_pos ((in_iff _ _).2 h4)]
          rfl
        · exact .inr ⟨s, by omega, h2, h3, h4⟩) hne
      refine evs2 e1 ih (fun k q1 q => ?_)
      rw [arboristlaw11_hangs.l5, if_pos (by omega), if_pos (by omega), if_pos (by omega), rdI_bg B i hil, q1, Option.bind_some, if_neg (by decide), hw]
      exact q
theorem hg_l4 (h : TreeOk n F B par rk) (T : List Int) (v : Nat) (hv : v < n) (H : Ev (fun k => arboristlaw11_hangs.l3 k (mat n F) (B.length : Int) T ((v + 1 : Nat) : Int) B par) true) : ∀ (d u : Nat), u + d = v → Ev (fun k => arboristlaw11_hangs.l4 k (mat n F) (B.length : Int) T (v : Int) (u : Int) B par) true
  | 0, u, hu => by
    have hB := h.small
    refine evs1 H (fun k q => ?_)
    rw [arboristlaw11_hangs.l4, if_neg (by omega), wrap_nat v (by omega)]
    exact q
  | d + 1, u, hu => by
    have hB := h.small
    have h5 := hg_l5 h T u v (hg_l4 h T v hv H d (u + 1) (by omega)) (by omega) B.length 0 (!F v u) (by omega) (by
      cases hf : F v u with
      | false => exact .inl rfl
      | true =>
        obtain ⟨s, h1, h2, h3⟩ := h.cov u v (by omega) hv (by omega) hf
        exact .inr ⟨s, Nat.zero_le _, h1, h2, h3⟩) (by omega)
    refine evs1 h5 (fun k q => ?_)
    rw [arboristlaw11_hangs.l4, if_pos (by omega), if_pos (by omega), mat_len, if_pos (by omega), if_pos (by omega), mat_rd n F v hv, rowT_len, if_pos (by omega), rowT_rd n _ u (by omega)]
    exact q
theorem hg_l3 (h : TreeOk n F B par rk) : ∀ (d v : Nat), v + d = n → Ev (fun k => arboristlaw11_hangs.l3 k (mat n F) (B.length : Int) (tl n fun v => (List.range B.length).countP (topP B par v)) (v : Int) B par) true
  | 0, v, hv => evs0 (fun k => by rw [arboristlaw11_hangs.l3, mat_len, if_neg (by omega)])
  | d + 1, v, hv => by
    have ht : (List.range B.length).countP (topP B par v) = 1 := h.tops v (by omega)
    refine evs1 (hg_l4 h _ v (by omega) (hg_l3 h d (v + 1) (by omega)) v 0 (by omega)) (fun k q => ?_)
    rw [arboristlaw11_hangs.l3, mat_len, if_pos (by omega), if_pos (by omega), tl_len, if_pos (by omega), tl_rd n _ v (by omega), ht, if_pos (by rfl)]
    exact q
theorem hg_l0 (h : TreeOk n F B par rk) : ∀ (d i : Nat), i + d = B.length → Ev (fun k => arboristlaw11_hangs.l0 k (mat n F) (B.length : Int) (tl n fun v => (List.range i).countP (topP B par v)) (i : Int) B par) true
  | 0, i, hi => by
    obtain rfl : i = B.length := by omega
    refine evs1 (hg_l3 h n 0 (by omega)) (fun k q => ?_)
    rw [arboristlaw11_hangs.l0, if_neg (by omega)]
    exact q
  | d + 1, i, hi => by
    have hB := h.small
    have hil : i < B.length := by omega
    have ih := hg_l0 h d (i + 1) (by omega)
    have e1 : tl n (cntT B par (fun v => (List.range i).countP (topP B par v)) i (bg B i).length) = tl n fun v => (List.range (i + 1)).countP (topP B par v) := tl_congr (fun v hv => by
      unfold cntT
      rw [List.take_length, List.range_succ, List.countP_append, List.countP_singleton]
      cases ht : topP B par v i with
      | false => rw [if_neg (fun e => by cases e.2), if_neg (by decide)]
      | true =>
        have : inB (bg B i) (v : Int) = true := by unfold topP at ht; rw [Bool.and_eq_true] at ht; exact ht.1
        rw [if_pos ⟨(in_iff _ _).1 this, rfl⟩, if_pos rfl])
    have e0 : tl n (cntT B par (fun v => (List.range i).countP (topP B par v)) i 0) = tl n fun v => (List.range i).countP (topP B par v) := tl_congr (fun v hv => by
      unfold cntT
      rw [if_neg (fun e => by simp at e)]
      exact Nat.add_zero _)
    have h2 := hg_l2 h i hil (fun v => (List.range i).countP (topP B par v)) (fun v => by have := List.countP_le_length (p := topP B par v) (l := List.range i); rw [List.length_range] at this; exact this) (by rw [e1]; exact ih) (bg B i).length 0 (by omega)
    rw [e0] at h2
    have hr := h.rklt i hil
    refine evs1 (hg_climb h _ _ i hil h2 (rk i) i 0 hil (Nat.le_refl _) (by omega)) (fun k q => ?_)
    rw [arboristlaw11_hangs.l0, if_pos (by omega)]
    exact q
theorem hangs_ev (h : TreeOk n F B par rk) : Ev (fun k => arboristlaw11_hangs.f k (mat n F) B par) true := by
  have hB := h.small
  have e0 : List.replicate ((n : Int)).toNat (0 : Int) = tl n fun v => (List.range 0).countP (topP B par v) := by
    rw [Int.toNat_natCast]
    apply List.ext_getElem
    · simp [tl]
    · intro j h1 h2
      simp [tl]
  refine evu1 (hg_l0 h B.length 0 (by omega)) (fun k q => ?_)
  rw [arboristlaw11_hangs.f, h.plen, if_pos rfl, mat_len, if_pos (by omega), if_pos (by rw [Int.toNat_natCast]; omega), e0]
  exact q
end
theorem most_same : ∀ B : List (List Int), mostR B = mostL B
  | [] => rfl
  | b :: B => by rw [mostR, mostL, most_same B]
theorem dv_l1 (B : List (List Int)) (hB : B.length ≤ 1000) (hl : ∀ b ∈ B, b.length ≤ 1000) (hap : ∀ i k (hi : i < B.length) (hk : k < B.length), i ≠ k → ¬ ∀ x ∈ B[i], x ∈ B[k]) (M : List (List Bool)) (o par : List Int) (c : Int) (i : Nat) (hi : i < B.length) (H : Ev (fun k => arboristlaw11_DecompValid.l0 k true M o c ((i + 1 : Nat) : Int) B par) true) : ∀ (d j : Nat), j + d = B.length → Ev (fun k => arboristlaw11_DecompValid.l1 k true M o c (i : Int) (j : Int) B par) true
  | 0, j, hj => evs1 H (fun k q => by
    rw [arboristlaw11_DecompValid.l1, if_neg (by omega), wrap_nat i (by omega)]
    exact q)
  | d + 1, j, hj => by
    have hjl : j < B.length := by omega
    have e1 := Within_ev B[i] B[j] (by have := hl _ (List.getElem_mem hi); omega) (by have := hl _ (List.getElem_mem hjl); omega)
    refine evs2 e1 (dv_l1 B hB hl hap M o par c i hi H d (j + 1) (by omega)) (fun k q1 q => ?_)
    rw [arboristlaw11_DecompValid.l1, if_pos (by omega), if_pos (by omega), if_pos (by omega), if_pos (by omega), rdI_bg B i hi, rdI_bg B j hjl, bg_get hi, bg_get hjl, q1, Option.bind_some, wrap_nat j (by omega)]
    by_cases hc : i = j
    · rw [if_pos (by omega)]; exact q
    · rw [if_neg (by omega)]
      cases hz : withinR B[i] B[j] with
      | true => exact absurd ((withinR_iff _ _).1 hz) (hap i j hi hjl hc)
      | false => rw [if_neg (by decide)]; exact q
theorem dv_l0 (B : List (List Int)) (hB : B.length ≤ 1000) (hl : ∀ b ∈ B, b.length ≤ 1000) (hap : ∀ i k (hi : i < B.length) (hk : k < B.length), i ≠ k → ¬ ∀ x ∈ B[i], x ∈ B[k]) (M : List (List Bool)) (o par : List Int) (W : Nat) (hW : W ≤ 1000) (HW : Ev (fun k => arboristref10_Width.f k M o) (wrap64 ((W : Int) - 1))) : ∀ (d i c : Nat), i + d = B.length → max c (mostL (B.drop i)) = W → Ev (fun k => arboristlaw11_DecompValid.l0 k true M o (c : Int) (i : Int) B par) true
  | 0, i, c, hi, hm => evs1 HW (fun k q => by
    rw [List.drop_eq_nil_of_le (by omega), show max c (mostL []) = c from Nat.max_eq_left (Nat.zero_le _)] at hm
    subst hm
    rw [arboristlaw11_DecompValid.l0, if_neg (by omega), if_pos rfl, q, Option.bind_some]
    have : wrap64 (wrap64 ((c : Int) - 1) + 1) = (c : Int) := by
      rw [wrap_id (i := (c : Int) - 1) (by omega) (by omega), wrap_id (by omega) (by omega)]
      omega
    rw [this, beq_self_eq_true])
  | d + 1, i, c, hi, hm => by
    have hil : i < B.length := by omega
    have hmx : mx (c : Int) ((B[i].length : Nat) : Int) = ((max c B[i].length : Nat) : Int) := by unfold mx; split <;> omega
    have ih := dv_l0 B hB hl hap M o par W hW HW d (i + 1) (max c B[i].length) (by omega) (by
      rw [List.drop_eq_getElem_cons hil] at hm
      have : mostL (B[i] :: B.drop (i + 1)) = max B[i].length (mostL (B.drop (i + 1))) := rfl
      rw [this] at hm
      omega)
    refine evs1 (dv_l1 B hB hl hap M o par _ i hil ih B.length 0 (by omega)) (fun k q => ?_)
    rw [arboristlaw11_DecompValid.l0, if_pos (by omega), if_pos (by omega), rdI_bg B i hil, bg_get hil, hmx]
    exact q
theorem DecompValid : arboristlaw11_DecompValid.Pure := by
  intro a0 l1 l2 _ _ _
  obtain ⟨n, F, hn, hF, hm⟩ := made9_ev a0 l1
  obtain ⟨o, hop, hoe⟩ := given_ev n (by omega) l2
  obtain ⟨ln, rfl, hd, hl⟩ := toN_of hop
  have hb := build_f (show n ≤ 40 by omega) hF hop hd hl
  have hlen := fillB_len (n := n) ln F allL
  have hg : ln.length = n := by have := hop.length_eq; rw [gI_len, idI_len] at this; exact this
  have hcl := fillB_cliq (n := n) ln F allL hF
  have hri := fillB_rise (n := n) ln F allL
  have hol := own_len (fillB n ln F allL).1 []
  have hos := ownL_sub (fillB n ln F allL).1 []
  have hall : ∀ x, x < n → (allL x = true ↔ x ∈ ln) := fun x hx => ⟨fun _ => in_of hop x hx, fun _ => rfl⟩
  have hcov := own_cover (ownL [] (fillB n ln F allL).1) (fillB n ln F allL).1 [] hri (fun b hb => by cases hb) (fun b hb => by cases hb) (fun c hc => hc)
  have hgi := fillB_gI (n := n) ln F allL
  have hnx := fillB_next (n := n) ln F allL hF hall hl hd
  have hap := (own_apart (fillB n ln F allL).1 [] hri (fun b hb => by cases hb) (fill_apart ln F allL hl hd)).2
  have hcb := fun (C : List Nat) => clique_bag (n := n) ln F allL C hF hall hl hd
  have hwd := rwidth_ev (show n ≤ 40 by omega) hF hop hd hl (by omega)
  have hmn := most_n (n := n) ln F hF
  rw [most_same] at hwd
  generalize (fillB n ln F allL).1 = A at *
  have hmo : mostL (ownL [] A) = mostL A := own_most hos hcov (fun b hb => nd_of_rise (hri b hb))
  have hel : ∀ b ∈ A, ∀ x ∈ b, ∃ k : Nat, k < n ∧ x = (k : Int) := fun b hb x hx => by
    obtain ⟨bn, rfl, _, h1, _⟩ := hgi b hb
    obtain ⟨k, hk, rfl⟩ := List.mem_map.1 hx
    exact ⟨k, h1 k hk, rfl⟩
  have hbl : ∀ b ∈ A, b.length ≤ n := fun b hb => (hcl b hb).2
  have htop := tops_one (n := n) (A := A) (B := ownL [] A) (by omega) hri hel hos hcov (fun j hj h2 => by
    obtain ⟨j', v, b', h1, h3, h4⟩ := hnx j (bg A j) (by rw [bg_get hj, List.getElem?_eq_getElem hj]) h2
    obtain ⟨h5, h6⟩ := List.getElem?_eq_some_iff.1 h3
    exact ⟨j', v, h1, h5, fun x hx hxv => by rw [bg_get h5, h6]; exact h4 x hx hxv⟩) (fun v hv => by
    obtain ⟨b, hb, hx⟩ := hcb [v] ⟨v, List.mem_cons_self⟩ (fun x hx => by rw [List.mem_singleton.1 hx]; exact in_of hop v hv) (fun x hx y hy e => absurd ((List.mem_singleton.1 hx).trans (List.mem_singleton.1 hy).symm) e)
    exact ⟨b, hb, hx v List.mem_cons_self⟩)
  obtain ⟨p1, p2, _⟩ := prim_all (ownL [] A)
  obtain ⟨rk, r1, _, _, r4⟩ := prim_rank (ownL [] A)
  have hok : TreeOk n F (ownL [] A) (primL (ownL [] A)) rk := ⟨⟨by omega, by omega⟩, fun b hb => hri b (hos b hb), fun b hb => by have := hbl b (hos b hb); omega, fun b hb => hel b (hos b hb), p1, p2, r1, fun s hs h0 => by
    obtain ⟨p, h1, h2, h3, _⟩ := r4 s hs h0
    exact ⟨p, h1, h2, h3⟩, htop, fun u v hu hv huv hf => by
    have hs := hF.1 u v
    have h2 : ∀ x, x ∈ [u, v] → x = u ∨ x = v := fun x hx => by simpa using hx
    obtain ⟨b, hb, hx⟩ := hcb [u, v] ⟨u, List.mem_cons_self⟩ (fun x hx => by
      rcases h2 x hx with e | e
      · rw [e]; exact in_of hop u hu
      · rw [e]; exact in_of hop v hv) (fun x hx y hy e => by
      rcases h2 x hx with e1 | e1 <;> rcases h2 y hy with e2 | e2
      · exact absurd (e1.trans e2.symm) e
      · rw [e1, e2, hs]; exact hf
      · rw [e1, e2]; exact hf
      · exact absurd (e1.trans e2.symm) e)
    obtain ⟨c, hc, hcx⟩ := hcov b hb
    obtain ⟨s, hs, rfl⟩ := mem_bg hc
    exact ⟨s, hs, hcx _ (hx u List.mem_cons_self), hcx _ (hx v (List.mem_cons_of_mem _ List.mem_cons_self))⟩⟩
  have h0 := dv_l0 (ownL [] A) (by omega) (fun b hb => by have := hbl b (hos b hb); omega) (fun i k hi hk hne => pair_get (R := fun a b => ¬ ∀ x ∈ a, x ∈ b) hap hi hk hne) (mat n F) (gI ln) (primL (ownL [] A)) (mostL A) (by omega) hwd (ownL [] A).length 0 0 (by omega) (by rw [List.drop_zero, Nat.zero_max]; exact hmo)
  have hj : Ev (fun k => arboristlaw11_DecompValid.j0 k true (mat n F) (gI ln) false (ownL [] A) (primL (ownL [] A))) true := evs1 h0 (fun k e => by
    rw [arboristlaw11_DecompValid.j0, if_neg (by decide)]
    exact e)
  refine (evu5 hm (graph_ev n (by omega) F) hoe (hangs_ev hok) hj (fun k q1 q2 q3 q4 q5 => ?_)).rounds
  unfold arboristlaw11_DecompValid.f
  rw [shown_9, Option.bind_some, q1, Option.bind_some, mat_len, q3, Option.bind_some, q2, Option.bind_some, hb, Option.bind_some]
  simp only [if_true]
  rw [q4, Option.bind_some]
  exact q5
end Go.Proofs.YtbdlelojlnhhfaaDoor.Pure
