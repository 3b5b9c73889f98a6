/- DecompTells: bags stand as a tree as the document says. -/
import Derived.Laws.BitsAllLaws
import Derived.Test.YtbdlelojlnhhfaaDoorPr0
import Derived.Test.YtbdlelojlnhhfaaDoorPr1
import Derived.Test.YtbdlelojlnhhfaaDoorPr11
import Derived.Test.YtbdlelojlnhhfaaDoorPr12
import Derived.Test.YtbdlelojlnhhfaaDoorPr15
import Derived.Test.YtbdlelojlnhhfaaDoorPr21
import Derived.Test.YtbdlelojlnhhfaaDoorPr22
import Derived.Test.YtbdlelojlnhhfaaDoorPr25
import Derived.Test.YtbdlelojlnhhfaaDoorPr29
import Derived.Test.YtbdlelojlnhhfaaDoorPr32
import Derived.Test.YtbdlelojlnhhfaaDoorPr35
import Derived.Test.YtbdlelojlnhhfaaDoorPr36
import Derived.Test.YtbdlelojlnhhfaaDoorPr39
import Derived.Test.YtbdlelojlnhhfaaDoorPr44
import Derived.Test.YtbdlelojlnhhfaaDoorPr45
import Derived.Test.YtbdlelojlnhhfaaDoorPr46
set_option linter.unusedVariables false
set_option linter.unusedSimpArgs false
set_option linter.unusedSectionVars false
namespace Go.Proofs.YtbdlelojlnhhfaaDoor.Pr
open Go.RowKit Go.Proofs.YtbdlelojlnhhfaaDoorW.PrintWords Go.Proofs.YtbdlelojlnhhfaaDoorW.PrintLast
theorem evs0 {ρ : Type} {F : Nat → Option ρ} {r : ρ} (H : ∀ k, F (k + 1) = some r) : Ev F r := ⟨1, fun k hk => by obtain ⟨m, rfl⟩ : ∃ m, k = m + 1 := ⟨k - 1, by omega⟩; exact H m⟩
theorem evu0 {ρ : Type} {F : Nat → Option ρ} {r : ρ} (H : ∀ k, F k = some r) : Ev F r := ⟨0, fun k _ => H k⟩
theorem evu1 {ρ : Type} {F : Nat → Option ρ} {r : ρ} {α1 : Type} {g1 : Nat → Option α1} {a1 : α1} (h1 : Ev g1 a1) (H : ∀ k, g1 k = some a1 → F k = some r) : Ev F r := by
  obtain ⟨K1, e1⟩ := h1
  exact ⟨K1, fun k hk => H k (e1 _ (by omega))⟩
theorem evs1 {ρ : Type} {F : Nat → Option ρ} {r : ρ} {α1 : Type} {g1 : Nat → Option α1} {a1 : α1} (h1 : Ev g1 a1) (H : ∀ k, g1 k = some a1 → F (k + 1) = some r) : Ev F r := by
  obtain ⟨K1, e1⟩ := h1
  refine ⟨K1 + 1, fun k hk => ?_⟩
  obtain ⟨m, rfl⟩ : ∃ m, k = m + 1 := ⟨k - 1, by omega⟩
  exact H m (e1 _ (by omega))
theorem evu2 {ρ : Type} {F : Nat → Option ρ} {r : ρ} {α1 : Type} {g1 : Nat → Option α1} {a1 : α1} {α2 : Type} {g2 : Nat → Option α2} {a2 : α2} (h1 : Ev g1 a1) (h2 : Ev g2 a2) (H : ∀ k, g1 k = some a1 → g2 k = some a2 → F k = some r) : Ev F r := by
  obtain ⟨K1, e1⟩ := h1; obtain ⟨K2, e2⟩ := h2
  exact ⟨K1 + K2, fun k hk => H k (e1 _ (by omega)) (e2 _ (by omega))⟩
theorem evs2 {ρ : Type} {F : Nat → Option ρ} {r : ρ} {α1 : Type} {g1 : Nat → Option α1} {a1 : α1} {α2 : Type} {g2 : Nat → Option α2} {a2 : α2} (h1 : Ev g1 a1) (h2 : Ev g2 a2) (H : ∀ k, g1 k = some a1 → g2 k = some a2 → F (k + 1) = some r) : Ev F r := by
  obtain ⟨K1, e1⟩ := h1; obtain ⟨K2, e2⟩ := h2
  refine ⟨K1 + K2 + 1, fun k hk => ?_⟩
  obtain ⟨m, rfl⟩ : ∃ m, k = m + 1 := ⟨k - 1, by omega⟩
  exact H m (e1 _ (by omega)) (e2 _ (by omega))
theorem evu4 {ρ : Type} {F : Nat → Option ρ} {r : ρ} {α1 : Type} {g1 : Nat → Option α1} {a1 : α1} {α2 : Type} {g2 : Nat → Option α2} {a2 : α2} {α3 : Type} {g3 : Nat → Option α3} {a3 : α3} {α4 : Type} {g4 : Nat → Option α4} {a4 : α4} (h1 : Ev g1 a1) (h2 : Ev g2 a2) (h3 : Ev g3 a3) (h4 : Ev g4 a4) (H : ∀ k, g1 k = some a1 → g2 k = some a2 → g3 k = some a3 → g4 k = some a4 → F k = some r) : Ev F r := by
  obtain ⟨K1, e1⟩ := h1; obtain ⟨K2, e2⟩ := h2; obtain ⟨K3, e3⟩ := h3; obtain ⟨K4, e4⟩ := h4
  exact ⟨K1 + K2 + K3 + K4, fun k hk => H k (e1 _ (by omega)) (e2 _ (by omega)) (e3 _ (by omega)) (e4 _ (by omega))⟩
theorem evs4 {ρ : Type} {F : Nat → Option ρ} {r : ρ} {α1 : Type} {g1 : Nat → Option α1} {a1 : α1} {α2 : Type} {g2 : Nat → Option α2} {a2 : α2} {α3 : Type} {g3 : Nat → Option α3} {a3 : α3} {α4 : Type} {g4 : Nat → Option α4} {a4 : α4} (h1 : Ev g1 a1) (h2 : Ev g2 a2) (h3 : Ev g3 a3) (h4 : Ev g4 a4) (H : ∀ k, g1 k = some a1 → g2 k = some a2 → g3 k = some a3 → g4 k = some a4 → F (k + 1) = some r) : Ev F r := by
  obtain ⟨K1, e1⟩ := h1; obtain ⟨K2, e2⟩ := h2; obtain ⟨K3, e3⟩ := h3; obtain ⟨K4, e4⟩ := h4
  refine ⟨K1 + K2 + K3 + K4 + 1, fun k hk => ?_⟩
  obtain ⟨m, rfl⟩ : ∃ m, k = m + 1 := ⟨k - 1, by omega⟩
  exact H m (e1 _ (by omega)) (e2 _ (by omega)) (e3 _ (by omega)) (e4 _ (by omega))
theorem drop_at (l : List Int) (i : Nat) (h : i < l.length) : l.drop i = rd l (i : Int) :: l.drop (i + 1) := by
  rw [List.drop_eq_getElem_cons h, rd_nat l i _ (List.getElem?_eq_getElem h)]
theorem wrap_nat (i : Nat) (h : i < 9223372036854775807) : wrap64 ((i : Int) + 1) = ((i + 1 : Nat) : Int) := by rw [wrap_succ (by omega) (by omega)]; rfl
def inB (l : List Int) (v : Int) : Bool := l.any (fun x => x == v)
theorem In_loop (l : List Int) (hl : l.length ≤ 9223372036854775807) (v : Int) : ∀ d i : Nat, l.length = i + d → Ev (fun k => arboristref01_In.l0 k l v (i : Int)) (inB (l.drop i) v) := by
  intro d
  induction d with
  | zero =>
    intro i h
    refine Ev.step (f := fun _ => some (inB (l.drop i) v)) (fun k => ?_) (Ev.now _)
    simp only [arboristref01_In.l0]
    rw [if_neg (by omega), List.drop_eq_nil_of_le (by omega)]
    rfl
  | succ d ih =>
    intro i h
    have hi : i < l.length := by omega
    by_cases e : rd l (i : Int) = v
    · refine Ev.step (f := fun _ => some (inB (l.drop i) v)) (fun k => ?_) (Ev.now _)
      simp only [arboristref01_In.l0]
      rw [if_pos (by omega), if_pos (by omega), if_pos e, drop_at l i hi]
      simp [inB, e]
    · refine Ev.step (f := fun k => arboristref01_In.l0 k l v ((i + 1 : Nat) : Int)) (fun k => ?_) ?_
      · simp only [arboristref01_In.l0]
        rw [if_pos (by omega), if_pos (by omega), if_neg e, wrap_nat i (by omega)]
      · have := ih (i + 1) (by omega)
        rw [drop_at l i hi]
        have e2 : (rd l (i : Int) == v) = false := by simpa using e
        simpa [inB, e2] using this
theorem In_ev (l : List Int) (hl : l.length ≤ 9223372036854775807) (v : Int) : Ev (fun k => arboristref01_In.f k l v) (inB l v) := by
  have := In_loop l hl v l.length 0 (by omega)
  simpa [arboristref01_In.f] using this
def cmpL : List Int → List Int → Int
  | [], [] => 0
  | [], _ :: _ => -1
  | _ :: _, [] => 1
  | a :: l, b :: m => if a < b then -1 else if b < a then 1 else cmpL l m
theorem Compare_loop (a b : List Int) (ha : a.length ≤ 9223372036854775807) (hb : b.length ≤ 9223372036854775807) : ∀ (d i : Nat), a.length = i + d → i ≤ b.length → a.take i = b.take i → Ev (fun k => arboristref01_Compare.l0 k a b (i : Int)) (cmpL (a.drop i) (b.drop i)) := by
  intro d
  induction d with
  | zero =>
    intro i h hb2 he
    refine Ev.step (f := fun k => arboristref01_Compare.j1 k a b (i : Int) false) (fun k => ?_) ?_
    · simp only [arboristref01_Compare.l0]; rw [if_neg (by omega)]
    · refine Ev.step (f := fun _ => some (cmpL (a.drop i) (b.drop i))) (fun k => ?_) (Ev.now _)
      simp only [arboristref01_Compare.j1]
      rw [if_neg (by simp), List.drop_eq_nil_of_le (by omega)]
      by_cases hlt : i < b.length
      · rw [if_pos (by omega), drop_at b i hlt]; rfl
      · rw [if_neg (by omega), if_neg (by omega), List.drop_eq_nil_of_le (by omega)]; rfl
  | succ d ih =>
    intro i h hb2 he
    have hi : i < a.length := by omega
    by_cases hlt : i < b.length
    · refine Ev.step (f := fun k => arboristref01_Compare.j1 k a b (i : Int) true) (fun k => ?_) ?_
      · simp only [arboristref01_Compare.l0]; rw [if_pos (by omega), show decide ((i : Int) < (b.length : Int)) = true from decide_eq_true (by omega)]
      · rw [drop_at a i hi, drop_at b i hlt]
        by_cases h1 : rd a (i : Int) < rd b (i : Int)
        · refine Ev.step (f := fun _ => some (-1)) (fun k => ?_) (by simp only [cmpL, if_pos h1]; exact Ev.now _)
          simp only [arboristref01_Compare.j1]
          rw [if_pos trivial, if_pos (by omega), if_pos (by omega), if_pos (by omega), if_pos h1]
        · by_cases h2 : rd b (i : Int) < rd a (i : Int)
          · refine Ev.step (f := fun _ => some 1) (fun k => ?_) (by simp only [cmpL, if_neg h1, if_pos h2]; exact Ev.now _)
            simp only [arboristref01_Compare.j1]
            rw [if_pos trivial, if_pos (by omega), if_pos (by omega), if_pos (by omega), if_neg h1, if_pos h2]
          · refine Ev.step (f := fun k => arboristref01_Compare.l0 k a b ((i + 1 : Nat) : Int)) (fun k => ?_) ?_
            · simp only [arboristref01_Compare.j1]
              rw [if_pos trivial, if_pos (by omega), if_pos (by omega), if_pos (by omega), if_neg h1, if_neg (by omega), wrap_nat i (by omega)]
            · simp only [cmpL, if_neg h1, if_neg h2]
              refine ih (i + 1) (by omega) (by omega) ?_
              have e1 := rd_nat a i _ (List.getElem?_eq_getElem hi)
              have e2 := rd_nat b i _ (List.getElem?_eq_getElem hlt)
              rw [List.take_succ_eq_append_getElem hi, List.take_succ_eq_append_getElem hlt, he]
              have : a[i] = b[i] := by omega
              rw [this]
    · refine Ev.step (f := fun k => arboristref01_Compare.j1 k a b (i : Int) false) (fun k => ?_) ?_
      · simp only [arboristref01_Compare.l0]; rw [if_pos (by omega), show decide ((i : Int) < (b.length : Int)) = false from decide_eq_false (by omega)]
      · refine Ev.step (f := fun _ => some (cmpL (a.drop i) (b.drop i))) (fun k => ?_) (Ev.now _)
        simp only [arboristref01_Compare.j1]
        rw [if_neg (by simp), if_neg (by omega), if_pos (by omega), drop_at a i hi, show b.drop i = [] from List.drop_eq_nil_of_le (by omega)]
        rfl
theorem Compare_ev (a b : List Int) (ha : a.length ≤ 9223372036854775807) (hb : b.length ≤ 9223372036854775807) : Ev (fun k => arboristref01_Compare.f k a b) (cmpL a b) := by
  have := Compare_loop a b ha hb a.length 0 (by omega) (by omega) rfl
  simpa [arboristref01_Compare.f] using this
theorem cmpL_self : ∀ a : List Int, cmpL a a = 0
  | [] => rfl
  | a :: l => by simp [cmpL, cmpL_self l]
end Go.Proofs.YtbdlelojlnhhfaaDoor.Pr
set_option linter.unusedVariables false
set_option linter.unusedSimpArgs false
namespace Go.Proofs.YtbdlelojlnhhfaaDoor.Pr
open Go.RowKit Go.Proofs.YtbdlelojlnhhfaaDoorW.PrintWords Go.Proofs.YtbdlelojlnhhfaaDoorW.PrintLast Go.Proofs.YtbdlelojlnhhfaaDoorW.PrintMore
def wd : Nat → (Nat → Bool) → Nat
  | 0, _ => 0
  | n + 1, f => 2 ^ n * (if f n = true then 1 else 0) + wd n f
theorem wd_lt : ∀ (n : Nat) (f : Nat → Bool), wd n f < 2 ^ n
  | 0, _ => by simp [wd]
  | n + 1, f => by
    have := wd_lt n f
    rw [wd, Nat.pow_succ]
    split <;> omega
theorem one_bit (j : Nat) : (1 : Nat).testBit (j + 1) = false := by rw [Nat.testBit_succ]; simp
theorem wd_bit : ∀ (n : Nat) (f : Nat → Bool) (i : Nat), (wd n f).testBit i = (decide (i < n) && f i)
  | 0, f, i => by simp [wd]
  | n + 1, f, i => by
    rw [wd, Nat.testBit_two_pow_mul_add _ (wd_lt n f), wd_bit n f i]
    by_cases h : i < n
    · rw [if_pos h, decide_eq_true h, decide_eq_true (show i < n + 1 by omega)]
    · rw [if_neg h]
      by_cases e : i = n
      · subst e
        rw [Nat.sub_self, decide_eq_true (show i < i + 1 by omega), Bool.true_and]
        by_cases hf : f i = true
        · rw [if_pos hf, hf]; decide
        · rw [if_neg hf, Bool.not_eq_true _ |>.mp hf]; decide
      · obtain ⟨j, rfl⟩ : ∃ j, i = n + (j + 1) := ⟨i - n - 1, by omega⟩
        rw [decide_eq_false (show ¬ n + (j + 1) < n + 1 by omega), Bool.false_and, show n + (j + 1) - n = j + 1 by omega]
        split
        · exact one_bit j
        · simp
theorem bits_ge {x n : Nat} (h : x < 2 ^ n) {i : Nat} (hi : n ≤ i) : x.testBit i = false := Nat.testBit_lt_two_pow (Nat.lt_of_lt_of_le h (Nat.pow_le_pow_right (by omega) hi))
theorem pow_64 : (2 : Nat) ^ 64 = 18446744073709551616 := by decide
theorem wd_64 {n : Nat} (h : n ≤ 64) (f : Nat → Bool) : wd n f < 18446744073709551616 := by
  rw [← pow_64]
  exact Nat.lt_of_lt_of_le (wd_lt n f) (Nat.pow_le_pow_right (by omega) h)
theorem shl_one (b : Nat) (h : b < 64) : shl .u64 1 (b : Int) = ((2 ^ b : Nat) : Int) := by
  unfold shl
  have hb : IntKind.bits .u64 = 64 := rfl
  have hp : 2 ^ b < 18446744073709551616 := by rw [← pow_64]; exact Nat.pow_lt_pow_right (by omega) h
  rw [Int.toNat_natCast, hb, Nat.min_eq_left (by omega), IntKind.wrap_u64, Int.one_mul]
  have e : ((2 : Int) ^ b) = ((2 ^ b : Nat) : Int) := by push_cast; rfl
  rw [e]
  obtain ⟨p, hp1⟩ : ∃ p : Nat, p = 2 ^ b := ⟨_, rfl⟩
  rw [← hp1] at hp ⊢
  omega
theorem pow_bit (b i : Nat) : (2 ^ b).testBit i = decide (b = i) := Nat.testBit_two_pow
theorem or_u64 (a b : Nat) (ha : a < 18446744073709551616) (hb : b < 18446744073709551616) : a ||| b < 18446744073709551616 ∧ Go.bits .or .u64 (a : Int) (b : Int) = ((a ||| b : Nat) : Int) := by
  refine ⟨?_, u64_or_nat a b ha hb⟩
  rw [← pow_64] at ha hb ⊢
  exact Nat.or_lt_two_pow ha hb
theorem pow_lt_64 (b : Nat) (h : b < 64) : 2 ^ b < 18446744073709551616 := by rw [← pow_64]; exact Nat.pow_lt_pow_right (by omega) h
theorem mem_listW (x : Nat) (v : Int) : v ∈ listN x ↔ ∃ i : Nat, i < 64 ∧ x.testBit i = true ∧ v = (i : Int) := by
  unfold listN
  simp only [List.mem_map, List.mem_filter, List.mem_range]
  constructor
  · rintro ⟨i, ⟨h1, h2⟩, rfl⟩
    exact ⟨i, h1, h2, rfl⟩
  · rintro ⟨i, h1, h2, rfl⟩
    exact ⟨i, ⟨h1, h2⟩, rfl⟩
def ofT (n : Nat) (f : Nat → Bool) : List Int := ((List.range n).filter f).map fun (i : Nat) => (i : Int)
theorem filter_range (f : Nat → Bool) (n : Nat) : ∀ d, (List.range (n + d)).filter (fun i => decide (i < n) && f i) = (List.range n).filter f
  | 0 => List.filter_congr (fun i hi => by rw [decide_eq_true (show i < n by have := List.mem_range.1 hi; omega), Bool.true_and])
  | d + 1 => by
    rw [show n + (d + 1) = (n + d) + 1 by omega, List.range_succ, List.filter_append, filter_range f n d, List.filter_cons_of_neg (by rw [decide_eq_false (by omega)]; simp), List.filter_nil, List.append_nil]
theorem listN_wd {n : Nat} (h : n ≤ 64) (f : Nat → Bool) : listN (wd n f) = ofT n f := by
  unfold listN ofT
  congr 1
  obtain ⟨d, hd⟩ : ∃ d, 64 = n + d := ⟨64 - n, by omega⟩
  rw [hd, ← filter_range f n d]
  exact List.filter_congr (fun i _ => wd_bit n f i)
theorem list_f (x : Nat) (h : x < 18446744073709551616) : graph_list.f (x : Int) = some (listN x) := by
  unfold graph_list.f
  rw [if_pos ⟨by omega, by omega⟩, Int.toNat_natCast]
def gI (ws : List Nat) : List Int := ws.map fun (x : Nat) => (x : Int)
def wAt (ws : List Nat) (i : Nat) : Nat := ws.getD i 0
def Wok (ws : List Nat) : Prop := ∀ x ∈ ws, x < 18446744073709551616
theorem gI_len (ws : List Nat) : (gI ws).length = ws.length := by simp [gI]
theorem gI_rd (ws : List Nat) (i : Nat) : rd (gI ws) (i : Int) = ((wAt ws i : Nat) : Int) := by
  unfold rd gI wAt
  rw [Int.toNat_natCast, List.getD_eq_getElem?_getD, List.getD_eq_getElem?_getD, List.getElem?_map]
  cases ws[i]? <;> rfl
theorem wAt_get (ws : List Nat) (i : Nat) (h : i < ws.length) : wAt ws i = ws[i] := by
  unfold wAt
  rw [List.getD_eq_getElem?_getD, List.getElem?_eq_getElem h]
  rfl
theorem wAt_lt {ws : List Nat} (h : Wok ws) (i : Nat) : wAt ws i < 18446744073709551616 := by
  by_cases c : i < ws.length
  · rw [wAt_get ws i c]; exact h _ (List.getElem_mem c)
  · unfold wAt
    rw [List.getD_eq_getElem?_getD, List.getElem?_eq_none (by omega)]
    decide
theorem gI_ext {a b : List Nat} (hl : a.length = b.length) (h : ∀ i, i < a.length → wAt a i = wAt b i) : a = b := List.ext_getElem hl (fun i h1 h2 => by
  have := h i h1
  rwa [wAt_get a i h1, wAt_get b i h2] at this)
def isP (n : Nat) (a : Int) : Bool := decide (0 ≤ a ∧ a < (n : Int))
theorem is_f (ws : List Nat) (a : Int) : graph_is.f (gI ws) a = some (isP ws.length a) := by
  unfold graph_is.f isP
  rw [gI_len]
  by_cases h : a ≥ 0
  · rw [if_pos h]
    congr 1
    simp [h]
  · rw [if_neg h, decide_eq_false (by omega)]
def nbL (ws : List Nat) (a : Int) : List Int := if isP ws.length a = true then listN (wAt ws a.toNat) else []
theorem neighbors_f (ws : List Nat) (hw : Wok ws) (a : Int) : graph_Neighbors.f (gI ws) a = some (nbL ws a) := by
  unfold graph_Neighbors.f nbL
  rw [is_f, Option.bind_some]
  by_cases ha : isP ws.length a = true
  · have h1 := of_decide_eq_true ha
    obtain ⟨i, rfl⟩ := Int.eq_ofNat_of_zero_le h1.1
    rw [if_pos ha, if_pos (by omega), if_pos (by rw [gI_len]; omega), gI_rd, list_f _ (wAt_lt hw i), Option.bind_some, if_pos ha, Int.toNat_natCast]
  · rw [if_neg ha, if_neg ha]
def joinW (ws : List Nat) (a b : Int) : List Nat := if isP ws.length a = true ∧ isP ws.length b = true ∧ a ≠ b then
  (ws.set a.toNat (wAt ws a.toNat ||| 2 ^ b.toNat)).set b.toNat (wAt (ws.set a.toNat (wAt ws a.toNat ||| 2 ^ b.toNat)) b.toNat ||| 2 ^ a.toNat) else ws
theorem wok_set {ws : List Nat} (hw : Wok ws) (i v : Nat) (hv : v < 18446744073709551616) : Wok (ws.set i v) := fun x hx => by
  rcases List.mem_or_eq_of_mem_set hx with h | h
  · exact hw x h
  · rw [h]; exact hv
theorem gI_set (ws : List Nat) (i v : Nat) : (gI ws).set i (v : Int) = gI (ws.set i v) := by unfold gI; rw [List.map_set]
theorem or_pow {x b : Nat} (hx : x < 18446744073709551616) (hb : b < 64) : x ||| 2 ^ b < 18446744073709551616 ∧ Go.bits .or .u64 (x : Int) (shl .u64 1 (b : Int)) = ((x ||| 2 ^ b : Nat) : Int) := by
  rw [shl_one b hb]
  exact or_u64 x (2 ^ b) hx (pow_lt_64 b hb)
theorem join_f (ws : List Nat) (hw : Wok ws) (hn : ws.length ≤ 64) (a b : Int) : graph_Join.f (gI ws) a b = some (gI (joinW ws a b)) ∧ Wok (joinW ws a b) := by
  unfold graph_Join.f joinW
  have hc : slices_Clone_uint64_uint64.f (gI ws) = some (gI ws) := by unfold slices_Clone_uint64_uint64.f; rw [if_pos (by rw [gI_len]; omega)]
  rw [hc, Option.bind_some, is_f, Option.bind_some, is_f]
  by_cases ha : isP ws.length a = true
  · by_cases hb : isP ws.length b = true
    · by_cases e : a = b
      · rw [if_pos ha, Option.bind_some, if_pos hb, if_pos e, if_neg (by simp [e])]
        exact ⟨rfl, hw⟩
      · have h1 := of_decide_eq_true ha
        have h2 := of_decide_eq_true hb
        obtain ⟨i, rfl⟩ := Int.eq_ofNat_of_zero_le h1.1
        obtain ⟨k, rfl⟩ := Int.eq_ofNat_of_zero_le h2.1
        obtain ⟨o1, o2⟩ := or_pow (wAt_lt hw i) (show k < 64 by omega)
        have hw2 := wok_set hw i _ o1
        obtain ⟨o3, o4⟩ := or_pow (wAt_lt hw2 k) (show i < 64 by omega)
        rw [if_pos ha, Option.bind_some, if_pos hb, if_neg e, if_pos (by omega), if_pos (by rw [gI_len]; omega), if_pos (by omega), if_pos ⟨ha, hb, e⟩]
        simp only [Option.bind_some, Int.toNat_natCast]
        rw [if_pos (by rw [gI_len]; omega), gI_rd, o2, gI_set, gI_rd, o4, gI_set]
        exact ⟨rfl, wok_set hw2 k _ o3⟩
    · rw [if_pos ha, Option.bind_some, if_neg hb, if_neg (by simp [hb])]
      exact ⟨rfl, hw⟩
  · rw [if_neg ha, if_neg (by simp [ha])]
    exact ⟨rfl, hw⟩
theorem joinW_len (ws : List Nat) (a b : Int) : (joinW ws a b).length = ws.length := by
  unfold joinW
  split <;> simp
theorem wAt_set (ws : List Nat) (i v k : Nat) (h : i < ws.length) : wAt (ws.set i v) k = if k = i then v else wAt ws k := by
  unfold wAt
  rw [List.getD_eq_getElem?_getD, List.getD_eq_getElem?_getD, List.getElem?_set]
  by_cases e : i = k
  · rw [if_pos e, if_pos h, if_pos e.symm]; rfl
  · rw [if_neg e, if_neg (fun h => e h.symm)]
theorem join_bit (ws : List Nat) (a b : Int) (i k : Nat) : (wAt (joinW ws a b) i).testBit k = ((wAt ws i).testBit k || (isP ws.length a && isP ws.length b && decide (a ≠ b) && (decide ((i : Int) = a ∧ (k : Int) = b) || decide ((i : Int) = b ∧ (k : Int) = a)))) := by
  unfold joinW
  by_cases c : isP ws.length a = true ∧ isP ws.length b = true ∧ a ≠ b
  · rw [if_pos c]
    obtain ⟨ha, hb, e⟩ := c
    have h1 := of_decide_eq_true ha
    have h2 := of_decide_eq_true hb
    obtain ⟨p, rfl⟩ := Int.eq_ofNat_of_zero_le h1.1
    obtain ⟨q, rfl⟩ := Int.eq_ofNat_of_zero_le h2.1
    have e2 : p ≠ q := fun h => e (by rw [h])
    rw [ha, hb, Bool.and_self, Bool.true_and, decide_eq_true e, Bool.true_and]
    simp only [Int.toNat_natCast]
    rw [wAt_set _ q _ i (by rw [List.length_set]; omega), wAt_set ws p _ q (by omega), wAt_set ws p _ i (by omega), if_neg (show ¬ q = p from fun h => e2 h.symm)]
    by_cases c1 : i = q
    · subst c1
      rw [if_pos rfl, Nat.testBit_or, pow_bit]
      have : ¬ i = p := fun h => e2 h.symm
      congr 1
      rw [Bool.eq_iff_iff, Bool.or_eq_true, decide_eq_true_iff, decide_eq_true_iff, decide_eq_true_iff]
      exact ⟨fun h => .inr ⟨rfl, by omega⟩, fun h => by rcases h with ⟨h1, h2⟩ | ⟨h1, h2⟩ <;> omega⟩
    · rw [if_neg c1]
      by_cases c2 : i = p
      · subst c2
        rw [if_pos rfl, Nat.testBit_or, pow_bit]
        congr 1
        rw [Bool.eq_iff_iff, Bool.or_eq_true, decide_eq_true_iff, decide_eq_true_iff, decide_eq_true_iff]
        exact ⟨fun h => .inl ⟨rfl, by omega⟩, fun h => by rcases h with ⟨h1, h2⟩ | ⟨h1, h2⟩ <;> omega⟩
      · rw [if_neg c2]
        have : (decide ((i : Int) = (p : Int) ∧ (k : Int) = (q : Int)) || decide ((i : Int) = (q : Int) ∧ (k : Int) = (p : Int))) = false := by
          rw [decide_eq_false (by omega), decide_eq_false (by omega)]; rfl
        rw [this, Bool.or_false]
  · rw [if_neg c]
    have : (isP ws.length a && isP ws.length b && decide (a ≠ b) && (decide ((i : Int) = a ∧ (k : Int) = b) || decide ((i : Int) = b ∧ (k : Int) = a))) = false := by
      rw [Bool.eq_false_iff]
      intro h
      simp only [Bool.and_eq_true, decide_eq_true_eq] at h
      exact c ⟨h.1.1.1, h.1.1.2, h.1.2⟩
    rw [this, Bool.or_false]
def rowR (ws : List Nat) (i : Nat) : Bool := decide (wAt ws i < 2 ^ ws.length) && (listN (wAt ws i)).all fun k => !(k == (i : Int)) && (wAt ws k.toNat).testBit i
def rightB (ws : List Nat) : Bool := decide (ws.length ≤ 40) && (List.range ws.length).all (rowR ws)
theorem listN_in {x n : Nat} (h : x < 2 ^ n) (v : Int) (hv : v ∈ listN x) : 0 ≤ v ∧ v < (n : Int) := by
  obtain ⟨i, h1, h2, rfl⟩ := (mem_listW x v).1 hv
  refine ⟨by omega, ?_⟩
  by_cases c : i < n
  · omega
  · rw [bits_ge h (by omega)] at h2
    cases h2
theorem rightB_iff (ws : List Nat) : rightB ws = true ↔ ws.length ≤ 40 ∧ ∀ i, i < ws.length → wAt ws i < 2 ^ ws.length ∧ ∀ k, k < ws.length → (wAt ws i).testBit k = true → k ≠ i ∧ (wAt ws k).testBit i = true := by
  unfold rightB rowR
  simp only [Bool.and_eq_true, decide_eq_true_eq, List.all_eq_true, List.mem_range]
  constructor
  · rintro ⟨h1, h2⟩
    refine ⟨h1, fun i hi => ⟨(h2 i hi).1, fun k hk hb => ?_⟩⟩
    have := (h2 i hi).2 (k : Int) ((mem_listW _ _).2 ⟨k, by omega, hb, rfl⟩)
    simp only [Bool.not_eq_true', beq_eq_false_iff_ne, Int.toNat_natCast] at this
    exact ⟨fun e => this.1 (by rw [e]), this.2⟩
  · rintro ⟨h1, h2⟩
    refine ⟨h1, fun i hi => ⟨(h2 i hi).1, fun v hv => ?_⟩⟩
    obtain ⟨k, k1, k2, rfl⟩ := (mem_listW _ _).1 hv
    have hk := listN_in (h2 i hi).1 _ hv
    obtain ⟨g1, g2⟩ := (h2 i hi).2 k (by omega) k2
    simp only [Bool.not_eq_true', beq_eq_false_iff_ne, Int.toNat_natCast]
    exact ⟨fun e => g1 (by omega), g2⟩
def rowT (n : Nat) (f : Nat → Bool) : List Bool := (List.range n).map f
def mat (n : Nat) (f : Nat → Nat → Bool) : List (List Bool) := (List.range n).map fun i => rowT n (f i)
theorem rowT_len (n : Nat) (f : Nat → Bool) : (rowT n f).length = n := by simp [rowT]
theorem mat_len (n : Nat) (f : Nat → Nat → Bool) : (mat n f).length = n := by simp [mat]
theorem rowT_rd (n : Nat) (f : Nat → Bool) (k : Nat) (h : k < n) : rdOf false (rowT n f) (k : Int) = f k := by
  unfold rdOf rowT
  rw [Int.toNat_natCast, List.getD_eq_getElem?_getD, List.getElem?_map, List.getElem?_range h]
  rfl
theorem mat_rd (n : Nat) (f : Nat → Nat → Bool) (i : Nat) (h : i < n) : rd_L8 (mat n f) (i : Int) = rowT n (f i) := by
  unfold rd_L8 mat
  rw [Int.toNat_natCast, List.getD_eq_getElem?_getD, List.getElem?_map, List.getElem?_range h]
  rfl
theorem rowT_set (n : Nat) (f : Nat → Bool) (k : Nat) (b : Bool) : (rowT n f).set k b = rowT n fun j => if j = k then b else f j := by
  unfold rowT
  apply List.ext_getElem
  · simp
  · intro j h1 h2
    rw [List.getElem_set]
    simp only [List.getElem_map, List.getElem_range]
    by_cases e : k = j
    · rw [if_pos e, if_pos e.symm]
    · rw [if_neg e, if_neg (fun h => e h.symm)]
theorem mat_set (n : Nat) (f : Nat → Nat → Bool) (i : Nat) (g : Nat → Bool) : (mat n f).set i (rowT n g) = mat n fun j => if j = i then g else f j := by
  unfold mat
  apply List.ext_getElem
  · simp
  · intro j h1 h2
    rw [List.getElem_set]
    simp only [List.getElem_map, List.getElem_range]
    by_cases e : i = j
    · rw [if_pos e, if_pos e.symm]
    · rw [if_neg e, if_neg (fun h => e h.symm)]
theorem rowT_congr {n : Nat} {f g : Nat → Bool} (h : ∀ k, k < n → f k = g k) : rowT n f = rowT n g := List.map_congr_left (fun k hk => h k (List.mem_range.1 hk))
theorem mat_congr {n : Nat} {f g : Nat → Nat → Bool} (h : ∀ i k, i < n → k < n → f i k = g i k) : mat n f = mat n g := List.map_congr_left (fun i hi => rowT_congr (fun k hk => h i k (List.mem_range.1 hi) hk))
theorem rep_row (n : Nat) : List.replicate n false = rowT n fun _ => false := by
  unfold rowT
  apply List.ext_getElem
  · simp
  · intro j h1 h2; simp
def gW (n : Nat) (f : Nat → Nat → Bool) : List Nat := (List.range n).map fun i => wd n (f i)
theorem gW_len (n : Nat) (f : Nat → Nat → Bool) : (gW n f).length = n := by simp [gW]
theorem gW_at (n : Nat) (f : Nat → Nat → Bool) (i : Nat) (h : i < n) : wAt (gW n f) i = wd n (f i) := by
  unfold wAt gW
  rw [List.getD_eq_getElem?_getD, List.getElem?_map, List.getElem?_range h]
  rfl
theorem gW_ok {n : Nat} (h : n ≤ 64) (f : Nat → Nat → Bool) : Wok (gW n f) := fun x hx => by
  obtain ⟨i, _, rfl⟩ := List.mem_map.1 hx
  exact wd_64 h _
theorem gW_bit (n : Nat) (f : Nat → Nat → Bool) (i k : Nat) : (wAt (gW n f) i).testBit k = (decide (i < n) && (decide (k < n) && f i k)) := by
  by_cases h : i < n
  · rw [gW_at n f i h, wd_bit, decide_eq_true h, Bool.true_and]
  · rw [decide_eq_false h, Bool.false_and]
    unfold wAt
    rw [List.getD_eq_getElem?_getD, List.getElem?_eq_none (by rw [gW_len]; omega)]
    simp
theorem gW_congr {n : Nat} {f g : Nat → Nat → Bool} (h : ∀ i k, i < n → k < n → f i k = g i k) : gW n f = gW n g := gI_ext (by rw [gW_len, gW_len]) (fun i hi => Nat.eq_of_testBit_eq (fun k => by
  rw [gW_len] at hi
  rw [gW_bit, gW_bit, decide_eq_true hi]
  simp only [Bool.true_and]
  by_cases c : k < n
  · rw [h i k hi c]
  · rw [decide_eq_false c]; rfl))
theorem gW_right (n : Nat) (hn : n ≤ 40) (f : Nat → Nat → Bool) (h : ∀ i k, i < n → k < n → f i k = true → k ≠ i ∧ f k i = true) : rightB (gW n f) = true := by
  rw [rightB_iff, gW_len]
  refine ⟨hn, fun i hi => ⟨by rw [gW_at n f i hi]; exact wd_lt _ _, fun k hk hb => ?_⟩⟩
  rw [gW_bit, decide_eq_true hi, decide_eq_true hk] at hb
  obtain ⟨h1, h2⟩ := h i k hi hk (by simpa using hb)
  refine ⟨h1, ?_⟩
  rw [gW_bit, decide_eq_true hi, decide_eq_true hk, h2]
  rfl
theorem graph_l1 (n : Nat) (hn : n ≤ 64) (f : Nat → Nat → Bool) (i : Nat) (hi : i < n) (o : List Int) (ho : o.length < 17592186044416) (R : List Int) (H : Ev (fun k => arboristref08_Graph.l0 k (mat n f) ((i + 1 : Nat) : Int) (o ++ [((wd n (f i) : Nat) : Int)])) R) :
    ∀ (d j : Nat), j + d = n → Ev (fun k => arboristref08_Graph.l1 k (mat n f) (i : Int) ((wd j (f i) : Nat) : Int) (j : Int) o) R
  | 0, j, h => by
    obtain rfl : j = n := by omega
    refine evs1 H (fun k e => ?_)
    rw [arboristref08_Graph.l1, mat_len, if_neg (by omega), if_pos ho, wrap_nat i (by omega)]
    exact e
  | d + 1, j, h => by
    refine evs1 (graph_l1 n hn f i hi o ho R H d (j + 1) (by omega)) (fun k e => ?_)
    have hw : IntKind.u64.wrap (j : Int) = (j : Int) := by rw [IntKind.wrap_u64]; omega
    rw [arboristref08_Graph.l1, mat_len, if_pos (by omega), if_pos (by omega), if_pos (by omega), if_pos (by omega), mat_rd n f i hi, rowT_len, if_pos (by omega), rowT_rd n (f i) j (by omega), hw, wrap_nat j (by omega)]
    rw [wd] at e
    by_cases c : f i j = true
    · rw [if_pos c] at e ⊢
      have h1 := wd_lt j (f i)
      have h2 := pow_lt_64 j (by omega)
      have h3 : IntKind.u64.wrap (((wd j (f i) : Nat) : Int) + ((2 ^ j : Nat) : Int)) = ((2 ^ j * 1 + wd j (f i) : Nat) : Int) := by
        have h4 : 2 ^ j * 1 + wd j (f i) < 18446744073709551616 := by
          have := wd_64 (show j + 1 ≤ 64 by omega) (f i)
          rw [wd, if_pos c] at this
          exact this
        obtain ⟨p, hp⟩ : ∃ p : Nat, p = 2 ^ j := ⟨_, rfl⟩
        rw [← hp] at h4 ⊢
        rw [IntKind.wrap_u64]
        omega
      rw [if_pos (by omega), shl_one j (by omega), h3]
      exact e
    · rw [if_neg c] at e ⊢
      rw [Nat.mul_zero, Nat.zero_add] at e
      exact e
theorem graph_l0 (n : Nat) (hn : n ≤ 64) (f : Nat → Nat → Bool) : ∀ (d i : Nat), i + d = n → Ev (fun k => arboristref08_Graph.l0 k (mat n f) (i : Int) (gI ((List.range i).map fun j => wd n (f j)))) (gI (gW n f))
  | 0, i, h => by
    obtain rfl : i = n := by omega
    exact evs0 (fun k => by rw [arboristref08_Graph.l0, mat_len, if_neg (by omega)]; rfl)
  | d + 1, i, h => by
    have hr := graph_l0 n hn f d (i + 1) (by omega)
    rw [List.range_succ, List.map_append] at hr
    have e0 : gI ((List.range i).map (fun j => wd n (f j)) ++ [i].map (fun j => wd n (f j))) = gI ((List.range i).map fun j => wd n (f j)) ++ [((wd n (f i) : Nat) : Int)] := by simp [gI]
    rw [e0] at hr
    have hl : (gI ((List.range i).map fun j => wd n (f j))).length < 17592186044416 := by rw [gI_len]; simp; omega
    refine evs1 (graph_l1 n hn f i (by omega) _ hl _ hr n 0 (by omega)) (fun k e => ?_)
    rw [arboristref08_Graph.l0, mat_len, if_pos (by omega)]
    exact e
theorem graph_ev (n : Nat) (hn : n ≤ 64) (f : Nat → Nat → Bool) : Ev (fun k => arboristref08_Graph.f k (mat n f)) (gI (gW n f)) := graph_l0 n hn f n 0 (by omega)
theorem empty_l0 (n : Nat) (hn : n ≤ 1000) : ∀ (d i : Nat), i + d = n → Ev (fun k => arboristref08_Empty.l0 k (n : Int) (List.replicate i (rowT n fun _ => false)) (i : Int)) (mat n fun _ _ => false)
  | 0, i, h => by
    obtain rfl : i = n := by omega
    refine evs0 (fun k => ?_)
    rw [arboristref08_Empty.l0, if_neg (by omega)]
    congr 1
    unfold mat
    apply List.ext_getElem
    · simp
    · intro j h1 h2; simp
  | d + 1, i, h => by
    have hr := empty_l0 n hn d (i + 1) (by omega)
    rw [List.replicate_succ'] at hr
    refine evs1 hr (fun k e => ?_)
    rw [arboristref08_Empty.l0, if_pos (by omega), if_pos (by omega), if_pos (by omega), if_pos (by simp; omega), Int.toNat_natCast, rep_row, wrap_nat i (by omega)]
    exact e
theorem empty_ev (n : Nat) (hn : n ≤ 1000) : Ev (fun k => arboristref08_Empty.f k (n : Int)) (mat n fun _ _ => false) := empty_l0 n hn n 0 (by omega)
theorem ofT_from (n : Nat) (f : Nat → Bool) (j : Nat) (h : j < n) : ((List.range' j (n - j)).filter f) = if f j = true then j :: (List.range' (j + 1) (n - (j + 1))).filter f else (List.range' (j + 1) (n - (j + 1))).filter f := by
  rw [show n - j = (n - (j + 1)) + 1 by omega, List.range'_succ, List.filter_cons]
theorem evp {ρ : Type} {F g : Nat → Option ρ} {r : ρ} (h : Ev g r) (H : ∀ k, g k = some r → F (k + 1) = some r) : Ev F r := evs1 h H
theorem neigh_l0 (n : Nat) (hn : n ≤ 1000) (f : Nat → Nat → Bool) (a : Nat) (ha : a < n) : ∀ (d j : Nat) (o : List Int), j + d = n → o.length ≤ j → Ev (fun k => arboristref08_Neighbors.l0 k (mat n f) (a : Int) o (j : Int)) (o ++ ((List.range' j (n - j)).filter (f a)).map fun (i : Nat) => (i : Int))
  | 0, j, o, h, ho => by
    rw [show n - j = 0 by omega]
    refine evs1 (evs0 (F := fun k => arboristref08_Neighbors.j1 k (mat n f) (a : Int) o (j : Int) false) (r := o ++ ((List.range' j 0).filter (f a)).map fun (i : Nat) => (i : Int)) (fun k => ?_)) (fun k e => ?_)
    · rw [arboristref08_Neighbors.j1, if_neg (by decide)]; simp
    · rw [arboristref08_Neighbors.l0, mat_len, if_neg (by omega)]; exact e
  | d + 1, j, o, h, ho => by
    rw [ofT_from n (f a) j (by omega)]
    by_cases c : f a j = true
    · rw [if_pos c]
      have hr := neigh_l0 n hn f a ha d (j + 1) (o ++ [(j : Int)]) (by omega) (by simp; omega)
      rw [List.append_assoc] at hr
      refine evp (g := fun k => arboristref08_Neighbors.j1 k (mat n f) (a : Int) o (j : Int) true) (evp hr (fun k e => ?_)) (fun k e => ?_)
      · rw [arboristref08_Neighbors.j1, if_pos rfl, if_pos (by omega), mat_len, if_pos (by omega), if_pos (by omega), mat_rd n f a ha, rowT_len, if_pos (by omega), rowT_rd n (f a) j (by omega), if_pos c, if_pos (by omega), wrap_nat j (by omega)]
        exact e
      · rw [arboristref08_Neighbors.l0, mat_len, if_pos (by omega), if_pos (by omega), decide_eq_true (by omega)]; exact e
    · rw [if_neg c]
      have hr := neigh_l0 n hn f a ha d (j + 1) o (by omega) (by omega)
      refine evp (g := fun k => arboristref08_Neighbors.j1 k (mat n f) (a : Int) o (j : Int) true) (evp hr (fun k e => ?_)) (fun k e => ?_)
      · rw [arboristref08_Neighbors.j1, if_pos rfl, if_pos (by omega), mat_len, if_pos (by omega), if_pos (by omega), mat_rd n f a ha, rowT_len, if_pos (by omega), rowT_rd n (f a) j (by omega), if_neg c, wrap_nat j (by omega)]
        exact e
      · rw [arboristref08_Neighbors.l0, mat_len, if_pos (by omega), if_pos (by omega), decide_eq_true (by omega)]; exact e
theorem neigh_ev (n : Nat) (hn : n ≤ 1000) (f : Nat → Nat → Bool) (a : Int) : Ev (fun k => arboristref08_Neighbors.f k (mat n f) a) (if isP n a = true then ofT n (f a.toNat) else []) := by
  by_cases c : isP n a = true
  · have h := of_decide_eq_true c
    obtain ⟨i, rfl⟩ := Int.eq_ofNat_of_zero_le h.1
    have hr := neigh_l0 n hn f i (by omega) n 0 [] (by omega) (by simp)
    rw [if_pos c]
    rw [List.nil_append, Nat.sub_zero, ← List.range_eq_range'] at hr
    exact hr
  · rw [if_neg c]
    have h : ¬ (0 ≤ a ∧ a < (n : Int)) := of_decide_eq_false (Bool.not_eq_true _ |>.mp c)
    have hj : Ev (fun k => arboristref08_Neighbors.j1 k (mat n f) a [] 0 false) [] := evs0 (fun k => by rw [arboristref08_Neighbors.j1, if_neg (by decide)])
    refine evs1 hj (fun k e => ?_)
    rw [arboristref08_Neighbors.f, arboristref08_Neighbors.l0, mat_len]
    by_cases c1 : (0 : Int) < (n : Int)
    · rw [if_pos c1]
      by_cases c2 : a ≥ 0
      · rw [if_pos c2, decide_eq_false (by omega)]; exact e
      · rw [if_neg c2]; exact e
    · rw [if_neg c1]; exact e
theorem mn_cut {α : Type} (l : List α) (n : Nat) : 0 ≤ mn (l.length : Int) n ∧ mn (l.length : Int) n ≤ l.length ∧ l.take (mn (l.length : Int) n).toNat = l.take n := by
  unfold mn
  split
  · refine ⟨by omega, by omega, by simp⟩
  · refine ⟨by omega, by omega, ?_⟩
    rw [List.take_of_length_le (by omega), List.take_of_length_le (by omega)]
section
variable (ws : List Nat)
def bF (i k : Nat) : Bool := (wAt ws i).testBit k
end
theorem low16 (x : Int) : 0 ≤ Go.bits .and .i64 x 65535 ∧ Go.bits .and .i64 x 65535 ≤ 65535 := by
  have h2 : (BitVec.ofInt 64 (65535 : Int)).toNat = 65535 := by decide
  have h3 : (BitVec.ofInt 64 x &&& BitVec.ofInt 64 (65535 : Int)).toNat ≤ 65535 := by
    rw [BitVec.toNat_and, h2]; exact Nat.and_le_right
  have e : Go.bits .and .i64 x 65535 = IntKind.i64.wrap ((BitVec.ofInt 64 x &&& BitVec.ofInt 64 (65535 : Int)).toNat : Int) := rfl
  rw [e, IntKind.wrap_i64]
  omega
theorem kT_in {n : Nat} (h : 0 < n) (x : Int) : ∃ k : Nat, k < n ∧ Int.tmod (Go.bits .and .i64 x 65535) (n : Int) = (k : Int) := by
  obtain ⟨h1, h2⟩ := low16 x
  have a := Int.tmod_nonneg (n : Int) h1
  have b := Int.tmod_lt_of_pos (Go.bits .and .i64 x 65535) (show (0 : Int) < (n : Int) by omega)
  exact ⟨(Int.tmod (Go.bits .and .i64 x 65535) (n : Int)).toNat, by omega, by omega⟩
def Sy (n : Nat) (f : Nat → Nat → Bool) : Prop := (∀ i k, f i k = f k i) ∧ (∀ i, f i i = false) ∧ ∀ i k, f i k = true → i < n ∧ k < n
def addE (f : Nat → Nat → Bool) (a b : Nat) : Nat → Nat → Bool := fun i k => f i k || (decide (i = a ∧ k = b) || decide (i = b ∧ k = a))
theorem Sy.no (n : Nat) : Sy n fun _ _ => false := ⟨fun _ _ => rfl, fun _ => rfl, fun _ _ h => by cases h⟩
theorem Sy.add {n : Nat} {f : Nat → Nat → Bool} (h : Sy n f) {a b : Nat} (ha : a < n) (hb : b < n) (e : a ≠ b) : Sy n (addE f a b) := by
  obtain ⟨h1, h2, h3⟩ := h
  refine ⟨fun i k => ?_, fun i => ?_, fun i k => ?_⟩
  · unfold addE
    rw [h1 i k]
    congr 1
    rw [Bool.eq_iff_iff]
    simp only [Bool.or_eq_true, decide_eq_true_eq]
    omega
  · unfold addE
    rw [h2 i, decide_eq_false (by omega), decide_eq_false (by omega)]
    rfl
  · unfold addE
    rw [Bool.or_eq_true, Bool.or_eq_true, decide_eq_true_iff, decide_eq_true_iff]
    rintro (h | h | h)
    · exact h3 i k h
    · omega
    · omega
theorem Sy.right {n : Nat} {f : Nat → Nat → Bool} (h : Sy n f) (hn : n ≤ 40) : rightB (gW n f) = true := gW_right n hn f (fun i k _ _ hb => ⟨fun e => (by rw [e, h.2.1] at hb; cases hb), (by rw [h.1]; exact hb)⟩)
theorem mat_edge (n : Nat) (f : Nat → Nat → Bool) (a b : Nat) (ha : a < n) (hb : b < n) (y : List (List Bool)) (hy : y = (mat n f).set a ((rd_L8 (mat n f) (a : Int)).set b true)) :
    y.length = n ∧ (rd_L8 y (b : Int)).length = n ∧ y.set b ((rd_L8 y (b : Int)).set a true) = mat n (addE f a b) := by
  rw [mat_rd n f a ha, rowT_set, mat_set] at hy
  subst hy
  rw [mat_len, mat_rd n _ b hb, rowT_len, rowT_set, mat_set]
  refine ⟨rfl, rfl, mat_congr (fun i k hi hk => ?_)⟩
  unfold addE
  by_cases c1 : i = b
  · subst c1
    rw [if_pos rfl]
    by_cases c2 : k = a
    · subst c2
      rw [if_pos rfl, decide_eq_true (show i = i ∧ k = k from ⟨rfl, rfl⟩)]
      simp
    · rw [if_neg c2, decide_eq_false (show ¬ (i = i ∧ k = a) by omega), Bool.or_false]
      by_cases c3 : i = a
      · subst c3
        rw [if_pos rfl]
        by_cases c4 : k = i
        · exact absurd c4 c2
        · rw [if_neg c4, decide_eq_false (by omega), Bool.or_false]
      · rw [if_neg c3, decide_eq_false (by omega), Bool.or_false]
  · rw [if_neg c1, decide_eq_false (show ¬ (i = b ∧ k = a) by omega), Bool.or_false]
    by_cases c3 : i = a
    · subst c3
      rw [if_pos rfl]
      by_cases c4 : k = b
      · rw [if_pos c4, decide_eq_true (by omega)]; simp
      · rw [if_neg c4, decide_eq_false (by omega), Bool.or_false]
    · rw [if_neg c3, decide_eq_false (by omega), Bool.or_false]
theorem joinW_gW {n : Nat} (f : Nat → Nat → Bool) {a b : Nat} (ha : a < n) (hb : b < n) (e : a ≠ b) : joinW (gW n f) (a : Int) (b : Int) = gW n (addE f a b) := by
  refine gI_ext (by rw [joinW_len, gW_len, gW_len]) (fun i hi => Nat.eq_of_testBit_eq (fun k => ?_))
  rw [joinW_len, gW_len] at hi
  have pa : isP n (a : Int) = true := decide_eq_true (by omega)
  have pb : isP n (b : Int) = true := decide_eq_true (by omega)
  rw [join_bit, gW_bit, gW_bit, gW_len, pa, pb, decide_eq_true hi]
  simp only [Bool.true_and, Bool.and_self]
  rw [decide_eq_true (show (a : Int) ≠ (b : Int) by omega), Bool.true_and]
  unfold addE
  by_cases c : k < n
  · rw [decide_eq_true c, Bool.true_and, Bool.true_and]
    congr 1
    rw [Bool.eq_iff_iff]
    simp only [Bool.or_eq_true, decide_eq_true_eq]
    omega
  · rw [decide_eq_false c, Bool.false_and, Bool.false_and, Bool.false_or, decide_eq_false (by omega), decide_eq_false (by omega)]
    rfl
def cliqB (n : Nat) (f : Nat → Nat → Bool) (l : List Int) : Bool := l.all (isP n) && l.all fun x => l.all fun y => x == y || f x.toNat y.toNat
theorem shown_9 : arboristlaw11_shown.f = some true := by decide +kernel
theorem made9_j (n : Nat) (l : List (List Int)) (f : Nat → Nat → Bool) (i : Nat) : Ev (fun k => arboristlaw11_made.j1 k (n : Int) l (mat n f) (i : Int) false) (mat n f) := evs0 (fun k => by rw [arboristlaw11_made.j1, if_neg (by decide)])
theorem made9_l0 (n : Nat) (hn : n ≤ 12) (l : List (List Int)) : ∀ (d i : Nat) (f : Nat → Nat → Bool), 40 = i + d → Sy n f → ∃ f', Sy n f' ∧ Ev (fun k => arboristlaw11_made.l0 k (n : Int) l (mat n f) (i : Int)) (mat n f')
  | 0, i, f, h, hf => by
    refine ⟨f, hf, evp (made9_j n l f i) (fun k e => ?_)⟩
    rw [arboristlaw11_made.l0]
    by_cases c : (i : Int) < (l.length : Int)
    · rw [if_pos c, if_neg (by omega)]; exact e
    · rw [if_neg c]; exact e
  | d + 1, i, f, h, hf => by
    by_cases c : i < l.length
    · by_cases c0 : n = 0
      · refine ⟨f, hf, evp (made9_j n l f i) (fun k e => ?_)⟩
        rw [arboristlaw11_made.l0, if_pos (by omega), if_pos (by omega), decide_eq_false (by omega)]
        exact e
      · -- an edge
        have hgo : ∀ {G : Nat → Option (List (List Bool))} {f' : Nat → Nat → Bool}, Ev G (mat n f') → (∀ k, arboristlaw11_made.j1 (k + 1) (n : Int) l (mat n f) (i : Int) true = G k) → Ev (fun k => arboristlaw11_made.l0 k (n : Int) l (mat n f) (i : Int)) (mat n f') := fun hG hj =>
          evp (g := fun k => arboristlaw11_made.j1 k (n : Int) l (mat n f) (i : Int) true) (evp hG (fun k e => by rw [hj]; exact e)) (fun k e => by
            rw [arboristlaw11_made.l0, if_pos (by omega), if_pos (by omega), decide_eq_true (by omega)]
            exact e)
        obtain ⟨e, he⟩ : ∃ e, e = rd_L1 l (i : Int) := ⟨_, rfl⟩
        obtain ⟨p, hp, hp2⟩ := kT_in (show 0 < n by omega) (rd e 0)
        obtain ⟨q, hq, hq2⟩ := kT_in (show 0 < n by omega) (rd e 1)
        by_cases c1 : e.length < 2
        · obtain ⟨f', s, hr⟩ := made9_l0 n hn l d (i + 1) f (by omega) hf
          refine ⟨f', s, hgo hr (fun k => ?_)⟩
          rw [arboristlaw11_made.j1, if_pos rfl, if_pos (by omega), if_pos (by omega), ← he, if_pos (by omega), wrap_nat i (by omega)]
        · by_cases c2 : p = q
          · obtain ⟨f', s, hr⟩ := made9_l0 n hn l d (i + 1) f (by omega) hf
            refine ⟨f', s, hgo hr (fun k => ?_)⟩
            rw [arboristlaw11_made.j1, if_pos rfl, if_pos (by omega), if_pos (by omega), ← he, if_neg (by omega), if_pos (by omega), if_neg (by omega), if_pos (by omega), hp2, hq2, if_pos (by omega), wrap_nat i (by omega)]
          · obtain ⟨f', s, hr⟩ := made9_l0 n hn l d (i + 1) (addE f p q) (by omega) (hf.add hp hq c2)
            obtain ⟨y, hy⟩ : ∃ y, y = (mat n f).set p ((rd_L8 (mat n f) (p : Int)).set q true) := ⟨_, rfl⟩
            obtain ⟨y1, y2, y3⟩ := mat_edge n f p q hp hq y hy
            refine ⟨f', s, hgo hr (fun k => ?_)⟩
            rw [arboristlaw11_made.j1, if_pos rfl, if_pos (by omega), if_pos (by omega), ← he, if_neg (by omega), if_pos (by omega), if_neg (by omega), if_pos (by omega), hp2, hq2, if_neg (by omega), if_pos (by omega), mat_len, if_pos (by omega), if_pos (by omega), if_pos (by rw [mat_rd n f p hp, rowT_len]; omega)]
            simp only [Option.bind_some, Int.toNat_natCast]
            rw [← hy, if_pos (by omega), if_pos (by omega), y3, wrap_nat i (by omega)]
    · refine ⟨f, hf, evp (made9_j n l f i) (fun k e => ?_)⟩
      rw [arboristlaw11_made.l0, if_neg (by omega)]
      exact e
theorem made9_ev (a : Int) (l : List (List Int)) : ∃ (n : Nat) (f : Nat → Nat → Bool), n ≤ 9 ∧ Sy n f ∧ Ev (fun k => arboristlaw11_made.f k a l) (mat n f) := by
  obtain ⟨n, hn, hn2⟩ := kT_in (show 0 < 10 by omega) a
  obtain ⟨f, hf, hr⟩ := made9_l0 n (by omega) l 40 0 (fun _ _ => false) (by omega) (Sy.no n)
  refine ⟨n, f, by omega, hf, evu2 (empty_ev n (by omega)) hr (fun k e1 e2 => ?_)⟩
  rw [show ((10 : Nat) : Int) = 10 from rfl] at hn2
  rw [arboristlaw11_made.f, hn2, e1, Option.bind_some]
  exact e2
def idI (n : Nat) : List Int := (List.range n).map fun (i : Nat) => (i : Int)
theorem idI_len (n : Nat) : (idI n).length = n := by simp [idI]
theorem idI_succ (n : Nat) : idI (n + 1) = idI n ++ [(n : Int)] := by simp [idI, List.range_succ]
theorem mem_idI {n : Nat} {x : Int} : x ∈ idI n ↔ ∃ k : Nat, k < n ∧ x = (k : Int) := by
  unfold idI
  simp only [List.mem_map, List.mem_range]
  constructor
  · rintro ⟨k, h, rfl⟩; exact ⟨k, h, rfl⟩
  · rintro ⟨k, h, rfl⟩; exact ⟨k, h, rfl⟩
theorem idI_nodup (n : Nat) : (idI n).Nodup := by
  unfold idI
  rw [List.Nodup, List.pairwise_map]
  exact List.nodup_range.imp (fun h e => h (by omega))
theorem given_step (out left : List Int) (p : Nat) (h : p < left.length) {I : List Int} (hp : (out ++ left).Perm I) : ((out ++ [rd left (p : Int)]) ++ (left.take p ++ left.drop (p + 1))).Perm I := by
  have hx : left[p]? = some (left[p]) := List.getElem?_eq_getElem h
  rw [rd_nat left p _ hx]
  have e : left = left.take p ++ left[p] :: left.drop (p + 1) := by rw [← List.drop_eq_getElem_cons h, List.take_append_drop]
  refine List.Perm.trans ?_ hp
  rw [List.append_assoc]
  refine List.Perm.append_left out ?_
  rw [List.singleton_append]
  conv => rhs; rw [e]
  exact List.perm_middle.symm
theorem given_l1 (n : Nat) (hn : n ≤ 1000) (l : List Int) (I : List Int) (d : Nat) : ∀ (i : Nat) (left out : List Int), i + d = n → left.length = d → out.length = i → (out ++ left).Perm I → ∃ o, o.Perm I ∧ Ev (fun k => arboristlaw11_given.l1 k (n : Int) l left out (i : Int)) o := by
  induction d with
  | zero =>
    intro i left out h hl ho hp
    obtain rfl := List.eq_nil_of_length_eq_zero hl
    exact ⟨out, by simpa using hp, evs0 (fun k => by rw [arboristlaw11_given.l1, if_neg (by omega)])⟩
  | succ d ih =>
    intro i left out h hl ho hp
    have next : ∀ p : Nat, p < left.length → ∃ o, o.Perm I ∧ Ev (fun k => arboristlaw11_given.l1 k (n : Int) l (left.take p ++ left.drop (p + 1)) (out ++ [rd left (p : Int)]) ((i + 1 : Nat) : Int)) o := fun p hpl =>
      ih (i + 1) _ _ (by omega) (by rw [List.length_append, List.length_take, List.length_drop]; omega) (by rw [List.length_append, ho]; rfl) (given_step out left p hpl hp)
    clear ih hp
    by_cases c : i < l.length
    · obtain ⟨p, hpl, hp2⟩ := kT_in (show 0 < left.length by omega) (rd l (i : Int))
      obtain ⟨o, ho1, ho2⟩ := next p hpl
      refine ⟨o, ho1, evp ho2 (fun k e => ?_)⟩
      have hq : wrap64 ((p : Int) + 1) = ((p + 1 : Nat) : Int) := wrap_nat p (by omega)
      have hw : wrap64 ((i : Int) + 1) = ((i + 1 : Nat) : Int) := wrap_nat i (by omega)
      have g1 : ([] : List Int).length + (left.take p).length < 17592186044416 := by rw [List.length_take]; simp; omega
      have g2 : (left.take p).length + (left.drop (p + 1)).length < 17592186044416 := by rw [List.length_take, List.length_drop]; omega
      rw [arboristlaw11_given.l1, if_pos (by omega), if_pos (by omega), if_pos (by omega), if_neg (by omega), hp2, if_pos (by omega), if_pos (by omega), if_pos (by omega)]
      rw [Option.bind_some, if_pos (by omega), Option.bind_some, Int.toNat_natCast, if_pos g1, Option.bind_some, hq, if_pos (by omega), if_pos (by omega), Option.bind_some, List.nil_append, Int.toNat_natCast, if_pos g2, hw]
      exact e
    · obtain ⟨o, ho1, ho2⟩ := next 0 (by omega)
      refine ⟨o, ho1, evp ho2 (fun k e => ?_)⟩
      have hw : wrap64 ((i : Int) + 1) = ((i + 1 : Nat) : Int) := wrap_nat i (by omega)
      have g1 : ([] : List Int).length + (left.take 0).length < 17592186044416 := by simp
      have g2 : (left.take 0).length + (left.drop 1).length < 17592186044416 := by simp; omega
      rw [arboristlaw11_given.l1, if_pos (by omega), if_neg (by omega), if_pos (by omega), if_pos (by omega)]
      rw [Option.bind_some, if_pos (by omega), Option.bind_some, if_pos g1, Option.bind_some, if_pos (by omega), Option.bind_some, List.nil_append, if_pos g2, hw]
      exact e
theorem given_l0 (n : Nat) (hn : n ≤ 1000) (l : List Int) : ∀ (d i : Nat), i + d = n → ∃ o, o.Perm (idI n) ∧ Ev (fun k => arboristlaw11_given.l0 k (n : Int) l (idI i) (i : Int)) o
  | 0, i, h => by
    obtain rfl : i = n := by omega
    obtain ⟨o, ho1, ho2⟩ := given_l1 i hn l (idI i) i 0 (idI i) [] (by omega) (idI_len i) rfl (by simp)
    refine ⟨o, ho1, evp ho2 (fun k e => ?_)⟩
    rw [arboristlaw11_given.l0, if_neg (by omega)]
    exact e
  | d + 1, i, h => by
    obtain ⟨o, ho1, ho2⟩ := given_l0 n hn l d (i + 1) (by omega)
    refine ⟨o, ho1, evp ho2 (fun k e => ?_)⟩
    rw [arboristlaw11_given.l0, if_pos (by omega), if_pos (by rw [idI_len]; omega), wrap_nat i (by omega), ← idI_succ]
    exact e
theorem given_ev (n : Nat) (hn : n ≤ 1000) (l : List Int) : ∃ o, o.Perm (idI n) ∧ Ev (fun k => arboristlaw11_given.f k (n : Int) l) o := given_l0 n hn l n 0 (by omega)
def goT (f : Nat → Nat → Bool) (v : Nat) : Nat → Nat → Bool := fun i k => !decide (i = v) && (!decide (k = v) && (f i k || (f v i && (f v k && !decide (i = k)))))
def nbN (n : Nat) (f : Nat → Nat → Bool) (v : Nat) : List Nat := (List.range n).filter (f v)
theorem mem_nbN {n : Nat} {f : Nat → Nat → Bool} {v x : Nat} : x ∈ nbN n f v ↔ x < n ∧ f v x = true := by unfold nbN; rw [List.mem_filter, List.mem_range]
theorem nbN_len (n : Nat) (f : Nat → Nat → Bool) (v : Nat) : (nbN n f v).length ≤ n := Nat.le_trans (List.length_filter_le _ _) (by simp)
theorem ofT_nbN (n : Nat) (f : Nat → Nat → Bool) (v : Nat) : ofT n (f v) = gI (nbN n f v) := rfl
theorem neigh9 (n : Nat) (hn : n ≤ 1000) (f : Nat → Nat → Bool) (v : Nat) (hv : v < n) : Ev (fun k => arboristref08_Neighbors.f k (mat n f) (v : Int)) (gI (nbN n f v)) := by
  have h := neigh_ev n hn f (v : Int)
  rw [if_pos (by unfold isP; exact decide_eq_true (by omega)), Int.toNat_natCast, ofT_nbN] at h
  exact h
theorem wAt_in {l : List Nat} {i : Nat} (h : i < l.length) : wAt l i ∈ l := by rw [wAt_get l i h]; exact List.getElem_mem h
theorem nodup_at {l : List Nat} (h : l.Nodup) {i k : Nat} (hi : i < l.length) (hk : k < l.length) (e : l[i] = l[k]) : i = k := by
  have hp := List.pairwise_iff_getElem.1 h
  rcases Nat.lt_trichotomy i k with c | c | c
  · exact absurd e (hp i k hi hk c)
  · exact c
  · exact absurd e.symm (hp k i hk hi c)
theorem take_one (l : List Nat) (j : Nat) (h : j < l.length) : l.take (j + 1) = l.take j ++ [wAt l j] := by rw [List.take_succ_eq_append_getElem h, wAt_get l j h]
def setT (f : Nat → Nat → Bool) (p q : Nat) (b : Bool) : Nat → Nat → Bool := fun i => if i = p then (fun k => if k = q then b else f p k) else f i
theorem setT_mat (n : Nat) (f : Nat → Nat → Bool) (p q : Nat) (b : Bool) (hp : p < n) (hq : q < n) : (mat n f).set p ((rd_L8 (mat n f) (p : Int)).set q b) = mat n (setT f p q b) := by
  rw [mat_rd n f p hp, rowT_set, mat_set]
  rfl
theorem setT_true (f : Nat → Nat → Bool) (p q i k : Nat) : setT f p q true i k = true ↔ f i k = true ∨ (i = p ∧ k = q) := by
  unfold setT
  by_cases c : i = p
  · subst c
    rw [if_pos rfl]
    by_cases c2 : k = q
    · rw [if_pos c2]; exact ⟨fun _ => .inr ⟨rfl, c2⟩, fun _ => rfl⟩
    · rw [if_neg c2]; exact ⟨.inl, fun h => h.elim id (fun h => absurd h.2 c2)⟩
  · rw [if_neg c]; exact ⟨.inl, fun h => h.elim id (fun h => absurd h.1 c)⟩
theorem setT_false (f : Nat → Nat → Bool) (p q i k : Nat) : setT f p q false i k = true ↔ f i k = true ∧ ¬ (i = p ∧ k = q) := by
  unfold setT
  by_cases c : i = p
  · subst c
    rw [if_pos rfl]
    by_cases c2 : k = q
    · rw [if_pos c2]; exact ⟨fun h => (by cases h), fun h => absurd ⟨rfl, c2⟩ h.2⟩
    · rw [if_neg c2]; exact ⟨fun h => ⟨h, fun h2 => c2 h2.2⟩, fun h => h.1⟩
  · rw [if_neg c]; exact ⟨fun h => ⟨h, fun h2 => c h2.1⟩, fun h => h.1⟩
theorem goT_iff {n : Nat} {f : Nat → Nat → Bool} (hf : Sy n f) (v p q : Nat) : goT f v p q = true ↔ ((f p q = true ∨ (f v p = true ∧ f v q = true ∧ p ≠ q)) ∧ ¬ ((p = v ∧ f v q = true) ∨ (f v p = true ∧ q = v))) := by
  unfold goT
  have hvv := hf.2.1 v
  by_cases c1 : p = v
  · subst c1
    simp [hvv]
  · by_cases c2 : q = v
    · subst c2
      rw [hf.1 p q]
      simp [c1, hvv]
    · simp [c1, c2]
theorem go_l2 (n : Nat) (hn : n ≤ 1000) (f F : Nat → Nat → Bool) (v : Nat) (hv : v < n) (l : List Nat) (hl : ∀ x ∈ l, x < n) (hll : l.length ≤ 1000)
    (hF : ∀ g : Nat → Nat → Bool, (∀ p q, g p q = true ↔ f p q = true ∧ ¬ ∃ j, j < l.length ∧ ((p = v ∧ q = wAt l j) ∨ (p = wAt l j ∧ q = v))) → mat n g = mat n F) (d : Nat) :
    ∀ j (g : Nat → Nat → Bool), j + d = l.length → (∀ p q, g p q = true ↔ f p q = true ∧ ¬ ∃ j', j' < j ∧ ((p = v ∧ q = wAt l j') ∨ (p = wAt l j' ∧ q = v))) → Ev (fun k => arboristref09_Go.l2 k (mat n g) (v : Int) (gI l) (j : Int)) (mat n F) := by
  induction d with
  | zero =>
    intro j g h hg
    obtain rfl : j = l.length := by omega
    exact evs0 (fun k => by rw [arboristref09_Go.l2, gI_len, if_neg (by omega), hF g hg])
  | succ d ih =>
    intro j g h hg
    have h2 := hl _ (wAt_in (show j < l.length by omega))
    have h3 := ih (j + 1) (setT (setT g v (wAt l j) false) (wAt l j) v false) (by omega) (fun p q => by
      rw [setT_false, setT_false, hg]
      constructor
      · rintro ⟨⟨⟨a, b⟩, c⟩, e⟩
        refine ⟨a, fun ⟨j', hj', hh⟩ => ?_⟩
        by_cases cj : j' = j
        · subst cj
          rcases hh with hh | hh
          · exact c hh
          · exact e hh
        · exact b ⟨j', by omega, hh⟩
      · rintro ⟨a, b⟩
        exact ⟨⟨⟨a, fun ⟨j', hj', hh⟩ => b ⟨j', by omega, hh⟩⟩, fun hh => b ⟨j, by omega, .inl hh⟩⟩, fun hh => b ⟨j, by omega, .inr hh⟩⟩)
    refine evp h3 (fun k e => ?_)
    rw [arboristref09_Go.l2, gI_len, if_pos (by omega), if_pos (by omega), mat_len, if_pos (by omega), if_pos (by omega), gI_rd, if_pos (by omega), mat_rd n g v hv, rowT_len, if_pos (by omega)]
    rw [Option.bind_some, if_pos (by omega)]
    have e1 := setT_mat n g v (wAt l j) false hv h2
    rw [mat_rd n g v hv] at e1
    rw [Int.toNat_natCast, Int.toNat_natCast, e1, mat_rd n _ _ h2, rowT_len, if_pos (by omega)]
    have e2 := setT_mat n (setT g v (wAt l j) false) (wAt l j) v false h2 hv
    rw [mat_rd n _ _ h2] at e2
    rw [e2, wrap_nat j (by omega)]
    exact e
def Did (f : Nat → Nat → Bool) (l : List Nat) (i k : Nat) (g : Nat → Nat → Bool) : Prop := ∀ p q, g p q = true ↔ f p q = true ∨ ∃ i' k', i' < l.length ∧ k' < l.length ∧ i' ≠ k' ∧ (i' < i ∨ (i' = i ∧ k' < k)) ∧ wAt l i' = p ∧ wAt l k' = q
theorem go_l1 (n : Nat) (hn : n ≤ 1000) (f : Nat → Nat → Bool) (v : Nat) (l : List Nat) (hl : ∀ x ∈ l, x < n) (hll : l.length ≤ 1000) (R : List (List Bool)) (i : Nat) (hi : i < l.length)
    (H : ∀ g, Did f l (i + 1) 0 g → Ev (fun k => arboristref09_Go.l0 k (mat n g) (v : Int) (gI l) ((i + 1 : Nat) : Int)) R) (d : Nat) : ∀ j g, j + d = l.length → Did f l i j g → Ev (fun k => arboristref09_Go.l1 k (mat n g) (v : Int) (gI l) (i : Int) (j : Int)) R := by
  induction d with
  | zero =>
    intro j g h hg
    obtain rfl : j = l.length := by omega
    refine evp (H g (fun p q => by
      rw [hg]
      constructor
      · rintro (a | ⟨i', k', h1, h2, h3, h4, h5⟩)
        · exact .inl a
        · exact .inr ⟨i', k', h1, h2, h3, .inl (by omega), h5⟩
      · rintro (a | ⟨i', k', h1, h2, h3, h4, h5⟩)
        · exact .inl a
        · exact .inr ⟨i', k', h1, h2, h3, by omega, h5⟩)) (fun k e => ?_)
    rw [arboristref09_Go.l1, gI_len, if_neg (by omega), wrap_nat i (by omega)]
    exact e
  | succ d ih =>
    intro j g h hg
    have h1 := hl _ (wAt_in hi)
    have h2 := hl _ (wAt_in (show j < l.length by omega))
    by_cases c : i = j
    · subst c
      refine evp (ih (i + 1) g (by omega) (fun p q => by
        rw [hg]
        constructor
        · rintro (a | ⟨i', k', q1, q2, q3, q4, q5⟩)
          · exact .inl a
          · exact .inr ⟨i', k', q1, q2, q3, by omega, q5⟩
        · rintro (a | ⟨i', k', q1, q2, q3, q4, q5⟩)
          · exact .inl a
          · exact .inr ⟨i', k', q1, q2, q3, by omega, q5⟩)) (fun k e => ?_)
      rw [arboristref09_Go.l1, gI_len, if_pos (by omega), if_pos rfl, wrap_nat i (by omega)]
      exact e
    · refine evp (ih (j + 1) (setT g (wAt l i) (wAt l j) true) (by omega) (fun p q => by
        rw [setT_true, hg]
        constructor
        · rintro ((a | ⟨i', k', q1, q2, q3, q4, q5⟩) | ⟨e1, e2⟩)
          · exact .inl a
          · exact .inr ⟨i', k', q1, q2, q3, by omega, q5⟩
          · exact .inr ⟨i, j, hi, by omega, c, .inr ⟨rfl, by omega⟩, e1.symm, e2.symm⟩
        · rintro (a | ⟨i', k', q1, q2, q3, q4, q5, q6⟩)
          · exact .inl (.inl a)
          · by_cases cc : i' = i ∧ k' = j
            · rw [cc.1] at q5; rw [cc.2] at q6; exact .inr ⟨q5.symm, q6.symm⟩
            · exact .inl (.inr ⟨i', k', q1, q2, q3, by omega, q5, q6⟩))) (fun k e => ?_)
      have e1 := setT_mat n g (wAt l i) (wAt l j) true h1 h2
      rw [mat_rd n g _ h1] at e1
      rw [arboristref09_Go.l1, gI_len, if_pos (by omega), if_neg (by omega), if_pos (by omega), if_pos (by omega), gI_rd, gI_rd, if_pos (by omega), mat_len, if_pos (by omega), if_pos (by omega), if_pos (by omega), mat_rd n g _ h1, rowT_len, if_pos (by omega), Int.toNat_natCast, Int.toNat_natCast, e1, wrap_nat j (by omega)]
      exact e
theorem go_l0 (n : Nat) (hn : n ≤ 1000) (f : Nat → Nat → Bool) (v : Nat) (l : List Nat) (hl : ∀ x ∈ l, x < n) (hll : l.length ≤ 1000) (R : List (List Bool))
    (H : ∀ g, Did f l l.length 0 g → Ev (fun k => arboristref09_Go.l2 k (mat n g) (v : Int) (gI l) 0) R) (d : Nat) : ∀ i g, i + d = l.length → Did f l i 0 g → Ev (fun k => arboristref09_Go.l0 k (mat n g) (v : Int) (gI l) (i : Int)) R := by
  induction d with
  | zero =>
    intro i g h hg
    obtain rfl : i = l.length := by omega
    refine evp (H g hg) (fun k e => ?_)
    rw [arboristref09_Go.l0, gI_len, if_neg (by omega)]
    exact e
  | succ d ih =>
    intro i g h hg
    refine evp (go_l1 n hn f v l hl hll R i (by omega) (fun g' hg' => ih (i + 1) g' (by omega) hg') l.length 0 g (by omega) hg) (fun k e => ?_)
    rw [arboristref09_Go.l0, gI_len, if_pos (by omega)]
    exact e
theorem go_ev (n : Nat) (hn : n ≤ 1000) (f : Nat → Nat → Bool) (hf : Sy n f) (v : Nat) (hv : v < n) : Ev (fun k => arboristref09_Go.f k (mat n f) (v : Int)) (mat n (goT f v)) := by
  have hln := nbN_len n f v
  have hin : ∀ x ∈ nbN n f v, x < n := fun x hx => (mem_nbN.1 hx).1
  have hat : ∀ x, (∃ j, j < (nbN n f v).length ∧ wAt (nbN n f v) j = x) ↔ f v x = true := fun x => by
    constructor
    · rintro ⟨j, hj, rfl⟩; exact (mem_nbN.1 (wAt_in hj)).2
    · intro h
      obtain ⟨j, hj, e⟩ := List.getElem_of_mem (mem_nbN.2 ⟨(hf.2.2 _ _ h).2, h⟩)
      exact ⟨j, hj, by rw [wAt_get _ _ hj, e]⟩
  refine evu2 (neigh9 n hn f v hv) (go_l0 n hn f v (nbN n f v) hin (by omega) (mat n (goT f v)) (fun g hg => ?_) (nbN n f v).length 0 f (by omega) (fun p q => ⟨.inl, fun h => h.elim id (fun ⟨i', k', _, _, _, h4, _⟩ => by omega)⟩)) (fun k e1 e2 => ?_)
  · refine go_l2 n hn g (goT f v) v hv (nbN n f v) hin (by omega) (fun g2 hg2 => mat_congr (fun p q hp hq => ?_)) (nbN n f v).length 0 g (by omega) (fun p q => ⟨fun h => ⟨h, fun ⟨j', hj', _⟩ => by omega⟩, fun h => h.1⟩)
    have e : g2 p q = true ↔ goT f v p q = true := by
      rw [hg2, hg, goT_iff hf]
      have m1 : (∃ i' k', i' < (nbN n f v).length ∧ k' < (nbN n f v).length ∧ i' ≠ k' ∧ (i' < (nbN n f v).length ∨ (i' = (nbN n f v).length ∧ k' < 0)) ∧ wAt (nbN n f v) i' = p ∧ wAt (nbN n f v) k' = q) ↔ (f v p = true ∧ f v q = true ∧ p ≠ q) := by
        constructor
        · rintro ⟨i', k', h1, h2, h3, _, h5, h6⟩
          refine ⟨(hat p).1 ⟨i', h1, h5⟩, (hat q).1 ⟨k', h2, h6⟩, fun e => h3 ?_⟩
          have hnd : (nbN n f v).Nodup := List.Nodup.sublist List.filter_sublist List.nodup_range
          rw [wAt_get _ _ h1] at h5
          rw [wAt_get _ _ h2] at h6
          exact nodup_at hnd h1 h2 (by rw [h5, h6, e])
        · rintro ⟨h1, h2, h3⟩
          obtain ⟨i', a1, a2⟩ := (hat p).2 h1
          obtain ⟨k', b1, b2⟩ := (hat q).2 h2
          exact ⟨i', k', a1, b1, fun e => h3 (by rw [← a2, ← b2, e]), .inl a1, a2, b2⟩
      have m2 : (∃ j, j < (nbN n f v).length ∧ ((p = v ∧ q = wAt (nbN n f v) j) ∨ (p = wAt (nbN n f v) j ∧ q = v))) ↔ ((p = v ∧ f v q = true) ∨ (f v p = true ∧ q = v)) := by
        constructor
        · rintro ⟨j, h1, (⟨h2, h3⟩ | ⟨h2, h3⟩)⟩
          · exact .inl ⟨h2, (hat q).1 ⟨j, h1, h3.symm⟩⟩
          · exact .inr ⟨(hat p).1 ⟨j, h1, h2.symm⟩, h3⟩
        · rintro (⟨h2, h3⟩ | ⟨h2, h3⟩)
          · obtain ⟨j, a1, a2⟩ := (hat q).2 h3; exact ⟨j, a1, .inl ⟨h2, a2.symm⟩⟩
          · obtain ⟨j, a1, a2⟩ := (hat p).2 h2; exact ⟨j, a1, .inr ⟨a2.symm, h3⟩⟩
      rw [m1, m2]
    cases h1 : g2 p q <;> cases h2 : goT f v p q <;> simp_all
  · rw [arboristref09_Go.f, e1, Option.bind_some]
    exact e2
theorem copy_l0 (n : Nat) (hn : n ≤ 1000) (f : Nat → Nat → Bool) (d : Nat) : ∀ i, i + d = n → Ev (fun k => arboristref09_Copy.l0 k (mat n f) ((List.range i).map fun j => rowT n (f j)) (i : Int)) (mat n f) := by
  induction d with
  | zero =>
    intro i h
    obtain rfl : i = n := by omega
    exact evs0 (fun k => by rw [arboristref09_Copy.l0, mat_len, if_neg (by omega)]; rfl)
  | succ d ih =>
    intro i h
    refine evp (ih (i + 1) (by omega)) (fun k e => ?_)
    rw [arboristref09_Copy.l0, mat_len, if_pos (by omega), Option.bind_some, if_pos (by omega), mat_rd n f i (by omega), rowT_len, if_pos (by simp; omega), List.length_map, List.length_range, if_pos (by omega), List.nil_append, wrap_nat i (by omega)]
    rw [List.range_succ, List.map_append] at e
    exact e
theorem copy_ev (n : Nat) (hn : n ≤ 1000) (f : Nat → Nat → Bool) : Ev (fun k => arboristref09_Copy.f k (mat n f)) (mat n f) := copy_l0 n hn f n 0 (by omega)
theorem nbN_nodup (n : Nat) (f : Nat → Nat → Bool) (v : Nat) : (nbN n f v).Nodup := List.Nodup.sublist List.filter_sublist List.nodup_range
def without (left : Nat → Bool) (v : Nat) : Nat → Bool := fun i => left i && !decide (v = i)
theorem mem_ofT {n : Nat} {g : Nat → Bool} {x : Int} : x ∈ ofT n g ↔ ∃ i : Nat, i < n ∧ g i = true ∧ x = (i : Int) := by
  unfold ofT
  simp only [List.mem_map, List.mem_filter, List.mem_range]
  constructor
  · rintro ⟨i, ⟨h1, h2⟩, rfl⟩; exact ⟨i, h1, h2, rfl⟩
  · rintro ⟨i, h1, h2, rfl⟩; exact ⟨i, ⟨h1, h2⟩, rfl⟩
theorem perm_of_in : ∀ (xs l : List Int), xs.Nodup → (∀ x ∈ xs, x ∈ l) → l.length ≤ xs.length → l.Perm xs
  | [], l, _, _, h => by
    have : l = [] := List.eq_nil_of_length_eq_zero (by simpa using h)
    rw [this]
  | x :: xs, l, hd, hin, hl => by
    have hx : x ∈ l := hin x List.mem_cons_self
    have h1 : l.Perm (x :: l.erase x) := List.perm_cons_erase hx
    have hlen := h1.length_eq
    have h2 := perm_of_in xs (l.erase x) (List.nodup_cons.1 hd).2 (fun y hy => by
      have hne : y ≠ x := fun e => (List.nodup_cons.1 hd).1 (e ▸ hy)
      exact (List.mem_erase_of_ne hne).2 (hin y (List.mem_cons_of_mem _ hy))) (by simp at hlen hl ⊢; omega)
    exact h1.trans (h2.cons x)
def validB (n : Nat) (l : List Int) : Bool := decide (l.length = n ∧ ∀ v, v < n → l.count (v : Int) = 1)
theorem idI_count (n v : Nat) (h : v < n) : (idI n).count (v : Int) = 1 := List.Nodup.count (idI_nodup n) |>.trans (if_pos (mem_idI.2 ⟨v, h, rfl⟩))
theorem validB_perm (n : Nat) (l : List Int) : validB n l = true ↔ l.Perm (idI n) := by
  unfold validB
  rw [decide_eq_true_iff]
  constructor
  · rintro ⟨h1, h2⟩
    refine perm_of_in (idI n) l (idI_nodup n) (fun x hx => ?_) (by rw [idI_len]; omega)
    obtain ⟨v, hv, rfl⟩ := mem_idI.1 hx
    exact List.count_pos_iff.1 (by rw [h2 v hv]; decide)
  · intro h
    exact ⟨by rw [h.length_eq, idI_len], fun v hv => by rw [h.count_eq, idI_count n v hv]⟩
theorem chkN_iff : ∀ (l : List Int) (i : Nat), chkN i l = true ↔ l = (List.range' i l.length).map fun (k : Nat) => (k : Int)
  | [], i => by simp [chkN]
  | x :: l, i => by
    rw [chkN, List.length_cons, List.range'_succ, List.map_cons]
    by_cases c : (i : Int) = x
    · rw [if_pos c, chkN_iff l (i + 1)]
      constructor
      · intro h; rw [← h, c]
      · intro h; exact (List.cons.inj h).2
    · rw [if_neg c]
      constructor
      · intro h; cases h
      · intro h; exact absurd (List.cons.inj h).1.symm c
theorem idI_sorted (n : Nat) : (idI n).Pairwise (· ≤ ·) := by
  unfold idI
  rw [List.pairwise_map]
  exact List.pairwise_lt_range.imp (fun h => by omega)
theorem chk_perm (l : List Int) : chkN 0 (SortedSeq.sortZ l) = true ↔ l.Perm (idI l.length) := by
  rw [chkN_iff, SortedSeq.sortZ_len, ← List.range_eq_range']
  constructor
  · intro h
    have hp := (SortedSeq.sortZ_perm l).symm
    have e : SortedSeq.sortZ l = idI l.length := h
    rw [e] at hp
    exact hp
  · intro h
    exact SortedSeq.sortZ_uniq ((SortedSeq.sortZ_perm l).trans h) (SortedSeq.sortZ_sorted l) (idI_sorted _)
theorem pvalid_f (n : Nat) (l : List Int) (hl : l.length < 17592186043904) : order_Valid.f (n : Int) l = some (validB n l) := by
  unfold order_Valid.f
  by_cases c : l.length = n
  · rw [if_pos (by omega), if_pos hl]
    congr 1
    have h1 := chk_perm l
    rw [c] at h1
    have h2 := validB_perm n l
    rw [Bool.eq_iff_iff, h1, h2]
  · rw [if_neg (by omega)]
    congr 1
    unfold validB
    rw [decide_eq_false (fun h => c h.1)]
def cntV (l : List Int) (v : Int) (j : Nat) : Nat := (l.take j).count v
theorem cntV_succ (l : List Int) (v : Int) (j : Nat) (h : j < l.length) : cntV l v (j + 1) = cntV l v j + if rd l (j : Int) = v then 1 else 0 := by
  unfold cntV
  rw [List.take_succ_eq_append_getElem h, List.count_append, rd_nat l j _ (List.getElem?_eq_getElem h), List.count_singleton]
  by_cases c : l[j] = v
  · rw [if_pos c, if_pos (by simpa using c)]
  · rw [if_neg c, if_neg (by simpa using c)]
theorem cntV_le (l : List Int) (v : Int) (j : Nat) : cntV l v j ≤ j := Nat.le_trans List.count_le_length (by simp; omega)
theorem rvalid_l1 (n : Nat) (hn : n ≤ 1000000) (l : List Int) (hl : l.length = n) (v : Nat) (R : Bool) (H : Ev (fun k => arboristref09_Valid.l1 k (n : Int) l (v : Int) ((cntV l (v : Int) n : Nat) : Int) (n : Int)) R) (d : Nat) :
    ∀ j, j + d = n → Ev (fun k => arboristref09_Valid.l1 k (n : Int) l (v : Int) ((cntV l (v : Int) j : Nat) : Int) (j : Int)) R := by
  induction d with
  | zero =>
    intro j h
    obtain rfl : j = n := by omega
    exact H
  | succ d ih =>
    intro j h
    have hr := ih (j + 1) (by omega)
    rw [cntV_succ l _ j (by omega)] at hr
    have hc := cntV_le l (v : Int) j
    refine evp hr (fun k e => ?_)
    rw [arboristref09_Valid.l1, if_pos (by omega), if_pos (by omega), if_pos (by omega), wrap_nat j (by omega)]
    by_cases c : rd l (j : Int) = (v : Int)
    · rw [if_pos c, wrap_nat _ (by omega)]; rw [if_pos c] at e; exact e
    · rw [if_neg c]; rw [if_neg c, Nat.add_zero] at e; exact e
theorem rvalid_l0 (n : Nat) (hn : n ≤ 1000000) (l : List Int) (hl : l.length = n) (d : Nat) : ∀ v, v + d = n → Ev (fun k => arboristref09_Valid.l0 k (n : Int) l (v : Int)) ((List.range' v (n - v)).all fun x => decide (l.count (x : Int) = 1)) := by
  induction d with
  | zero =>
    intro v h
    obtain rfl : v = n := by omega
    rw [Nat.sub_self]
    exact evs0 (fun k => by rw [arboristref09_Valid.l0, if_neg (by omega)]; rfl)
  | succ d ih =>
    intro v h
    have hcv : cntV l (v : Int) n = l.count (v : Int) := by unfold cntV; rw [← hl, List.take_length]
    rw [show n - v = (n - (v + 1)) + 1 by omega, List.range'_succ, List.all_cons]
    refine evp (rvalid_l1 n hn l hl v ((decide (l.count (v : Int) = 1)) && ((List.range' (v + 1) (n - (v + 1))).all fun x => decide (l.count (x : Int) = 1))) ?_ n 0 (by omega)) (fun k e => ?_)
    · by_cases c : l.count (v : Int) = 1
      · rw [decide_eq_true c, Bool.true_and]
        refine evp (ih (v + 1) (by omega)) (fun k e => ?_)
        rw [arboristref09_Valid.l1, if_neg (by omega), hcv, if_pos (by omega), wrap_nat v (by omega)]
        exact e
      · rw [decide_eq_false c, Bool.false_and]
        exact evs0 (fun k => by rw [arboristref09_Valid.l1, if_neg (by omega), hcv, if_neg (by omega)])
    · rw [arboristref09_Valid.l0, if_pos (by omega)]
      have hz : cntV l (v : Int) 0 = 0 := by unfold cntV; simp
      rw [hz] at e
      exact e
theorem rvalid_ev (n : Nat) (hn : n ≤ 1000000) (l : List Int) : Ev (fun k => arboristref09_Valid.f k (n : Int) l) (validB n l) := by
  by_cases c : l.length = n
  · have e : validB n l = ((List.range' 0 (n - 0)).all fun x => decide (l.count (x : Int) = 1)) := by
      unfold validB
      rw [Nat.sub_zero, ← List.range_eq_range', Bool.eq_iff_iff, decide_eq_true_iff, List.all_eq_true]
      constructor
      · rintro ⟨_, h⟩ x hx; exact decide_eq_true (h x (List.mem_range.1 hx))
      · intro h; exact ⟨c, fun v hv => of_decide_eq_true (h v (List.mem_range.2 hv))⟩
    rw [e]
    refine evu1 (rvalid_l0 n hn l c n 0 (by omega)) (fun k e => ?_)
    rw [arboristref09_Valid.f, if_pos (by omega)]
    exact e
  · have e : validB n l = false := decide_eq_false (fun h => c h.1)
    rw [e]
    exact evu0 (fun k => by rw [arboristref09_Valid.f, if_neg (by omega)])
theorem validB_of {n : Nat} {l : List Int} (h : l.Perm (idI n)) : validB n l = true := (validB_perm n l).2 h
theorem ofT_nodup (n : Nat) (g : Nat → Bool) : (ofT n g).Nodup := by
  unfold ofT
  rw [List.Nodup, List.pairwise_map]
  exact (List.Nodup.sublist List.filter_sublist List.nodup_range).imp (fun h e => h (by omega))
theorem ofT_rising (n : Nat) (g : Nat → Bool) : (ofT n g).Pairwise (· < ·) := by
  unfold ofT
  rw [List.pairwise_map]
  exact (List.Pairwise.sublist List.filter_sublist List.pairwise_lt_range).imp (fun h => by omega)
end Go.Proofs.YtbdlelojlnhhfaaDoor.Pr
set_option linter.unusedVariables false
set_option linter.unusedSimpArgs false
namespace Go.Proofs.YtbdlelojlnhhfaaDoor.Mcs
structure Gr (n : Nat) (A : Nat → Nat → Bool) : Prop where
  sym : ∀ i k, A i k = A k i
  irr : ∀ i, A i i = false
  rng : ∀ i k, A i k = true → i < n ∧ k < n
structure Way (A : Nat → Nat → Bool) (p : Nat → Nat) (m : Nat) : Prop where
  beside : ∀ i k, i ≤ m → k ≤ m → (A (p i) (p k) = true ↔ (k = i + 1 ∨ i = k + 1))
  once : ∀ i k, i ≤ m → k ≤ m → p i = p k → i = k
end Go.Proofs.YtbdlelojlnhhfaaDoor.Mcs
set_option linter.unusedVariables false
set_option linter.unusedSimpArgs false
namespace Go.Proofs.YtbdlelojlnhhfaaDoor.Pr
open Go.RowKit Go.Proofs.YtbdlelojlnhhfaaDoorW.PrintWords Go.Proofs.YtbdlelojlnhhfaaDoorW.PrintLast Go.Proofs.YtbdlelojlnhhfaaDoorW.PrintMore
def rst (f : Nat → Nat → Bool) (left : Nat → Bool) : Nat → Nat → Bool := fun p q => f p q && (left p && left q)
theorem rst_all (f : Nat → Nat → Bool) : rst f (fun _ => true) = f := by funext p q; unfold rst; simp
theorem rst_iff (f : Nat → Nat → Bool) (left : Nat → Bool) (p q : Nat) : rst f left p q = true ↔ f p q = true ∧ left p = true ∧ left q = true := by unfold rst; simp
theorem Sy.rst {n : Nat} {f : Nat → Nat → Bool} (h : Sy n f) (left : Nat → Bool) : Sy n (rst f left) := by
  refine ⟨fun p q => ?_, fun p => ?_, fun p q e => h.2.2 p q ((rst_iff _ _ _ _).1 e).1⟩
  · unfold Pr.rst; rw [h.1 p q, Bool.and_comm (left p)]
  · unfold Pr.rst; rw [h.2.1 p]; rfl
theorem without_iff (left : Nat → Bool) (v k : Nat) : without left v k = true ↔ left k = true ∧ v ≠ k := by unfold without; simp
def joinOne (h : Nat → Nat → Bool) (a : Nat) (bs : List Nat) : Nat → Nat → Bool := fun i k => h i k || (decide (i = a ∧ k ∈ bs) || decide (k = a ∧ i ∈ bs))
def joinBd (h : Nat → Nat → Bool) (l : List Nat) : Nat → Nat → Bool := fun i k => h i k || decide (i ∈ l ∧ k ∈ l ∧ i ≠ k)
theorem joinIn_gW {n : Nat} (hn : n ≤ 40) (a : Nat) (ha : a < n) : ∀ (bs : List Nat) (h : Nat → Nat → Bool), (∀ b ∈ bs, b < n) → a ∉ bs → joinIn (a : Int) (gI bs) (gI (gW n h)) = some (gI (gW n (joinOne h a bs)))
  | [], h, _, _ => by
    show some _ = some _
    congr 2
    exact gW_congr (fun i k _ _ => by unfold joinOne; simp)
  | b :: bs, h, hb, hna => by
    have hbn := hb b List.mem_cons_self
    have hab : a ≠ b := fun e => hna (e ▸ List.mem_cons_self)
    show (graph_Join.f (gI (gW n h)) (a : Int) (b : Int)).bind _ = _
    rw [(join_f (gW n h) (gW_ok (by omega) h) (by rw [gW_len]; omega) (a : Int) (b : Int)).1, Option.bind_some, joinW_gW h ha hbn hab]
    show joinIn (a : Int) (gI bs) (gI (gW n (addE h a b))) = _
    rw [joinIn_gW hn a ha bs (addE h a b) (fun c hc => hb c (List.mem_cons_of_mem _ hc)) (fun hc => hna (List.mem_cons_of_mem _ hc))]
    congr 2
    refine gW_congr (fun i k _ _ => ?_)
    unfold joinOne addE
    rw [Bool.eq_iff_iff]
    simp only [Bool.or_eq_true, decide_eq_true_eq, List.mem_cons]
    constructor
    · rintro ((h1 | h1 | h1) | h1 | h1)
      · exact .inl h1
      · exact .inr (.inl ⟨h1.1, .inl h1.2⟩)
      · exact .inr (.inr ⟨h1.2, .inl h1.1⟩)
      · exact .inr (.inl ⟨h1.1, .inr h1.2⟩)
      · exact .inr (.inr ⟨h1.1, .inr h1.2⟩)
    · rintro (h1 | ⟨h1, h2 | h2⟩ | ⟨h1, h2 | h2⟩)
      · exact .inl (.inl h1)
      · exact .inl (.inr (.inl ⟨h1, h2⟩))
      · exact .inr (.inl ⟨h1, h2⟩)
      · exact .inl (.inr (.inr ⟨h2, h1⟩))
      · exact .inr (.inr ⟨h1, h2⟩)
theorem gI_take (l : List Nat) (i : Nat) : (gI l).take i = gI (l.take i) := by unfold gI; rw [List.map_take]
theorem hm' {bd : List Nat} (hd : bd.Nodup) {i : Nat} (hi : i < bd.length) : wAt bd i ∉ bd.take i := fun h => by
  obtain ⟨q, hq, e⟩ := List.getElem_of_mem h
  rw [List.length_take] at hq
  rw [List.getElem_take, wAt_get bd i hi] at e
  have := nodup_at hd (by omega) hi e
  omega
theorem joinAll_gW {n : Nat} (hn : n ≤ 40) (bd : List Nat) (hb : ∀ b ∈ bd, b < n) (hd : bd.Nodup) (h : Nat → Nat → Bool) (d : Nat) : ∀ i, i + d = bd.length → joinAll (gI bd) d i (gI (gW n (joinBd h (bd.take i)))) = some (gI (gW n (joinBd h bd))) := by
  induction d with
  | zero =>
    intro i hi
    obtain rfl : i = bd.length := by omega
    rw [joinAll, List.take_length]
  | succ d ih =>
    intro i hi
    have hil : i < bd.length := by omega
    rw [joinAll, gI_rd, gI_take, joinIn_gW hn (wAt bd i) (hb _ (wAt_in hil)) (bd.take i) _ (fun b hb2 => hb b (List.mem_of_mem_take hb2)) (fun hm => ?_), Option.bind_some]
    · rw [show gW n (joinOne (joinBd h (bd.take i)) (wAt bd i) (bd.take i)) = gW n (joinBd h (bd.take (i + 1))) from ?_]
      · exact ih (i + 1) (by omega)
      · refine gW_congr (fun p q _ _ => ?_)
        unfold joinOne joinBd
        rw [take_one bd i hil, Bool.eq_iff_iff]
        simp only [Bool.or_eq_true, decide_eq_true_eq, List.mem_append, List.mem_singleton]
        constructor
        · rintro ((h1 | h1) | h1 | h1)
          · exact .inl h1
          · exact .inr ⟨.inl h1.1, .inl h1.2.1, h1.2.2⟩
          · exact .inr ⟨.inr h1.1, .inl h1.2, fun e => hm' hd hil (by rw [← h1.1, e]; exact h1.2)⟩
          · exact .inr ⟨.inl h1.2, .inr h1.1, fun e => hm' hd hil (by rw [← h1.1, ← e]; exact h1.2)⟩
        · rintro (h1 | ⟨h1 | h1, h2 | h2, h3⟩)
          · exact .inl (.inl h1)
          · exact .inl (.inr ⟨h1, h2, h3⟩)
          · exact .inr (.inr ⟨h2, h1⟩)
          · exact .inr (.inl ⟨h1, h2⟩)
          · exact absurd (h1.trans h2.symm) h3
    · exact hm' hd hil hm
def laterN (n : Nat) (h : Nat → Nat → Bool) (left : Nat → Bool) (v : Nat) : List Nat := (nbN n h v).filter left
def bagT (n : Nat) (h : Nat → Nat → Bool) (left : Nat → Bool) (v : Nat) : List Int := ofT n fun k => decide (k = v) || (h v k && left k)
def fillB (n : Nat) : List Nat → (Nat → Nat → Bool) → (Nat → Bool) → List (List Int) × (Nat → Nat → Bool)
  | [], h, _ => ([], h)
  | v :: l, h, left => (bagT n h left v :: (fillB n l (joinBd h (laterN n h left v)) (without left v)).1, (fillB n l (joinBd h (laterN n h left v)) (without left v)).2)
theorem joinBd_sy {n : Nat} {h : Nat → Nat → Bool} (hh : Sy n h) {l : List Nat} (hl : ∀ x ∈ l, x < n) : Sy n (joinBd h l) := by
  refine ⟨fun i k => ?_, fun i => ?_, fun i k e => ?_⟩
  · unfold joinBd
    rw [hh.1 i k]
    congr 1
    rw [Bool.eq_iff_iff, decide_eq_true_iff, decide_eq_true_iff]
    exact ⟨fun ⟨a, b, c⟩ => ⟨b, a, Ne.symm c⟩, fun ⟨a, b, c⟩ => ⟨b, a, Ne.symm c⟩⟩
  · unfold joinBd; rw [hh.2.1 i]; simp
  · unfold joinBd at e
    simp only [Bool.or_eq_true, decide_eq_true_eq] at e
    rcases e with e | e
    · exact hh.2.2 _ _ e
    · exact ⟨hl _ e.1, hl _ e.2.1⟩
theorem mem_laterN {n : Nat} {h : Nat → Nat → Bool} {left : Nat → Bool} {v x : Nat} : x ∈ laterN n h left v ↔ x < n ∧ h v x = true ∧ left x = true := by
  unfold laterN
  rw [List.mem_filter, mem_nbN]
  exact ⟨fun ⟨⟨a, b⟩, c⟩ => ⟨a, b, c⟩, fun ⟨a, b, c⟩ => ⟨⟨a, b⟩, c⟩⟩
theorem len_sub : ∀ {xs l : List Int}, xs.Nodup → (∀ x ∈ xs, x ∈ xs) → (∀ x ∈ xs, x ∈ l) → xs.length ≤ l.length
  | [], _, _, _, _ => Nat.zero_le _
  | x :: xs, l, hd, _, hin => by
    have hx := hin x List.mem_cons_self
    have h1 := (List.perm_cons_erase hx).length_eq
    have h2 := len_sub (l := l.erase x) (List.nodup_cons.1 hd).2 (fun _ h => h) (fun y hy => by
      have hne : y ≠ x := fun e => (List.nodup_cons.1 hd).1 (e ▸ hy)
      exact (List.mem_erase_of_ne hne).2 (hin y (List.mem_cons_of_mem _ hy)))
    rw [h1, List.length_cons, List.length_cons]
    omega
theorem bag_sorted {n : Nat} {h : Nat → Nat → Bool} (hh : Sy n h) (left : Nat → Bool) (v : Nat) (hv : v < n) : SortedSeq.sortZ (gI (laterN n h left v) ++ [(v : Int)]) = bagT n h left v := by
  refine SortedSeq.sortZ_uniq ((SortedSeq.sortZ_perm _).trans ?_) (SortedSeq.sortZ_sorted _) ((ofT_rising n _).imp (fun h => by omega))
  have hnd : (laterN n h left v).Nodup := List.Nodup.sublist List.filter_sublist (nbN_nodup n h v)
  have h1 : (gI (laterN n h left v) ++ [(v : Int)]).Nodup := by
    rw [List.nodup_append]
    refine ⟨?_, by simp, fun a ha b hb => ?_⟩
    · unfold gI
      rw [List.Nodup, List.pairwise_map]
      exact hnd.imp (fun h e => h (by omega))
    · unfold gI at ha
      obtain ⟨x, hx, rfl⟩ := List.mem_map.1 ha
      have hvx := (mem_laterN.1 hx).2.1
      rw [List.mem_singleton] at hb
      rw [hb]
      intro e
      have : x = v := by omega
      rw [this, hh.2.1] at hvx
      cases hvx
  have hmem : ∀ x : Int, x ∈ gI (laterN n h left v) ++ [(v : Int)] ↔ x ∈ bagT n h left v := fun x => by
    unfold bagT
    rw [mem_ofT, List.mem_append, List.mem_singleton]
    unfold gI
    rw [List.mem_map]
    constructor
    · rintro (⟨y, hy, rfl⟩ | rfl)
      · have h3 := mem_laterN.1 hy
        exact ⟨y, h3.1, by simp [h3.2.1, h3.2.2], rfl⟩
      · exact ⟨v, hv, by simp, rfl⟩
    · rintro ⟨y, hy, h3, rfl⟩
      simp only [Bool.or_eq_true, decide_eq_true_eq, Bool.and_eq_true] at h3
      rcases h3 with rfl | h3
      · exact .inr rfl
      · exact .inl ⟨y, mem_laterN.2 ⟨hy, h3.1, h3.2⟩, rfl⟩
  have h4 : (bagT n h left v).Nodup := ofT_nodup n _
  exact (perm_of_in _ _ h1 (fun x hx => (hmem x).1 hx) (by
    have := (perm_of_in _ (gI (laterN n h left v) ++ [(v : Int)]) h4 (fun x hx => (hmem x).2 hx))
    exact len_sub h4 (fun x hx => (hmem x).1 ((hmem x).2 hx)) (fun x hx => (hmem x).2 hx))).symm
theorem allGo_gW {n : Nat} (hn : n ≤ 40) : ∀ (l : List Nat) (h : Nat → Nat → Bool) (left : Nat → Bool) (vs : List Int) (bags : List (List Int)), Sy n h → (∀ v ∈ l, v < n ∧ left v = true) → l.Nodup → (∀ k, k < n → (left k = true ↔ (k : Int) ∉ vs)) → bags.length + l.length ≤ 1000 →
    allGo (gI l) (gI (gW n h)) vs bags = some (bags ++ (fillB n l h left).1, gI (gW n (fillB n l h left).2))
  | [], h, left, vs, bags, _, _, _, _, _ => by
    show some (bags, _) = _
    rw [fillB, List.append_nil]
  | v :: l, h, left, vs, bags, hh, hl, hd, hleft, hb => by
    obtain ⟨hv, hlv⟩ := hl v List.mem_cons_self
    have hnb : graph_Neighbors.f (gI (gW n h)) (v : Int) = some (gI (nbN n h v)) := by
      rw [neighbors_f _ (gW_ok (by omega) h)]
      unfold nbL
      rw [gW_len, if_pos (by unfold isP; exact decide_eq_true (by omega)), Int.toNat_natCast, gW_at n h v hv, listN_wd (by omega)]
      rfl
    have hlen := nbN_len n h v
    have hfil : (gI (nbN n h v)).filter (fun a => !decide (a ∈ vs)) = gI (laterN n h left v) := by
      unfold gI laterN
      rw [List.filter_map]
      congr 1
      refine List.filter_congr (fun x hx => ?_)
      have hxn := (mem_nbN.1 hx).1
      have := hleft x hxn
      show (!decide ((x : Int) ∈ vs)) = left x
      rw [Bool.eq_iff_iff, this]
      simp
    have hlin : ∀ x ∈ laterN n h left v, x < n := fun x hx => (mem_laterN.1 hx).1
    have hlnd : (laterN n h left v).Nodup := List.Nodup.sublist List.filter_sublist (nbN_nodup n h v)
    have hj := joinAll_gW hn (laterN n h left v) hlin hlnd h (laterN n h left v).length 0 (by omega)
    rw [show gW n (joinBd h ((laterN n h left v).take 0)) = gW n h from gW_congr (fun i k _ _ => by unfold joinBd; simp)] at hj
    have hh2 := joinBd_sy hh hlin
    have ih := allGo_gW hn l (joinBd h (laterN n h left v)) (without left v) (vs ++ [(v : Int)]) (bags ++ [bagT n h left v]) hh2 (fun x hx => ⟨(hl x (List.mem_cons_of_mem _ hx)).1, (without_iff _ _ _).2 ⟨(hl x (List.mem_cons_of_mem _ hx)).2, fun e => (List.nodup_cons.1 hd).1 (e ▸ hx)⟩⟩) (List.nodup_cons.1 hd).2 (fun k hk => by
      rw [without_iff, hleft k hk, List.mem_append, List.mem_singleton]
      constructor
      · rintro ⟨a, b⟩ (c | c)
        · exact a c
        · exact b (by omega)
      · intro a
        exact ⟨fun c => a (.inl c), fun c => a (.inr (by rw [c]))⟩) (by rw [List.length_append]; simp at hb ⊢; omega)
    show (graph_Neighbors.f (gI (gW n h)) (v : Int)).bind _ = _
    rw [hnb, Option.bind_some, if_pos ⟨by rw [gI_len]; omega, (hleft v hv).1 hlv, by simp at hb; omega⟩, hfil, gI_len, hj, Option.bind_some, bag_sorted hh left v hv]
    show allGo (gI l) _ _ _ = _
    rw [ih, fillB, List.append_assoc]
    rfl
theorem toN_of {n : Nat} {o : List Int} (h : o.Perm (idI n)) : ∃ ln : List Nat, o = gI ln ∧ ln.Nodup ∧ ∀ x ∈ ln, x < n := by
  refine ⟨o.map Int.toNat, ?_, ?_, fun x hx => ?_⟩
  · unfold gI
    rw [List.map_map]
    conv => lhs; rw [← List.map_id o]
    refine List.map_congr_left (fun x hx => ?_)
    obtain ⟨k, _, rfl⟩ := mem_idI.1 (h.mem_iff.1 hx)
    rfl
  · have hd : o.Nodup := h.nodup_iff.2 (idI_nodup n)
    rw [List.Nodup, List.pairwise_map]
    refine List.Pairwise.imp_of_mem (fun ha hb hne e => hne ?_) hd
    obtain ⟨a, _, rfl⟩ := mem_idI.1 (h.mem_iff.1 ha)
    obtain ⟨b, _, rfl⟩ := mem_idI.1 (h.mem_iff.1 hb)
    rw [Int.toNat_natCast, Int.toNat_natCast] at e
    rw [e]
  · obtain ⟨y, hy, rfl⟩ := List.mem_map.1 hx
    obtain ⟨k, hk, rfl⟩ := mem_idI.1 (h.mem_iff.1 hy)
    rw [Int.toNat_natCast]; exact hk
def allL : Nat → Bool := fun _ => true
theorem all_f {n : Nat} (hn : n ≤ 40) {f : Nat → Nat → Bool} (hf : Sy n f) {ln : List Nat} (ho : (gI ln).Perm (idI n)) (hd : ln.Nodup) (hl : ∀ x ∈ ln, x < n) : fill_all.f (gI (gW n f)) (gI ln) = some ((fillB n ln f allL).1, gI (gW n (fillB n ln f allL).2), 0) := by
  have hlen : ln.length = n := by have := ho.length_eq; rw [gI_len, idI_len] at this; exact this
  unfold fill_all.f
  rw [gI_len, gW_len, pvalid_f n (gI ln) (by rw [gI_len]; omega), Option.bind_some, validB_of ho, if_pos rfl, allGo_gW hn ln f allL [] [] hf (fun v hv => ⟨hl v hv, rfl⟩) hd (fun k _ => by simp [allL]) (by simp; omega), Option.bind_some, List.nil_append]
theorem all_bad {n : Nat} (f : Nat → Nat → Bool) (l : List Int) (hl : l.length < 1000000) (h : validB n l = false) : fill_all.f (gI (gW n f)) l = some ([], [], 8) := by
  unfold fill_all.f
  rw [gI_len, gW_len, pvalid_f n l (by omega), Option.bind_some, h, if_neg (by decide)]
theorem bags_f {n : Nat} (hn : n ≤ 40) {f : Nat → Nat → Bool} (hf : Sy n f) {ln : List Nat} (ho : (gI ln).Perm (idI n)) (hd : ln.Nodup) (hl : ∀ x ∈ ln, x < n) : fill_Bags.f (gI (gW n f)) (gI ln) = some ((fillB n ln f allL).1, 0) := by
  unfold fill_Bags.f
  rw [all_f hn hf ho hd hl, Option.bind_some]
theorem joinBd_ge {h : Nat → Nat → Bool} {l : List Nat} {i k : Nat} (e : h i k = true) : joinBd h l i k = true := by unfold joinBd; rw [e]; rfl
theorem fillB_ge {n : Nat} : ∀ (l : List Nat) (h : Nat → Nat → Bool) (left : Nat → Bool) (i k : Nat), h i k = true → (fillB n l h left).2 i k = true
  | [], h, left, i, k, e => e
  | v :: l, h, left, i, k, e => fillB_ge l _ _ i k (joinBd_ge e)
theorem mem_bagT {n : Nat} {h : Nat → Nat → Bool} {left : Nat → Bool} {v : Nat} {x : Int} : x ∈ bagT n h left v ↔ ∃ k : Nat, k < n ∧ x = (k : Int) ∧ (k = v ∨ (h v k = true ∧ left k = true)) := by
  unfold bagT
  rw [mem_ofT]
  constructor
  · rintro ⟨k, hk, e, rfl⟩
    simp only [Bool.or_eq_true, Bool.and_eq_true, decide_eq_true_eq] at e
    exact ⟨k, hk, rfl, e⟩
  · rintro ⟨k, hk, rfl, e⟩
    refine ⟨k, hk, ?_, rfl⟩
    simp only [Bool.or_eq_true, Bool.and_eq_true, decide_eq_true_eq]
    exact e
theorem bagT_len (n : Nat) (h : Nat → Nat → Bool) (left : Nat → Bool) (v : Nat) : (bagT n h left v).length ≤ n := by
  unfold bagT ofT
  rw [List.length_map]
  exact Nat.le_trans (List.length_filter_le _ _) (by simp)
theorem fillB_cliq {n : Nat} : ∀ (l : List Nat) (h : Nat → Nat → Bool) (left : Nat → Bool), Sy n h → ∀ b ∈ (fillB n l h left).1, cliqB n (fillB n l h left).2 b = true ∧ b.length ≤ n
  | [], _, _, _, b, hb => absurd hb List.not_mem_nil
  | v :: l, h, left, hh, b, hb => by
    have hh2 := joinBd_sy hh (l := laterN n h left v) (fun x hx => (mem_laterN.1 hx).1)
    rcases List.mem_cons.1 hb with rfl | hb
    · refine ⟨?_, bagT_len _ _ _ _⟩
      unfold cliqB
      rw [Bool.and_eq_true, List.all_eq_true, List.all_eq_true]
      refine ⟨fun x hx => ?_, fun x hx => List.all_eq_true.2 (fun y hy => ?_)⟩
      · obtain ⟨k, hk, rfl, _⟩ := mem_bagT.1 hx
        unfold isP; exact decide_eq_true (by omega)
      · obtain ⟨i, hi, rfl, h1⟩ := mem_bagT.1 hx
        obtain ⟨k, hk, rfl, h2⟩ := mem_bagT.1 hy
        rw [Bool.or_eq_true, beq_iff_eq, Int.toNat_natCast, Int.toNat_natCast]
        by_cases c : i = k
        · exact .inl (by rw [c])
        · refine .inr ?_
          show (fillB n l (joinBd h (laterN n h left v)) (without left v)).2 i k = true
          refine fillB_ge l _ _ i k ?_
          rcases h1 with rfl | h1
          · rcases h2 with rfl | h2
            · exact absurd rfl c
            · exact joinBd_ge h2.1
          · rcases h2 with rfl | h2
            · exact joinBd_ge (by rw [hh.1]; exact h1.1)
            · unfold joinBd
              rw [decide_eq_true (show i ∈ laterN n h left v ∧ k ∈ laterN n h left v ∧ i ≠ k from ⟨mem_laterN.2 ⟨hi, h1.1, h1.2⟩, mem_laterN.2 ⟨hk, h2.1, h2.2⟩, c⟩), Bool.or_true]
    · exact fillB_cliq l _ _ hh2 b hb
theorem fillB_len {n : Nat} : ∀ (l : List Nat) (h : Nat → Nat → Bool) (left : Nat → Bool), (fillB n l h left).1.length = l.length
  | [], _, _ => rfl
  | v :: l, h, left => by
    show (fillB n l _ _).1.length + 1 = l.length + 1
    rw [fillB_len l]
end Go.Proofs.YtbdlelojlnhhfaaDoor.Pr
set_option linter.unusedVariables false
set_option linter.unusedSimpArgs false
namespace Go.Proofs.YtbdlelojlnhhfaaDoor.Pure
open Go.RowKit Go.Proofs.YtbdlelojlnhhfaaDoor.Pr Go.Proofs.YtbdlelojlnhhfaaDoorW.PrintWords Go.Proofs.YtbdlelojlnhhfaaDoorW.PrintLast Go.Proofs.YtbdlelojlnhhfaaDoorW.PrintMore
end Go.Proofs.YtbdlelojlnhhfaaDoor.Pure
set_option linter.unusedVariables false
set_option linter.unusedSimpArgs false
namespace Go.Proofs.YtbdlelojlnhhfaaDoor.Pr
open Go.RowKit Go.Proofs.YtbdlelojlnhhfaaDoorW.PrintWords Go.Proofs.YtbdlelojlnhhfaaDoorW.PrintLast
def withoutL (a b : List Int) : List Int := a.filter (fun x => !inB b x)
def meetL (a b : List Int) : List Int := a.filter (fun x => inB b x)
theorem Without_loop (a b : List Int) (ha : a.length < 17592186044416) (hb : b.length ≤ 9223372036854775807) : ∀ (d i : Nat) (out : List Int), a.length = i + d → out.length ≤ i → Ev (fun k => arboristref01_Without.l0 k a b out (i : Int)) (out ++ withoutL (a.drop i) b) := by
  intro d
  induction d with
  | zero =>
    intro i out h ho
    refine Ev.step (f := fun _ => some (out ++ withoutL (a.drop i) b)) (fun k => ?_) (Ev.now _)
    simp only [arboristref01_Without.l0]
    rw [if_neg (by omega), List.drop_eq_nil_of_le (by omega)]
    simp [withoutL]
  | succ d ih =>
    intro i out h ho
    have hi : i < a.length := by omega
    refine Ev.step (f := fun k => (arboristref01_In.f k b (rd a (i : Int))).bind fun t => if t = true then arboristref01_Without.l0 k a b out ((i + 1 : Nat) : Int) else if out.length < 17592186044416 then arboristref01_Without.l0 k a b (out ++ [rd a (i : Int)]) ((i + 1 : Nat) : Int) else none) (fun k => ?_) ?_
    · simp only [arboristref01_Without.l0]
      rw [if_pos (by omega), if_pos (by omega), wrap_nat i (by omega)]
    · refine Ev.bind (In_ev b hb _) ?_
      rw [drop_at a i hi]
      cases hc : inB b (rd a (i : Int)) with
      | true =>
        have := ih (i + 1) out (by omega) (by omega)
        simpa [withoutL, hc] using this
      | false =>
        have := ih (i + 1) (out ++ [rd a (i : Int)]) (by omega) (by simp; omega)
        have hlt : out.length < 17592186044416 := by omega
        simpa [withoutL, hc, hlt] using this
theorem Without_ev (a b : List Int) (ha : a.length < 17592186044416) (hb : b.length ≤ 9223372036854775807) : Ev (fun k => arboristref01_Without.f k a b) (withoutL a b) := by
  have := Without_loop a b ha hb a.length 0 [] (by omega) (by simp)
  simpa [arboristref01_Without.f] using this
def withinR (a b : List Int) : Bool := ((withoutL a b).length : Int) == 0
theorem Within_ev (a b : List Int) (ha : a.length < 17592186044416) (hb : b.length ≤ 9223372036854775807) : Ev (fun k => arboristref01_Within.f k a b) (withinR a b) := by
  refine Ev.congr (f := fun k => (arboristref01_Without.f k a b).bind fun t => some ((t.length : Int) == 0)) (fun k => rfl) ?_
  exact Ev.bind (f := fun _ (t : List Int) => some ((t.length : Int) == 0)) (Without_ev a b ha hb) (Ev.now _)
def uniteL : List Int → List Int → List Int
  | [], r => r
  | a :: l, [] => a :: l
  | a :: l, m :: r => if a < m then a :: uniteL l (m :: r) else m :: uniteL (a :: l) r
termination_by a b => a.length + b.length
theorem uniteL_nil (a : List Int) : uniteL a [] = a := by cases a <;> simp [uniteL]
theorem Unite_loop (a m : List Int) (hl : a.length + m.length < 17592186044416) : ∀ (d i j : Nat) (out : List Int), a.length + m.length = i + j + d → i ≤ a.length → j ≤ m.length → out.length ≤ i + j → Ev (fun k => arboristref01_Unite.l0 k a out m (i : Int) (j : Int)) (out ++ uniteL (a.drop i) (m.drop j)) := by
  intro d
  induction d with
  | zero =>
    intro i j out h hi hj ho
    refine Ev.step (f := fun k => arboristref01_Unite.j1 k a out m (i : Int) (j : Int) false) (fun k => ?_) ?_
    · simp only [arboristref01_Unite.l0]
      rw [if_neg (by omega), show decide ((j : Int) < (m.length : Int)) = false from decide_eq_false (by omega)]
    · refine Ev.step (f := fun _ => some (out ++ uniteL (a.drop i) (m.drop j))) (fun k => ?_) (Ev.now _)
      simp only [arboristref01_Unite.j1]
      rw [if_neg (by simp), show a.drop i = [] from List.drop_eq_nil_of_le (by omega), show m.drop j = [] from List.drop_eq_nil_of_le (by omega)]
      simp [uniteL]
  | succ d ih =>
    intro i j out h hi hj ho
    refine Ev.step (f := fun k => arboristref01_Unite.j1 k a out m (i : Int) (j : Int) true) (fun k => ?_) ?_
    · simp only [arboristref01_Unite.l0]
      by_cases h1 : i < a.length
      · rw [if_pos (by omega)]
      · rw [if_neg (by omega), show decide ((j : Int) < (m.length : Int)) = true from decide_eq_true (by omega)]
    · have hlt : out.length < 17592186044416 := by omega
      have left : i < a.length → (j = m.length ∨ (j < m.length ∧ rd a (i : Int) < rd m (j : Int))) → Ev (fun k => arboristref01_Unite.l0 k a (out ++ [rd a (i : Int)]) m ((i + 1 : Nat) : Int) (j : Int)) (out ++ uniteL (a.drop i) (m.drop j)) := by
        intro h1 h2
        have := ih (i + 1) j (out ++ [rd a (i : Int)]) (by omega) (by omega) hj (by simp; omega)
        rw [drop_at a i h1]
        rcases h2 with h2 | ⟨h2, h3⟩
        · rw [show m.drop j = [] from List.drop_eq_nil_of_le (by omega)] at this ⊢
          simpa [uniteL, uniteL_nil] using this
        · rw [drop_at m j h2] at this ⊢
          rw [uniteL, if_pos h3]
          simpa using this
      have right : j < m.length → (i = a.length ∨ (i < a.length ∧ ¬ rd a (i : Int) < rd m (j : Int))) → Ev (fun k => arboristref01_Unite.l0 k a (out ++ [rd m (j : Int)]) m (i : Int) ((j + 1 : Nat) : Int)) (out ++ uniteL (a.drop i) (m.drop j)) := by
        intro h1 h2
        have := ih i (j + 1) (out ++ [rd m (j : Int)]) (by omega) hi (by omega) (by simp; omega)
        rw [drop_at m j h1]
        rcases h2 with h2 | ⟨h2, h3⟩
        · rw [show a.drop i = [] from List.drop_eq_nil_of_le (by omega)] at this ⊢
          simpa [uniteL] using this
        · rw [drop_at a i h2] at this ⊢
          rw [uniteL, if_neg h3]
          simpa using this
      by_cases h1 : j = m.length
      · refine Ev.step (f := fun k => arboristref01_Unite.l0 k a (out ++ [rd a (i : Int)]) m ((i + 1 : Nat) : Int) (j : Int)) (fun k => ?_) (left (by omega) (.inl h1))
        simp only [arboristref01_Unite.j1]
        rw [if_pos trivial, if_pos (by omega), if_pos (by omega), if_pos (by omega), if_pos hlt, wrap_nat i (by omega)]
      · by_cases h2 : i < a.length
        · by_cases h3 : rd a (i : Int) < rd m (j : Int)
          · refine Ev.step (f := fun k => arboristref01_Unite.l0 k a (out ++ [rd a (i : Int)]) m ((i + 1 : Nat) : Int) (j : Int)) (fun k => ?_) (left h2 (.inr ⟨by omega, h3⟩))
            simp only [arboristref01_Unite.j1]
            rw [if_pos trivial, if_neg (by omega), if_pos (by omega), if_pos (by omega), if_pos (by omega), if_pos (by omega), if_pos h3, if_pos hlt, wrap_nat i (by omega)]
          · refine Ev.step (f := fun k => arboristref01_Unite.l0 k a (out ++ [rd m (j : Int)]) m (i : Int) ((j + 1 : Nat) : Int)) (fun k => ?_) (right (by omega) (.inr ⟨h2, h3⟩))
            simp only [arboristref01_Unite.j1]
            rw [if_pos trivial, if_neg (by omega), if_pos (by omega), if_pos (by omega), if_pos (by omega), if_pos (by omega), if_neg h3, if_pos hlt, wrap_nat j (by omega)]
        · refine Ev.step (f := fun k => arboristref01_Unite.l0 k a (out ++ [rd m (j : Int)]) m (i : Int) ((j + 1 : Nat) : Int)) (fun k => ?_) (right (by omega) (.inl (by omega)))
          simp only [arboristref01_Unite.j1]
          rw [if_pos trivial, if_neg (by omega), if_neg (by omega), if_pos (by omega), if_pos (by omega), if_pos hlt, wrap_nat j (by omega)]
theorem withoutL_len (a b : List Int) : (withoutL a b).length ≤ a.length := List.length_filter_le _ _
theorem Unite_ev (a b : List Int) (h : a.length + b.length < 17592186044416) : Ev (fun k => arboristref01_Unite.f k a b) (uniteL a (withoutL b a)) := by
  refine Ev.congr (f := fun k => (arboristref01_Without.f k b a).bind fun t => arboristref01_Unite.l0 k a ([] : List Int) t 0 0) (fun k => rfl) ?_
  have hw := withoutL_len b a
  refine Ev.bind (f := fun k (t : List Int) => arboristref01_Unite.l0 k a ([] : List Int) t 0 0) (Without_ev b a (by omega) (by omega)) ?_
  have := Unite_loop a (withoutL b a) (by omega) (a.length + (withoutL b a).length) 0 0 [] (by omega) (by omega) (by omega) (by simp)
  simpa using this
theorem Meet_loop (a b : List Int) (ha : a.length < 17592186044416) (hb : b.length ≤ 9223372036854775807) : ∀ (d i : Nat) (out : List Int), a.length = i + d → out.length ≤ i → Ev (fun k => arboristref01_Meet.l0 k a b out (i : Int)) (out ++ meetL (a.drop i) b) := by
  intro d
  induction d with
  | zero =>
    intro i out h ho
    refine Ev.step (f := fun _ => some (out ++ meetL (a.drop i) b)) (fun k => ?_) (Ev.now _)
    simp only [arboristref01_Meet.l0]
    rw [if_neg (by omega), List.drop_eq_nil_of_le (by omega)]
    simp [meetL]
  | succ d ih =>
    intro i out h ho
    have hi : i < a.length := by omega
    refine Ev.step (f := fun k => (arboristref01_In.f k b (rd a (i : Int))).bind fun t => if t = true then (if out.length < 17592186044416 then arboristref01_Meet.l0 k a b (out ++ [rd a (i : Int)]) ((i + 1 : Nat) : Int) else none) else arboristref01_Meet.l0 k a b out ((i + 1 : Nat) : Int)) (fun k => ?_) ?_
    · simp only [arboristref01_Meet.l0]
      rw [if_pos (by omega), if_pos (by omega), wrap_nat i (by omega)]
    · refine Ev.bind (In_ev b hb _) ?_
      rw [drop_at a i hi]
      cases hc : inB b (rd a (i : Int)) with
      | false =>
        have := ih (i + 1) out (by omega) (by omega)
        simpa [meetL, hc] using this
      | true =>
        have := ih (i + 1) (out ++ [rd a (i : Int)]) (by omega) (by simp; omega)
        have hlt : out.length < 17592186044416 := by omega
        simpa [meetL, hc, hlt] using this
theorem Meet_ev (a b : List Int) (ha : a.length < 17592186044416) (hb : b.length ≤ 9223372036854775807) : Ev (fun k => arboristref01_Meet.f k a b) (meetL a b) := by
  have := Meet_loop a b ha hb a.length 0 [] (by omega) (by simp)
  simpa [arboristref01_Meet.f] using this
theorem uniteL_mem (a m : List Int) (x : Int) : x ∈ uniteL a m ↔ x ∈ a ∨ x ∈ m := by
  fun_induction uniteL a m with
  | case1 r => simp
  | case2 a l => simp
  | case3 a l m r h ih => simp only [List.mem_cons, ih]; clear h; grind
  | case4 a l m r h ih => simp only [List.mem_cons, ih]; clear h; grind
theorem uniteL_rise (a m : List Int) : a.Pairwise (· < ·) → m.Pairwise (· < ·) → (∀ x ∈ m, x ∉ a) → (uniteL a m).Pairwise (· < ·) := by
  fun_induction uniteL a m with
  | case1 r => intro _ h _; exact h
  | case2 a l => intro h _ _; exact h
  | case3 a l m r h ih =>
    intro ha hb hd
    obtain ⟨ha1, ha2⟩ := List.pairwise_cons.1 ha
    obtain ⟨hb1, hb2⟩ := List.pairwise_cons.1 hb
    refine List.pairwise_cons.2 ⟨fun x hx => ?_, ih ha2 hb (fun x hx hc => hd x hx (List.mem_cons_of_mem _ hc))⟩
    rcases (uniteL_mem _ _ _).1 hx with hx | hx
    · exact ha1 x hx
    · rcases List.mem_cons.1 hx with rfl | hx
      · exact h
      · have := hb1 x hx; omega
  | case4 a l m r h ih =>
    intro ha hb hd
    obtain ⟨ha1, ha2⟩ := List.pairwise_cons.1 ha
    obtain ⟨hb1, hb2⟩ := List.pairwise_cons.1 hb
    have hne : m ≠ a := fun e => hd m (by simp) (by simp [e])
    refine List.pairwise_cons.2 ⟨fun x hx => ?_, ih ha hb2 (fun x hx => hd x (List.mem_cons_of_mem _ hx))⟩
    rcases (uniteL_mem _ _ _).1 hx with hx | hx
    · rcases List.mem_cons.1 hx with rfl | hx
      · omega
      · have := ha1 x hx; omega
    · exact hb1 x hx
theorem rise_eq : ∀ (a b : List Int), a.Pairwise (· < ·) → b.Pairwise (· < ·) → (∀ x, x ∈ a ↔ x ∈ b) → a = b
  | [], [], _, _, _ => rfl
  | [], y :: m, _, _, h => absurd ((h y).2 (by simp)) (by simp)
  | x :: l, [], _, _, h => absurd ((h x).1 (by simp)) (by simp)
  | x :: l, y :: m, ha, hb, h => by
    obtain ⟨a1, a2⟩ := List.pairwise_cons.1 ha
    obtain ⟨b1, b2⟩ := List.pairwise_cons.1 hb
    have e : x = y := by
      have h1 := (h x).1 (by simp)
      have h2 := (h y).2 (by simp)
      rcases List.mem_cons.1 h1 with h1 | h1
      · exact h1
      · rcases List.mem_cons.1 h2 with h2 | h2
        · exact h2.symm
        · have := a1 y h2
          have := b1 x h1
          omega
    subst e
    congr 1
    refine rise_eq l m a2 b2 (fun z => ?_)
    have hz := h z
    simp only [List.mem_cons] at hz
    constructor
    · intro hl
      have := a1 z hl
      rcases hz.1 (.inr hl) with h | h
      · omega
      · exact h
    · intro hm
      have := b1 z hm
      rcases hz.2 (.inr hm) with h | h
      · omega
      · exact h
end Go.Proofs.YtbdlelojlnhhfaaDoor.Pr
set_option linter.unusedVariables false
set_option linter.unusedSimpArgs false
namespace Go.Proofs.YtbdlelojlnhhfaaDoor.Pr
open Go.RowKit Go.Proofs.YtbdlelojlnhhfaaDoorW.PrintWords Go.Proofs.YtbdlelojlnhhfaaDoorW.PrintLast
theorem inB_cons (z : Int) (m : List Int) (x : Int) : inB (z :: m) x = (z == x || inB m x) := rfl
theorem merge_meet : ∀ (n : Nat) (a b : List Int), a.length + b.length = n → a.Pairwise (· < ·) → b.Pairwise (· < ·) → mergeL false true false a b = meetL a b := by
  intro n
  induction n using Nat.strongRecOn with
  | _ n ih =>
    intro a b h ha hb
    match a, b with
    | [], [] => simp [mergeL_nn, meetL]
    | y :: l, [] =>
      rw [mergeL_cn]
      have := ih l.length (by simp at h; omega) l [] (by simp) (List.pairwise_cons.1 ha).2 hb
      simpa [keepL, meetL, inB] using this
    | [], z :: m =>
      rw [mergeL_nc]
      have := ih m.length (by simp at h; omega) [] m (by simp) ha (List.pairwise_cons.1 hb).2
      simpa [keepL, meetL] using this
    | y :: l, z :: m =>
      rw [mergeL_cc]
      obtain ⟨ha1, ha2⟩ := List.pairwise_cons.1 ha
      obtain ⟨hb1, hb2⟩ := List.pairwise_cons.1 hb
      have not_in : ∀ (r : List Int) (x : Int), (∀ w ∈ r, x < w) → inB r x = false := by
        intro r x hr
        unfold inB
        rw [List.any_eq_false]
        intro w hw e
        have e2 : w = x := by simpa using e
        have := hr w hw
        omega
      by_cases h1 : y < z
      · rw [if_pos h1]
        have := ih (l.length + (m.length + 1)) (by simp at h; omega) l (z :: m) (by simp) ha2 hb
        have e : inB (z :: m) y = false := not_in _ _ (by
          intro w hw
          rcases List.mem_cons.1 hw with rfl | hw
          · exact h1
          · have := hb1 w hw; omega)
        simp only [keepL, meetL, List.filter_cons, e] at this ⊢
        simpa using this
      · rw [if_neg h1]
        by_cases h2 : z < y
        · rw [if_pos h2]
          have := ih (l.length + 1 + m.length) (by simp at h; omega) (y :: l) m (by simp) ha hb2
          have e : meetL (y :: l) (z :: m) = meetL (y :: l) m := by
            unfold meetL
            apply List.filter_congr
            intro w hw
            rw [inB_cons]
            have : (z == w) = false := by
              rcases List.mem_cons.1 hw with rfl | hw
              · simpa using (by omega : ¬ z = w)
              · have := ha1 w hw
                simpa using (by omega : ¬ z = w)
            rw [this, Bool.false_or]
          rw [e]
          simpa [keepL] using this
        · rw [if_neg h2]
          have e : y = z := by omega
          subst e
          have := ih (l.length + m.length) (by simp at h; omega) l m rfl ha2 hb2
          have e2 : meetL (y :: l) (y :: m) = y :: meetL l m := by
            unfold meetL
            rw [List.filter_cons, if_pos (by rw [inB_cons]; simp)]
            congr 1
            apply List.filter_congr
            intro w hw
            rw [inB_cons]
            have h3 := ha1 w hw
            have : (y == w) = false := by simpa using (by omega : ¬ y = w)
            rw [this, Bool.false_or]
          rw [e2]
          simpa [keepL] using this
theorem merge_without : ∀ (n : Nat) (a b : List Int), a.length + b.length = n → a.Pairwise (· < ·) → b.Pairwise (· < ·) → mergeL true false false a b = withoutL a b := by
  intro n
  induction n using Nat.strongRecOn with
  | _ n ih =>
    intro a b h ha hb
    match a, b with
    | [], [] => simp [mergeL_nn, withoutL]
    | y :: l, [] =>
      rw [mergeL_cn]
      have := ih l.length (by simp at h; omega) l [] (by simp) (List.pairwise_cons.1 ha).2 hb
      simpa [keepL, withoutL, inB] using this
    | [], z :: m =>
      rw [mergeL_nc]
      have := ih m.length (by simp at h; omega) [] m (by simp) ha (List.pairwise_cons.1 hb).2
      simpa [keepL, withoutL] using this
    | y :: l, z :: m =>
      rw [mergeL_cc]
      obtain ⟨ha1, ha2⟩ := List.pairwise_cons.1 ha
      obtain ⟨hb1, hb2⟩ := List.pairwise_cons.1 hb
      have not_in : ∀ (r : List Int) (x : Int), (∀ w ∈ r, x < w) → inB r x = false := by
        intro r x hr
        unfold inB
        rw [List.any_eq_false]
        intro w hw e
        have e2 : w = x := by simpa using e
        have := hr w hw
        omega
      by_cases h1 : y < z
      · rw [if_pos h1]
        have := ih (l.length + (m.length + 1)) (by simp at h; omega) l (z :: m) (by simp) ha2 hb
        have e : inB (z :: m) y = false := not_in _ _ (by
          intro w hw
          rcases List.mem_cons.1 hw with rfl | hw
          · exact h1
          · have := hb1 w hw; omega)
        simp only [keepL, withoutL, List.filter_cons, e] at this ⊢
        simpa using this
      · rw [if_neg h1]
        by_cases h2 : z < y
        · rw [if_pos h2]
          have := ih (l.length + 1 + m.length) (by simp at h; omega) (y :: l) m (by simp) ha hb2
          have e : withoutL (y :: l) (z :: m) = withoutL (y :: l) m := by
            unfold withoutL
            apply List.filter_congr
            intro w hw
            rw [inB_cons]
            have : (z == w) = false := by
              rcases List.mem_cons.1 hw with rfl | hw
              · simpa using (by omega : ¬ z = w)
              · have := ha1 w hw
                simpa using (by omega : ¬ z = w)
            rw [this, Bool.false_or]
          rw [e]
          simpa [keepL] using this
        · rw [if_neg h2]
          have e : y = z := by omega
          subst e
          have := ih (l.length + m.length) (by simp at h; omega) l m rfl ha2 hb2
          have e2 : withoutL (y :: l) (y :: m) = withoutL l m := by
            unfold withoutL
            rw [List.filter_cons, if_neg (by rw [inB_cons]; simp)]
            apply List.filter_congr
            intro w hw
            rw [inB_cons]
            have h3 := ha1 w hw
            have : (y == w) = false := by simpa using (by omega : ¬ y = w)
            rw [this, Bool.false_or]
          rw [e2]
          simpa [keepL] using this
end Go.Proofs.YtbdlelojlnhhfaaDoor.Pr
set_option linter.unusedVariables false
set_option linter.unusedSimpArgs false
namespace Go.Proofs.YtbdlelojlnhhfaaDoor.Pure
open Go.RowKit Go.Proofs.YtbdlelojlnhhfaaDoor.Pr Go.Proofs.YtbdlelojlnhhfaaDoorW.PrintWords Go.Proofs.YtbdlelojlnhhfaaDoorW.PrintLast Go.Proofs.YtbdlelojlnhhfaaDoorW.PrintMore
theorem ofT_rise (n : Nat) (g : Nat → Bool) : (ofT n g).Pairwise (· < ·) := by
  unfold ofT
  rw [List.pairwise_map]
  refine List.Pairwise.imp (fun h => ?_) (List.Pairwise.sublist List.filter_sublist List.pairwise_lt_range)
  omega
end Go.Proofs.YtbdlelojlnhhfaaDoor.Pure
set_option linter.unusedVariables false
set_option linter.unusedSimpArgs false
namespace Go.Proofs.YtbdlelojlnhhfaaDoor.Pure
open Go.RowKit Go.Proofs.YtbdlelojlnhhfaaDoor.Pr Go.Proofs.YtbdlelojlnhhfaaDoorW.PrintWords Go.Proofs.YtbdlelojlnhhfaaDoorW.PrintLast Go.Proofs.YtbdlelojlnhhfaaDoorW.PrintMore
theorem meetN_eq (B : List (List Int)) (hr : ∀ b ∈ B, b.Pairwise (· < ·)) {i k : Nat} (hi : i < B.length) (hk : k < B.length) : meetN B i k = ((meetL B[i] B[k]).length : Int) := by
  unfold meetN
  rw [List.getD_eq_getElem?_getD, List.getD_eq_getElem?_getD, List.getElem?_eq_getElem hi, List.getElem?_eq_getElem hk, Option.getD_some, Option.getD_some, merge_meet _ B[i] B[k] rfl (hr _ (List.getElem_mem hi)) (hr _ (List.getElem_mem hk))]
theorem meetN_ge (B : List (List Int)) (i k : Nat) : 0 ≤ meetN B i k := by unfold meetN; omega
theorem fillB_rise {n : Nat} : ∀ (l : List Nat) (h : Nat → Nat → Bool) (left : Nat → Bool), ∀ b ∈ (fillB n l h left).1, b.Pairwise (· < ·)
  | [], _, _, b, hb => by cases hb
  | v :: l, h, left, b, hb => by
    rcases List.mem_cons.1 (show b ∈ bagT n h left v :: (fillB n l (joinBd h (laterN n h left v)) (without left v)).1 from hb) with rfl | hb
    · exact ofT_rise n _
    · exact fillB_rise l _ _ b hb
theorem own_len : ∀ (l seen : List (List Int)), (ownL seen l).length ≤ l.length
  | [], _ => Nat.le_refl _
  | b :: l, seen => by
    unfold ownL
    have := own_len l (seen ++ [b])
    split
    · exact Nat.le_trans this (Nat.le_succ _)
    · exact Nat.succ_le_succ this
theorem build_f {n : Nat} (hn : n ≤ 40) {F : Nat → Nat → Bool} (hF : Sy n F) {ln : List Nat} (hop : (gI ln).Perm (idI n)) (hd : ln.Nodup) (hl : ∀ x ∈ ln, x < n) : decomp_Build.f (gI (gW n F)) (gI ln) = some (ownL [] (fillB n ln F allL).1, primL (ownL [] (fillB n ln F allL).1), 0) := by
  have hlen := fillB_len (n := n) ln F allL
  have hg : ln.length = n := by have := hop.length_eq; rw [gI_len, idI_len] at this; exact this
  have hcl := fillB_cliq (n := n) ln F allL hF
  have ho := own_len (fillB n ln F allL).1 []
  unfold decomp_Build.f
  rw [bags_f hn hF hop hd hl, Option.bind_some]
  have hc : (ownL [] (fillB n ln F allL).1).length ≤ 64 ∧ (fillB n ln F allL).1.length ≤ 100000 ∧ ∀ b ∈ (fillB n ln F allL).1, b.length ≤ 100000 := ⟨by omega, by omega, fun b hb => by have := (hcl b hb).2; omega⟩
  rw [if_pos rfl]
  exact if_pos hc
def inT (L : Nat → Option (Int × Int)) (m s : Nat) : Prop := s < m ∧ L s = none
structure PInv (B : List (List Int)) (L : Nat → Option (Int × Int)) (par : List Int) : Prop where
  len : par.length = B.length
  dom : ∀ i, (L i).isSome = true → i < B.length
  lnk : ∀ i c t, L i = some (c, t) → ((∀ s, ¬ inT L B.length s) ∧ c = -1 ∧ t = -1) ∨ ∃ p : Nat, t = (p : Int) ∧ inT L B.length p ∧ c = meetN B i p ∧ ∀ s, inT L B.length s → meetN B i s ≤ c ∧ (meetN B i s = c → p ≤ s)
  root : (∃ s, inT L B.length s) → inT L B.length 0
  top : inT L B.length 0 → rd par 0 = -1
  par_ : ∀ s, inT L B.length s → s ≠ 0 → ∃ p : Nat, rd par (s : Int) = (p : Int) ∧ p < B.length ∧ p ≠ s ∧ meetN B s 0 ≤ meetN B s p ∧ (meetN B s 0 = meetN B s p → p = 0)
theorem rd_set (l : List Int) (i k : Nat) (x : Int) (hk : k < l.length) : rd (l.set i x) (k : Int) = if i = k then x else rd l (k : Int) := by
  have h1 : (l.set i x)[k]? = some ((l.set i x)[k]'(by simpa using hk)) := List.getElem?_eq_getElem (by simpa using hk)
  rw [rd_nat _ k _ h1, rd_nat l k _ (List.getElem?_eq_getElem hk), List.getElem_set]
theorem comes_none {B : List (List Int)} {k : Nat} {L : Nat → Option (Int × Int)} {i : Nat} : comesL B k L i = none ↔ i = k ∨ L i = none := by
  unfold comesL
  by_cases c : i = k
  · rw [if_pos c]; simp [c]
  · rw [if_neg c]; simp [c]
theorem prim_step {B : List (List Int)} {L : Nat → Option (Int × Int)} {par : List Int} (h : PInv B L par) {k : Nat} {c t : Int} (hk : L k = some (c, t)) (h0 : (∀ s, ¬ inT L B.length s) → k = 0) : PInv B (comesL B k L) (par.set k t) := by
  have hkm := h.dom k (by rw [hk]; rfl)
  have hin : ∀ s, inT (comesL B k L) B.length s ↔ s = k ∨ inT L B.length s := fun s => by
    unfold inT
    rw [comes_none]
    constructor
    · rintro ⟨h1, rfl | h2⟩
      · exact .inl rfl
      · exact .inr ⟨h1, h2⟩
    · rintro (rfl | ⟨h1, h2⟩)
      · exact ⟨hkm, .inl rfl⟩
      · exact ⟨h1, .inr h2⟩
  have hkn : ¬ inT L B.length k := fun h => by rw [h.2] at hk; cases hk
  refine ⟨by rw [List.length_set]; exact h.len, fun i hi => ?_, fun i c' t' hi => ?_, fun _ => ?_, fun _ => ?_, fun s hs hs0 => ?_⟩
  · unfold comesL at hi
    split at hi
    · cases hi
    · exact h.dom i (by rw [Option.isSome_map] at hi; exact hi)
  · refine .inr ?_
    unfold comesL at hi
    by_cases cik : i = k
    · rw [if_pos cik] at hi; cases hi
    · rw [if_neg cik] at hi
      obtain ⟨⟨c0, t0⟩, hl, hu⟩ := Option.map_eq_some_iff.1 hi
      unfold updL at hu
      simp only at hu
      rcases h.lnk i c0 t0 hl with ⟨hno, rfl, rfl⟩ | ⟨p, rfl, hp, hc, hmax⟩
      · rw [if_pos (.inl (by have := meetN_ge B i k; omega))] at hu
        obtain ⟨rfl, rfl⟩ := Prod.mk.inj hu
        refine ⟨k, rfl, (hin k).2 (.inl rfl), rfl, fun s hs => ?_⟩
        rcases (hin s).1 hs with rfl | hs
        · exact ⟨Int.le_refl _, fun _ => Nat.le_refl _⟩
        · exact absurd hs (hno s)
      · by_cases cc : meetN B i k > c0 ∨ (meetN B i k = c0 ∧ (k : Int) < (p : Int))
        · rw [if_pos cc] at hu
          obtain ⟨rfl, rfl⟩ := Prod.mk.inj hu
          refine ⟨k, rfl, (hin k).2 (.inl rfl), rfl, fun s hs => ?_⟩
          rcases (hin s).1 hs with rfl | hs
          · exact ⟨Int.le_refl _, fun _ => Nat.le_refl _⟩
          · have := hmax s hs
            exact ⟨by omega, fun e => by have := this.2 (by omega); omega⟩
        · rw [if_neg cc] at hu
          obtain ⟨rfl, rfl⟩ := Prod.mk.inj hu
          refine ⟨p, rfl, (hin p).2 (.inr hp), hc, fun s hs => ?_⟩
          rcases (hin s).1 hs with rfl | hs
          · exact ⟨by omega, fun e => by omega⟩
          · exact hmax s hs
  · by_cases c1 : ∃ s, inT L B.length s
    · exact (hin 0).2 (.inr (h.root c1))
    · exact (hin 0).2 (.inl (h0 (fun s hs => c1 ⟨s, hs⟩)).symm)
  · have hl := h.len
    rcases h.lnk k c t hk with ⟨hno, _, rfl⟩ | ⟨p, rfl, hp, hc, hmax⟩
    · have := h0 hno
      subst this
      have := rd_set par 0 0 (-1) (by omega)
      rw [if_pos rfl] at this
      exact this
    · have hr := h.root ⟨p, hp⟩
      have hne : k ≠ 0 := fun e => hkn (e ▸ hr)
      have := rd_set par k 0 (p : Int) (by omega)
      rw [if_neg hne] at this
      exact this.trans (h.top hr)
  · have hl := h.len
    rcases (hin s).1 hs with rfl | hs
    · rcases h.lnk s c t hk with ⟨hno, _, rfl⟩ | ⟨p, rfl, hp, hc, hmax⟩
      · exact absurd (h0 hno) hs0
      · have hr := h.root ⟨p, hp⟩
        have h2 := hmax 0 hr
        refine ⟨p, by rw [rd_set par s s _ (by omega), if_pos rfl], hp.1, fun e => hkn (e ▸ hp), by omega, fun e => by have := h2.2 (by omega); omega⟩
    · obtain ⟨p, h1, h2⟩ := h.par_ s hs hs0
      have hne : k ≠ s := fun e => hkn (e ▸ hs)
      exact ⟨p, by rw [rd_set par k s _ (by have := hs.1; omega), if_neg hne]; exact h1, h2⟩
def cntL (L : Nat → Option (Int × Int)) (m : Nat) : Nat := (List.range m).countP fun i => (L i).isSome
theorem cnt_comes {B : List (List Int)} {k : Nat} {L : Nat → Option (Int × Int)} (hk : (L k).isSome = true) : ∀ m, cntL (comesL B k L) m + (if k < m then 1 else 0) = cntL L m
  | 0 => rfl
  | m + 1 => by
    have ih := cnt_comes (B := B) hk m
    unfold cntL at ih ⊢
    rw [List.range_succ, List.countP_append, List.countP_append, List.countP_singleton, List.countP_singleton]
    by_cases c : m = k
    · subst c
      rw [hk, if_pos rfl]
      have : (comesL B m L m).isSome = false := by unfold comesL; rw [if_pos rfl]; rfl
      rw [this, if_neg (by decide), if_pos (show m < m + 1 by omega)]
      rw [if_neg (Nat.lt_irrefl m)] at ih
      omega
    · have : (comesL B k L m).isSome = (L m).isSome := by unfold comesL; rw [if_neg c, Option.isSome_map]
      rw [this]
      by_cases c2 : k < m
      · rw [if_pos c2] at ih; rw [if_pos (show k < m + 1 by omega)]; omega
      · rw [if_neg c2] at ih; rw [if_neg (show ¬ k < m + 1 by omega)]; omega
theorem cnt_pos {L : Nat → Option (Int × Int)} {m : Nat} (h : 0 < cntL L m) : ∃ j, j < m ∧ (L j).isSome = true := by
  obtain ⟨j, hj, hs⟩ := List.countP_pos_iff.1 h
  exact ⟨j, List.mem_range.1 hj, hs⟩
theorem prim_inv {B : List (List Int)} : ∀ (d : Nat) (L : Nat → Option (Int × Int)) (nx : Int) (par : List Int), PInv B L par → cntL L B.length = d → (d = 0 ∨ okL L nx) → ((∀ s, ¬ inT L B.length s) → nx = 0) → ∃ L', PInv B L' (primGo B d L nx par) ∧ ∀ s, s < B.length → L' s = none
  | 0, L, nx, par, h, hc, _, _ => ⟨L, h, fun s hs => by
      cases e : L s with
      | none => rfl
      | some p =>
        have : (L s).isSome = false := by
          have := List.countP_eq_zero.1 hc s (List.mem_range.2 hs)
          simpa using this
        rw [e] at this
        cases this⟩
  | d + 1, L, nx, par, h, hc, hx, h0 => by
    obtain ⟨hx0, hx1⟩ := hx.resolve_left (by omega)
    obtain ⟨k, rfl⟩ := Int.eq_ofNat_of_zero_le hx0
    rw [Int.toNat_natCast] at hx1
    obtain ⟨⟨c, t⟩, hk⟩ := Option.isSome_iff_exists.1 hx1
    have hs := prim_step h hk (fun hno => by have := h0 hno; omega)
    have hcc := cnt_comes (B := B) hx1 B.length
    rw [if_pos (h.dom k hx1)] at hcc
    have hkin : inT (comesL B k L) B.length k := ⟨h.dom k hx1, comes_none.2 (.inl rfl)⟩
    rw [primGo, Int.toNat_natCast, hk]
    refine prim_inv d _ _ _ hs (by omega) ?_ (fun hno => absurd hkin (hno k))
    rcases Nat.eq_zero_or_pos d with h1 | h1
    · exact .inl h1
    · obtain ⟨j, hj, hj2⟩ := cnt_pos (L := comesL B k L) (m := B.length) (by omega)
      exact .inr (bestGo_ok B.length 0 (-1) (.inr ⟨rfl, j, Nat.zero_le _, by omega, hj2⟩))
theorem init_some (m i : Nat) : (initL m i).isSome = decide (i < m) := by
  unfold initL
  by_cases c : i < m
  · rw [if_pos c, decide_eq_true c]; rfl
  · rw [if_neg c, decide_eq_false c]; rfl
theorem prim_all (B : List (List Int)) : (primL B).length = B.length ∧ (0 < B.length → rd (primL B) 0 = -1) ∧ ∀ s, s < B.length → s ≠ 0 → ∃ p : Nat, rd (primL B) (s : Int) = (p : Int) ∧ p < B.length ∧ p ≠ s ∧ meetN B s 0 ≤ meetN B s p ∧ (meetN B s 0 = meetN B s p → p = 0) := by
  have hno : ∀ s, ¬ inT (initL B.length) B.length s := fun s h => by
    have := init_some B.length s
    rw [h.2, decide_eq_true h.1] at this
    cases this
  have hI : PInv B (initL B.length) (List.replicate B.length (-1)) := ⟨by simp, fun i hi => by rw [init_some] at hi; exact of_decide_eq_true hi, fun i c t hi => (by
    refine .inl ⟨hno, ?_⟩
    unfold initL at hi
    split at hi
    · obtain ⟨rfl, rfl⟩ := Prod.mk.inj (Option.some.inj hi)
      exact ⟨rfl, rfl⟩
    · cases hi), fun ⟨s, hs⟩ => absurd hs (hno s), fun h => absurd h (hno 0), fun s hs => absurd hs (hno s)⟩
  have hc : cntL (initL B.length) B.length = B.length := by
    unfold cntL
    rw [List.countP_eq_length.2 (fun i hi => by rw [init_some]; exact decide_eq_true (List.mem_range.1 hi)), List.length_range]
  obtain ⟨L', h, hall⟩ := prim_inv B.length (initL B.length) 0 _ hI hc (by
    rcases Nat.eq_zero_or_pos B.length with h | h
    · exact .inl h
    · exact .inr ⟨Int.le_refl _, by rw [init_some]; exact decide_eq_true h⟩) (fun _ => rfl)
  exact ⟨h.len, fun h0 => h.top ⟨h0, hall 0 h0⟩, fun s hs hs0 => h.par_ s ⟨hs, hall s hs⟩ hs0⟩
theorem rst_join {n : Nat} {h : Nat → Nat → Bool} (hh : Sy n h) (left : Nat → Bool) (v : Nat) (hlv : left v = true) : goT (rst h left) v = rst (joinBd h (laterN n h left v)) (without left v) := by
  funext p q
  rw [Bool.eq_iff_iff, rst_iff, without_iff, without_iff]
  unfold goT joinBd
  simp only [Bool.and_eq_true, Bool.not_eq_true', decide_eq_false_iff_not, Bool.or_eq_true, rst_iff, decide_eq_true_eq, mem_laterN]
  constructor
  · rintro ⟨h1, h2, h3 | ⟨⟨a1, _, a2⟩, ⟨b1, _, b2⟩, h4⟩⟩
    · exact ⟨.inl h3.1, ⟨h3.2.1, Ne.symm h1⟩, h3.2.2, Ne.symm h2⟩
    · exact ⟨.inr ⟨⟨(hh.2.2 _ _ a1).2, a1, a2⟩, ⟨(hh.2.2 _ _ b1).2, b1, b2⟩, h4⟩, ⟨a2, Ne.symm h1⟩, b2, Ne.symm h2⟩
  · rintro ⟨h1 | ⟨⟨_, a1, a2⟩, ⟨_, b1, b2⟩, h4⟩, ⟨c1, c2⟩, d1, d2⟩
    · exact ⟨Ne.symm c2, Ne.symm d2, .inl ⟨h1, c1, d1⟩⟩
    · exact ⟨Ne.symm c2, Ne.symm d2, .inr ⟨⟨a1, hlv, a2⟩, ⟨b1, hlv, b2⟩, h4⟩⟩
theorem rbag_eq {n : Nat} {h : Nat → Nat → Bool} (hh : Sy n h) (left : Nat → Bool) (v : Nat) (hv : v < n) (hlv : left v = true) : uniteL (ofT n (rst h left v)) (withoutL [(v : Int)] (ofT n (rst h left v))) = bagT n h left v := by
  have hno : (v : Int) ∉ ofT n (rst h left v) := fun hx => by
    obtain ⟨k, hk, e, ek⟩ := mem_ofT.1 hx
    obtain rfl : v = k := by omega
    have := (rst_iff h left v v).1 e
    rw [hh.2.1] at this
    cases this.1
  have hw : withoutL [(v : Int)] (ofT n (rst h left v)) = [(v : Int)] := by
    unfold withoutL
    rw [List.filter_cons_of_pos (by simp [inB]; exact fun x hx e => hno (e ▸ hx))]
    rfl
  rw [hw]
  refine rise_eq _ _ (uniteL_rise _ _ (ofT_rise n _) (List.pairwise_singleton _ _) (fun x hx => by rw [List.mem_singleton.1 hx]; exact hno)) (ofT_rise n _) (fun x => ?_)
  rw [uniteL_mem, List.mem_singleton, mem_bagT, mem_ofT]
  constructor
  · rintro (⟨k, hk, e, rfl⟩ | rfl)
    · have := (rst_iff h left v k).1 e
      exact ⟨k, hk, rfl, .inr ⟨this.1, this.2.2⟩⟩
    · exact ⟨v, hv, rfl, .inl rfl⟩
  · rintro ⟨k, hk, rfl, rfl | e⟩
    · exact .inr rfl
    · exact .inl ⟨k, hk, (rst_iff h left v k).2 ⟨e.1, hlv, e.2⟩, rfl⟩
theorem rbags_l0 {n : Nat} (hn : n ≤ 40) (ln : List Nat) (hl : ∀ x ∈ ln, x < n) (hll : ln.length ≤ 1000) : ∀ (d i : Nat) (h : Nat → Nat → Bool) (left : Nat → Bool) (out : List (List Int)), i + d = ln.length → Sy n h → (∀ v ∈ ln.drop i, left v = true) → (ln.drop i).Nodup → out.length = i → Ev (fun k => arboristref10_Bags.l0 k (mat n (rst h left)) (gI ln) out (i : Int)) (out ++ (fillB n (ln.drop i) h left).1)
  | 0, i, h, left, out, hd, _, _, _, ho => by
    rw [List.drop_eq_nil_of_le (show ln.length ≤ i by omega)]
    refine evs0 (fun k => ?_)
    rw [arboristref10_Bags.l0, if_neg (by rw [gI_len]; omega)]
    exact congrArg some (List.append_nil out).symm
  | d + 1, i, h, left, out, hd, hh, hv, hnd, ho => by
    have hi : i < ln.length := by omega
    have hdr := List.drop_eq_getElem_cons hi
    rw [hdr] at hv hnd
    have hvn : ln[i] < n := hl _ (List.getElem_mem hi)
    have hlv := hv ln[i] List.mem_cons_self
    have e1 := neigh9 n (by omega) (rst h left) ln[i] hvn
    have e2 := Unite_ev (gI (nbN n (rst h left) ln[i])) [((ln[i] : Nat) : Int)] (by have := nbN_len n (rst h left) ln[i]; rw [gI_len]; simp; omega)
    rw [← ofT_nbN, rbag_eq hh left ln[i] hvn hlv, ofT_nbN] at e2
    have e3 := go_ev n (by omega) (rst h left) (hh.rst left) ln[i] hvn
    rw [rst_join hh left ln[i] hlv] at e3
    have e4 := rbags_l0 hn ln hl hll d (i + 1) (joinBd h (laterN n h left ln[i])) (without left ln[i]) (out ++ [bagT n h left ln[i]]) (by omega) (joinBd_sy hh (fun x hx => (mem_laterN.1 hx).1)) (fun v hv' => (without_iff _ _ _).2 ⟨hv v (List.mem_cons_of_mem _ hv'), fun e => (List.nodup_cons.1 hnd).1 (e ▸ hv')⟩) (List.nodup_cons.1 hnd).2 (by simp [ho])
    have hr : out ++ (fillB n (ln.drop i) h left).1 = (out ++ [bagT n h left ln[i]]) ++ (fillB n (ln.drop (i + 1)) (joinBd h (laterN n h left ln[i])) (without left ln[i])).1 := by
      rw [hdr, List.append_assoc]
      rfl
    rw [hr]
    refine evs4 e1 e2 e3 e4 (fun k p1 p2 p3 p4 => ?_)
    rw [arboristref10_Bags.l0, if_pos (by rw [gI_len]; omega), if_pos (by omega), gI_rd, wAt_get ln i hi, p1, Option.bind_some, p2, Option.bind_some, if_pos (by omega), p3, Option.bind_some, wrap_nat i (by omega)]
    exact p4
theorem rbags_ev {n : Nat} (hn : n ≤ 40) {F : Nat → Nat → Bool} (hF : Sy n F) {ln : List Nat} (ho : (gI ln).Perm (idI n)) (hd : ln.Nodup) (hl : ∀ x ∈ ln, x < n) : Ev (fun k => arboristref10_Bags.f k (mat n F) (gI ln)) (fillB n ln F allL).1 := by
  have e := rbags_l0 hn ln hl (by have := ho.length_eq; rw [gI_len, idI_len] at this; omega) ln.length 0 F allL [] (by omega) hF (fun _ _ => rfl) (by rw [List.drop_zero]; exact hd) rfl
  rw [show rst F allL = F from rst_all F, List.drop_zero, List.nil_append] at e
  refine evu2 (copy_ev n (by omega) F) e (fun k p1 p2 => ?_)
  rw [arboristref10_Bags.f, p1, Option.bind_some]
  exact p2
section
variable {n : Nat} (hn : n ≤ 40) (B : List (List Int)) (hB : B.length ≤ 1000)
include hn hB
end
theorem rdI_is (B : List (List Int)) (i : Nat) (h : i < B.length) : rd_L1 B (i : Int) = B[i] := by
  unfold rd_L1
  rw [Int.toNat_natCast]
  simp [h]
theorem within_eq {a b : List Int} (ha : a.Pairwise (· < ·)) (hb : b.Pairwise (· < ·)) : withinB a b = withinR a b := by
  unfold withinB withinR
  rw [merge_without _ a b rfl ha hb]
theorem prim_init (B : List (List Int)) : PInv B (initL B.length) (List.replicate B.length (-1)) := by
  have hno : ∀ s, ¬ inT (initL B.length) B.length s := fun s h => by
    have := init_some B.length s
    rw [h.2, decide_eq_true h.1] at this
    cases this
  exact ⟨by simp, fun i hi => by rw [init_some] at hi; exact of_decide_eq_true hi, fun i c t hi => (by
    refine .inl ⟨hno, ?_⟩
    unfold initL at hi
    split at hi
    · obtain ⟨rfl, rfl⟩ := Prod.mk.inj (Option.some.inj hi)
      exact ⟨rfl, rfl⟩
    · cases hi), fun ⟨s, hs⟩ => absurd hs (hno s), fun h => absurd h (hno 0), fun s hs => absurd hs (hno s)⟩
theorem cnt_init (m : Nat) : cntL (initL m) m = m := by
  unfold cntL
  rw [List.countP_eq_length.2 (fun i hi => by rw [init_some]; exact decide_eq_true (List.mem_range.1 hi)), List.length_range]
def inR (m : Nat) (L : Nat → Option (Int × Int)) : List Bool := rowT m fun s => (L s).isNone
def Lnk (B : List (List Int)) (L : Nat → Option (Int × Int)) (i : Nat) (c : Int) (p : Nat) : Prop := inT L B.length p ∧ c = meetN B i p ∧ ∀ s, inT L B.length s → meetN B i s ≤ c ∧ (meetN B i s = c → p ≤ s)
theorem rb_l4n (B : List (List Int)) (L : Nat → Option (Int × Int)) (par : List Int) (turn best tz most : Int) (i : Nat) (hi : i < B.length) (hB : B.length ≤ 1000) (hL : L i = none) (R : List (List Int) × List Int)
    (H : Ev (fun k => arboristref11_Build.l3 k (inR B.length L) turn best tz most ((i + 1 : Nat) : Int) B par) R) : ∀ (d K : Nat), K + d = B.length → Ev (fun k => arboristref11_Build.l4 k (inR B.length L) turn best tz most (i : Int) (K : Int) B par) R
  | 0, K, h => evp H (fun k e => by rw [arboristref11_Build.l4, if_neg (by omega), wrap_nat i (by omega)]; exact e)
  | d + 1, K, h => by
    have hj : Ev (fun k => arboristref11_Build.j5 k (inR B.length L) turn best tz most (i : Int) (K : Int) true B par) R := evp (rb_l4n B L par turn best tz most i hi hB hL R H d (K + 1) (by omega)) (fun k e => by
      rw [arboristref11_Build.j5, if_pos rfl, wrap_nat K (by omega)]; exact e)
    refine evp hj (fun k e => ?_)
    have hr : rdOf false (inR B.length L) (i : Int) = true := by unfold inR; rw [rowT_rd B.length _ i hi, hL]; rfl
    rw [arboristref11_Build.l4, if_pos (by omega), if_pos (by omega), if_pos (by unfold inR; rw [rowT_len]; omega), hr, if_pos rfl]
    exact e
theorem rb_l4 (B : List (List Int)) (L : Nat → Option (Int × Int)) (par : List Int) (turn : Int) (i : Nat) (hi : i < B.length) (hB : B.length ≤ 1000) (hl : ∀ b ∈ B, b.length ≤ 1000) (hr : ∀ b ∈ B, b.Pairwise (· < ·)) (c : Int) (p : Nat) (hL : L i = some (c, (p : Int))) (hp : Lnk B L i c p) (R : List (List Int) × List Int) (fb ft fm : Int)
    (H : Ev (fun k => arboristref11_Build.l3 k (inR B.length L) turn fb ft fm ((i + 1 : Nat) : Int) B par) R) : ∀ (d K : Nat) (best tz most : Int), K + d = B.length → ((c ≤ most ∧ fb = best ∧ ft = tz ∧ fm = most) ∨ (most < c ∧ K ≤ p ∧ fb = (i : Int) ∧ ft = (p : Int) ∧ fm = c)) →
      Ev (fun k => arboristref11_Build.l4 k (inR B.length L) turn best tz most (i : Int) (K : Int) B par) R
  | 0, K, best, tz, most, h, hs => by
    rcases hs with ⟨_, rfl, rfl, rfl⟩ | ⟨_, h2, _⟩
    · exact evp H (fun k e => by rw [arboristref11_Build.l4, if_neg (by omega), wrap_nat i (by omega)]; exact e)
    · have := hp.1.1
      omega
  | d + 1, K, best, tz, most, h, hs => by
    have hK : K < B.length := by omega
    have hri : rdOf false (inR B.length L) (i : Int) = false := by unfold inR; rw [rowT_rd B.length _ i hi, hL]; rfl
    have hrK : rdOf false (inR B.length L) (K : Int) = (L K).isNone := by unfold inR; rw [rowT_rd B.length _ K hK]
    have hgo : ∀ fl : Bool, fl = !(L K).isNone → Ev (fun k => arboristref11_Build.j5 k (inR B.length L) turn best tz most (i : Int) (K : Int) fl B par) R → Ev (fun k => arboristref11_Build.l4 k (inR B.length L) turn best tz most (i : Int) (K : Int) B par) R := fun fl hfl hj => evp hj (fun k e => by
      rw [arboristref11_Build.l4, if_pos (by omega), if_pos (by omega), if_pos (by unfold inR; rw [rowT_len]; omega), hri, if_neg (by decide), if_pos (by omega), if_pos (by unfold inR; rw [rowT_len]; omega), hrK, ← hfl]
      exact e)
    cases hLK : L K with
    | some q =>
      refine hgo true (by rw [hLK]; rfl) (evp (rb_l4 B L par turn i hi hB hl hr c p hL hp R fb ft fm H d (K + 1) best tz most (by omega) ?_) (fun k e => ?_))
      · rcases hs with hs | ⟨h1, h2, h3⟩
        · exact .inl hs
        · refine .inr ⟨h1, ?_, h3⟩
          have : K ≠ p := fun e => by have := hp.1.2; rw [← e, hLK] at this; cases this
          omega
      · rw [arboristref11_Build.j5, if_pos rfl, wrap_nat K (by omega)]; exact e
    | none =>
      have hin : inT L B.length K := ⟨hK, hLK⟩
      have hm := hp.2.2 K hin
      have e1 := Meet_ev B[i] B[K] (by have := hl _ (List.getElem_mem hi); omega) (by have := hl _ (List.getElem_mem hK); omega)
      have e2 := meetN_eq B hr hi hK
      have hstep : ∀ (b' t' m' : Int), ((meetN B i K > most ∧ b' = (i : Int) ∧ t' = (K : Int) ∧ m' = meetN B i K) ∨ (¬ meetN B i K > most ∧ b' = best ∧ t' = tz ∧ m' = most)) → Ev (fun k => arboristref11_Build.l4 k (inR B.length L) turn b' t' m' (i : Int) ((K + 1 : Nat) : Int) B par) R → Ev (fun k => arboristref11_Build.j5 k (inR B.length L) turn best tz most (i : Int) (K : Int) false B par) R := fun b' t' m' hc hn => by
        refine evs2 e1 hn (fun k q1 q2 => ?_)
        rw [arboristref11_Build.j5, if_neg (by decide), if_pos (by omega), if_pos (by omega), if_pos (by omega), if_pos (by omega), rdI_is B i hi, rdI_is B K hK, q1, Option.bind_some, ← e2]
        rcases hc with ⟨c1, rfl, rfl, rfl⟩ | ⟨c1, rfl, rfl, rfl⟩
        · rw [if_pos c1, wrap_nat K (by omega)]; exact q2
        · rw [if_neg c1, wrap_nat K (by omega)]; exact q2
      refine hgo false (by rw [hLK]; rfl) ?_
      by_cases cm : meetN B i K > most
      · refine hstep _ _ _ (.inl ⟨cm, rfl, rfl, rfl⟩) (rb_l4 B L par turn i hi hB hl hr c p hL hp R fb ft fm H d (K + 1) _ _ _ (by omega) ?_)
        rcases hs with ⟨h1, _⟩ | ⟨h1, h2, h3, h4, h5⟩
        · omega
        · by_cases ce : meetN B i K = c
          · have h6 := hm.2 ce
            have h7 : K = p := by omega
            subst h7
            exact .inl ⟨by omega, h3, h4, by omega⟩
          · refine .inr ⟨by omega, ?_, h3, h4, h5⟩
            have : K ≠ p := fun e => ce (by rw [e]; exact hp.2.1.symm)
            omega
      · refine hstep _ _ _ (.inr ⟨cm, rfl, rfl, rfl⟩) (rb_l4 B L par turn i hi hB hl hr c p hL hp R fb ft fm H d (K + 1) _ _ _ (by omega) ?_)
        rcases hs with h1 | ⟨h1, h2, h3⟩
        · exact .inl h1
        · refine .inr ⟨h1, ?_, h3⟩
          have : K ≠ p := fun e => by
            have h4 := hp.2.1
            rw [← e] at h4
            omega
          omega
def InvS (L : Nat → Option (Int × Int)) (b best tz most : Int) : Prop := (b = -1 ∧ best = -1 ∧ tz = -1 ∧ most = -1) ∨ (0 ≤ b ∧ best = b ∧ L b.toNat = some (most, tz))
theorem rb_l3 (B : List (List Int)) (L : Nat → Option (Int × Int)) (par : List Int) (hI : PInv B L par) (hne : ∃ s, inT L B.length s) (turn : Int) (hB : B.length ≤ 1000) (hl : ∀ b ∈ B, b.length ≤ 1000) (hr : ∀ b ∈ B, b.Pairwise (· < ·)) (R : List (List Int) × List Int) (bF : Int)
    (H : ∀ best tz most, InvS L bF best tz most → Ev (fun k => arboristref11_Build.l3 k (inR B.length L) turn best tz most (B.length : Int) B par) R) : ∀ (d i : Nat) (b best tz most : Int), i + d = B.length → InvS L b best tz most → bestGo L d i b = bF →
      Ev (fun k => arboristref11_Build.l3 k (inR B.length L) turn best tz most (i : Int) B par) R
  | 0, i, b, best, tz, most, h, hs, hF => by
    obtain rfl : i = B.length := by omega
    exact H best tz most (by rw [← show b = bF from hF]; exact hs)
  | d + 1, i, b, best, tz, most, h, hs, hF => by
    have hi : i < B.length := by omega
    rw [bestGo_step] at hF
    have hin : Ev (fun k => arboristref11_Build.l4 k (inR B.length L) turn best tz most (i : Int) ((0 : Nat) : Int) B par) R := by
      cases hLi : L i with
      | none =>
        have hb : stepB L i b = b := by unfold stepB; rw [hLi]
        rw [hb] at hF
        exact rb_l4n B L par turn best tz most i hi hB hLi R (rb_l3 B L par hI hne turn hB hl hr R bF H d (i + 1) b best tz most (by omega) hs hF) B.length 0 (by omega)
      | some q =>
        obtain ⟨c, t⟩ := q
        rcases hI.lnk i c t hLi with ⟨hno, _⟩ | ⟨p, rfl, hp⟩
        · obtain ⟨s, hs'⟩ := hne
          exact absurd hs' (hno s)
        · have hc0 : 0 ≤ c := by rw [hp.2.1]; exact meetN_ge B i p
          by_cases cu : most < c
          · have hb : stepB L i b = (i : Int) := by
              unfold stepB
              rw [hLi]
              refine if_pos ?_
              rcases hs with ⟨h1, _⟩ | ⟨h1, h2, h3⟩
              · exact .inl h1
              · refine .inr ?_
                rw [h3]
                show c > most
                omega
            rw [hb] at hF
            exact rb_l4 B L par turn i hi hB hl hr c p hLi hp R _ _ _ (rb_l3 B L par hI hne turn hB hl hr R bF H d (i + 1) _ (i : Int) (p : Int) c (by omega) (.inr ⟨by omega, rfl, by rw [Int.toNat_natCast]; exact hLi⟩) hF) B.length 0 best tz most (by omega) (.inr ⟨cu, Nat.zero_le _, rfl, rfl, rfl⟩)
          · have hb : stepB L i b = b := by
              unfold stepB
              rw [hLi]
              refine if_neg ?_
              rcases hs with ⟨h1, _, _, h2⟩ | ⟨h1, h2, h3⟩
              · omega
              · rw [h3]
                show ¬ (b = -1 ∨ c > most)
                omega
            rw [hb] at hF
            exact rb_l4 B L par turn i hi hB hl hr c p hLi hp R _ _ _ (rb_l3 B L par hI hne turn hB hl hr R bF H d (i + 1) b best tz most (by omega) hs hF) B.length 0 best tz most (by omega) (.inl ⟨by omega, rfl, rfl, rfl⟩)
    exact evp hin (fun k e => by rw [arboristref11_Build.l3, if_pos (by omega)]; exact e)
theorem rb_l2 (B : List (List Int)) (hB : B.length ≤ 1000) (hl : ∀ b ∈ B, b.length ≤ 1000) (hr : ∀ b ∈ B, b.Pairwise (· < ·)) : ∀ (d : Nat) (L : Nat → Option (Int × Int)) (par : List Int) (turn : Nat), PInv B L par → cntL L B.length = d → (∃ s, inT L B.length s) → turn + d = B.length → 1 ≤ turn →
    Ev (fun k => arboristref11_Build.l2 k (inR B.length L) (turn : Int) B par) (B, primGo B d L (bestGo L B.length 0 (-1)) par)
  | 0, L, par, turn, hI, hc, hne, h, h1 => evs0 (fun k => by rw [arboristref11_Build.l2, if_neg (by omega)]; rfl)
  | d + 1, L, par, turn, hI, hc, hne, h, h1 => by
    obtain ⟨j, hj, hj2⟩ := cnt_pos (L := L) (m := B.length) (by omega)
    obtain ⟨b0, b1⟩ := bestGo_ok (L := L) B.length 0 (-1) (.inr ⟨rfl, j, Nat.zero_le _, by omega, hj2⟩)
    generalize hbF : bestGo L B.length 0 (-1) = bF at *
    obtain ⟨b, rfl⟩ := Int.eq_ofNat_of_zero_le b0
    rw [Int.toNat_natCast] at b1
    obtain ⟨⟨c, t⟩, hb⟩ := Option.isSome_iff_exists.1 b1
    have hbm := hI.dom b b1
    have hs := prim_step hI hb (fun hno => by obtain ⟨s, hs⟩ := hne; exact absurd hs (hno s))
    have hcc := cnt_comes (B := B) b1 B.length
    rw [if_pos hbm] at hcc
    have hkin : inT (comesL B b L) B.length b := ⟨hbm, comes_none.2 (.inl rfl)⟩
    have ih := rb_l2 B hB hl hr d (comesL B b L) (par.set b t) (turn + 1) hs (by omega) ⟨b, hkin⟩ (by omega) (by omega)
    have e0 : primGo B (d + 1) L ((b : Nat) : Int) par = primGo B d (comesL B b L) (bestGo (comesL B b L) B.length 0 (-1)) (par.set b t) := by
      rw [primGo, Int.toNat_natCast, hb]
      rfl
    rw [e0]
    have h3 := rb_l3 B L par hI hne (turn : Int) hB hl hr (B, primGo B d (comesL B b L) (bestGo (comesL B b L) B.length 0 (-1)) (par.set b t)) (b : Int) (fun best tz most hv => by
      rcases hv with ⟨h2, _⟩ | ⟨_, rfl, h4⟩
      · omega
      · rw [Int.toNat_natCast, hb] at h4
        obtain ⟨rfl, rfl⟩ := Prod.mk.inj (Option.some.inj h4)
        refine evp ih (fun k e => ?_)
        have hset : (inR B.length L).set b true = inR B.length (comesL B b L) := by
          unfold inR
          rw [rowT_set]
          refine rowT_congr (fun s hs' => ?_)
          unfold comesL
          by_cases cs : s = b
          · rw [if_pos cs, if_pos cs]; rfl
          · rw [if_neg cs, if_neg cs, Option.isNone_map]
        rw [arboristref11_Build.l3, if_neg (by omega), if_pos (by omega), if_pos (by unfold inR; rw [rowT_len]; omega), if_pos (by rw [hI.len]; omega), Int.toNat_natCast, hset, wrap_nat turn (by omega)]
        exact e) B.length 0 (-1) (-1) (-1) (-1) (by omega) (.inl ⟨rfl, rfl, rfl, rfl⟩) hbF
    refine evp h3 (fun k e => ?_)
    rw [arboristref11_Build.l2, if_pos (by omega), if_neg (by omega)]
    exact e
theorem rb_tree (B : List (List Int)) (hB : B.length ≤ 1000) (hl : ∀ b ∈ B, b.length ≤ 1000) (hr : ∀ b ∈ B, b.Pairwise (· < ·)) : Ev (fun k => arboristref11_Build.l2 k (List.replicate B.length false) 0 B (List.replicate B.length (-1))) (B, primL B) := by
  have hrow : List.replicate B.length false = inR B.length (initL B.length) := by
    rw [rep_row]
    unfold inR
    refine rowT_congr (fun s hs => ?_)
    unfold initL
    rw [if_pos hs]
    rfl
  rw [hrow]
  unfold primL
  have hm := cnt_init B.length
  rcases Nat.eq_zero_or_pos B.length with h | h
  · refine evs0 (fun k => ?_)
    rw [arboristref11_Build.l2, if_neg (by omega), h]
    rfl
  · obtain ⟨m, hm1⟩ : ∃ m, B.length = m + 1 := ⟨B.length - 1, by omega⟩
    have hI := prim_init B
    have h0 : initL B.length 0 = some (-1, -1) := by unfold initL; rw [if_pos h]
    have hs := prim_step hI h0 (fun _ => rfl)
    have hset : (List.replicate B.length (-1 : Int)).set 0 (-1) = List.replicate B.length (-1) := by
      rw [hm1]
      rfl
    rw [hset] at hs
    have hcc := cnt_comes (B := B) (k := 0) (L := initL B.length) (by rw [h0]; rfl) B.length
    rw [if_pos h, hm] at hcc
    have ih := rb_l2 B hB hl hr m (comesL B 0 (initL B.length)) (List.replicate B.length (-1)) 1 hs (by omega) ⟨0, h, comes_none.2 (.inl rfl)⟩ (by omega) (Nat.le_refl _)
    have e0 : primGo B B.length (initL B.length) 0 (List.replicate B.length (-1)) = primGo B m (comesL B 0 (initL B.length)) (bestGo (comesL B 0 (initL B.length)) B.length 0 (-1)) (List.replicate B.length (-1)) := by
      conv => lhs; rw [show primGo B B.length = primGo B (m + 1) by rw [hm1]]
      rw [primGo, show (0 : Int).toNat = 0 from rfl, h0]
      show primGo B m _ _ ((List.replicate B.length (-1 : Int)).set 0 (-1)) = _
      rw [hset]
    rw [e0]
    refine evp ih (fun k e => ?_)
    have hset2 : (inR B.length (initL B.length)).set 0 true = inR B.length (comesL B 0 (initL B.length)) := by
      unfold inR
      rw [rowT_set]
      refine rowT_congr (fun s hs' => ?_)
      unfold comesL
      by_cases cs : s = 0
      · rw [if_pos cs, if_pos cs]; rfl
      · rw [if_neg cs, if_neg cs, Option.isNone_map]
    rw [arboristref11_Build.l2, if_pos (by omega), if_pos rfl, if_pos (by unfold inR; rw [rowT_len]; omega), show (0 : Int).toNat = 0 from rfl, hset2, show wrap64 (0 + 1) = ((1 : Nat) : Int) from wrap_nat 0 (by omega)]
    exact e
theorem take_drop_step (A : List (List Int)) (i j : Nat) (hi : i ≤ A.length) (hj : j < i) : (A.take i).drop j = A[j]'(by omega) :: (A.take i).drop (j + 1) := by
  rw [List.drop_eq_getElem_cons (by rw [List.length_take]; omega), List.getElem_take]
theorem rb_l1 (A : List (List Int)) (hA : A.length ≤ 1000) (hl : ∀ b ∈ A, b.length ≤ 1000) (hr : ∀ b ∈ A, b.Pairwise (· < ·)) (i : Nat) (hi : i < A.length) (ob : List (List Int)) (op : List Int) (R : List (List Int) × List Int) (fl : Bool)
    (H : Ev (fun k => arboristref11_Build.l1 k A (i : Int) fl (i : Int) ob op) R) : ∀ (d j : Nat) (x : Bool), j + d = i → fl = (x && !(((A.take i).drop j).any (withinB A[i]))) → Ev (fun k => arboristref11_Build.l1 k A (i : Int) x (j : Int) ob op) R
  | 0, j, x, h, hx => by
    obtain rfl : j = i := by omega
    have e : (A.take j).drop j = [] := List.drop_eq_nil_of_le (by rw [List.length_take]; omega)
    rw [e, List.any_nil, Bool.not_false, Bool.and_true] at hx
    rw [← hx]
    exact H
  | d + 1, j, x, h, hx => by
    have hj : j < A.length := by omega
    have e1 := Within_ev A[i] A[j] (by have := hl _ (List.getElem_mem hi); omega) (by have := hl _ (List.getElem_mem hj); omega)
    rw [← within_eq (hr _ (List.getElem_mem hi)) (hr _ (List.getElem_mem hj))] at e1
    rw [take_drop_step A i j (by omega) (by omega), List.any_cons] at hx
    have ih := rb_l1 A hA hl hr i hi ob op R fl H d (j + 1) (x && !(withinB A[i] A[j])) (by omega) (by rw [hx]; cases x <;> cases withinB A[i] A[j] <;> simp)
    refine evs2 e1 ih (fun k q1 q2 => ?_)
    rw [arboristref11_Build.l1, if_pos (by omega), if_pos (by omega), if_pos (by omega), if_pos (by omega), if_pos (by omega), rdI_is A i hi, rdI_is A j hj, q1, Option.bind_some, wrap_nat j (by omega)]
    cases x with
    | true => rw [if_pos rfl]; exact q2
    | false => rw [if_neg (by decide)]; exact q2
theorem rb_l0 (A : List (List Int)) (hA : A.length ≤ 1000) (hl : ∀ b ∈ A, b.length ≤ 1000) (hr : ∀ b ∈ A, b.Pairwise (· < ·)) : ∀ (d i : Nat) (out : List (List Int)), i + d = A.length → out.length ≤ i → (∀ b ∈ out, b ∈ A) →
    Ev (fun k => arboristref11_Build.l0 k A (i : Int) out (List.replicate out.length (-1))) (out ++ ownL (A.take i) (A.drop i), primL (out ++ ownL (A.take i) (A.drop i)))
  | 0, i, out, h, ho, hs => by
    obtain rfl : i = A.length := by omega
    rw [List.drop_length, show ownL (A.take A.length) [] = [] from rfl, List.append_nil]
    refine evp (rb_tree out (by omega) (fun b hb => hl b (hs b hb)) (fun b hb => hr b (hs b hb))) (fun k e => ?_)
    rw [arboristref11_Build.l0, if_neg (by omega), if_pos (by omega), if_pos (by omega), Int.toNat_natCast]
    exact e
  | d + 1, i, out, h, ho, hs => by
    have hi : i < A.length := by omega
    have hd : A.drop i = A[i] :: A.drop (i + 1) := List.drop_eq_getElem_cons hi
    have ht : A.take (i + 1) = A.take i ++ [A[i]] := by rw [List.take_add_one, List.getElem?_eq_getElem hi]; rfl
    rw [hd, ownL, ← ht]
    have hin : ∀ R fl, fl = !((A.take i).any (withinB A[i])) → Ev (fun k => arboristref11_Build.l1 k A (i : Int) fl (i : Int) out (List.replicate out.length (-1))) R → Ev (fun k => arboristref11_Build.l0 k A (i : Int) out (List.replicate out.length (-1))) R := fun R fl hfl H => by
      refine evp (rb_l1 A hA hl hr i hi out _ R fl H i 0 true (by omega) (by rw [List.drop_zero, Bool.true_and]; exact hfl)) (fun k e => ?_)
      rw [arboristref11_Build.l0, if_pos (by omega)]
      exact e
    by_cases c : (A.take i).any (withinB A[i]) = true
    · rw [if_pos c]
      have ih := rb_l0 A hA hl hr d (i + 1) out (by omega) (by omega) hs
      refine hin _ false (by rw [c]; rfl) (evp ih (fun k e => ?_))
      rw [arboristref11_Build.l1, if_neg (by omega), if_neg (by decide), wrap_nat i (by omega)]
      exact e
    · rw [if_neg c]
      have ih := rb_l0 A hA hl hr d (i + 1) (out ++ [A[i]]) (by omega) (by simp; omega) (fun b hb => by
        rcases List.mem_append.1 hb with hb | hb
        · exact hs b hb
        · rw [List.mem_singleton.1 hb]; exact List.getElem_mem hi)
      rw [List.append_assoc, List.singleton_append] at ih
      refine hin _ true (by rw [Bool.eq_false_iff.2 c]; rfl) (evp ih (fun k e => ?_))
      rw [arboristref11_Build.l1, if_neg (by omega), if_pos rfl, if_pos (by omega), if_pos (by omega), if_pos (by omega), if_pos (by rw [List.length_replicate]; omega), rdI_is A i hi, wrap_nat i (by omega)]
      have hrep : List.replicate out.length (-1 : Int) ++ [-1] = List.replicate (out ++ [A[i]]).length (-1) := by
        rw [List.length_append, show [A[i]].length = 1 from rfl, List.replicate_succ']
      rw [hrep]
      exact e
theorem rbuild_ev {n : Nat} (hn : n ≤ 40) {F : Nat → Nat → Bool} (hF : Sy n F) {ln : List Nat} (hop : (gI ln).Perm (idI n)) (hd : ln.Nodup) (hl : ∀ x ∈ ln, x < n) : Ev (fun k => arboristref11_Build.f k (mat n F) (gI ln)) (ownL [] (fillB n ln F allL).1, primL (ownL [] (fillB n ln F allL).1)) := by
  have hlen := fillB_len (n := n) ln F allL
  have hg : ln.length = n := by have := hop.length_eq; rw [gI_len, idI_len] at this; exact this
  have hcl := fillB_cliq (n := n) ln F allL hF
  have h0 := rb_l0 (fillB n ln F allL).1 (by omega) (fun b hb => by have := (hcl b hb).2; omega) (fillB_rise (n := n) ln F allL) (fillB n ln F allL).1.length 0 [] (by omega) (Nat.le_refl _) (fun b hb => by cases hb)
  rw [List.take_zero, List.drop_zero, List.nil_append] at h0
  refine evu2 (rbags_ev hn hF hop hd hl) h0 (fun k p1 p2 => ?_)
  rw [arboristref11_Build.f, p1, Option.bind_some]
  exact p2
def dtellsT (g : Nat → Bool → Int → List (List Int) → List Int → List (List Int) → List Int → Option Bool) (k : Nat) (M : List (List Bool)) (G o : List Int) : Option Bool :=
  (decomp_Build.f G o).bind fun bt516 => ((arboristref09_Valid.f k (M.length : Int) o).bind fun t524 => (if t524 = true then ((arboristref11_Build.f k M o).bind fun bt525 => (if bt516.2.2 = 0 then (if (bt516.1.length : Int) = (bt525.1.length : Int) then ((arboristref01_Compare.f k bt516.2.1 bt525.2).bind fun t532 => (if t532 = 0 then (g k true 0 bt516.1 bt516.2.1 bt525.1 bt525.2) else (some false))) else (some false)) else (some false))) else (if true = true then (if bt516.2.2 = 8 then (if (bt516.1.length : Int) = 0 then (some ((bt516.2.1.length : Int) == 0)) else (some false)) else (some false)) else (some false))))
theorem dt_l0 (B : List (List Int)) (hB : B.length ≤ 1000) (hl : ∀ b ∈ B, b.length ≤ 1000) (par : List Int) : ∀ (d i : Nat), i + d = B.length → Ev (fun k => arboristlaw11_DecompTells.l0 k true (i : Int) B par B par) true
  | 0, i, h => evs0 (fun k => by rw [arboristlaw11_DecompTells.l0, if_neg (by omega)])
  | d + 1, i, h => by
    have hi : i < B.length := by omega
    have hb := hl _ (List.getElem_mem hi)
    have e1 := Compare_ev B[i] B[i] (by omega) (by omega)
    rw [cmpL_self] at e1
    refine evs2 e1 (dt_l0 B hB hl par d (i + 1) (by omega)) (fun k q1 q2 => ?_)
    rw [arboristlaw11_DecompTells.l0, if_pos (by omega), if_pos (by omega), if_pos (by omega), rdI_is B i hi, q1, Option.bind_some, if_pos rfl, wrap_nat i (by omega)]
    exact q2
theorem dt_l60 (B : List (List Int)) (hB : B.length ≤ 1000) (hl : ∀ b ∈ B, b.length ≤ 1000) (par : List Int) : ∀ (d i : Nat), i + d = B.length → Ev (fun k => arboristlaw11_DecompTells.l60 k true (i : Int) B par B par) true
  | 0, i, h => evs0 (fun k => by rw [arboristlaw11_DecompTells.l60, if_neg (by omega)])
  | d + 1, i, h => by
    have hi : i < B.length := by omega
    have hb := hl _ (List.getElem_mem hi)
    have e1 := Compare_ev B[i] B[i] (by omega) (by omega)
    rw [cmpL_self] at e1
    refine evs2 e1 (dt_l60 B hB hl par d (i + 1) (by omega)) (fun k q1 q2 => ?_)
    rw [arboristlaw11_DecompTells.l60, if_pos (by omega), if_pos (by omega), if_pos (by omega), rdI_is B i hi, q1, Option.bind_some, if_pos rfl, wrap_nat i (by omega)]
    exact q2
theorem dt_ok (g : Nat → Bool → Int → List (List Int) → List Int → List (List Int) → List Int → Option Bool) (hgo : ∀ (B : List (List Int)) (par : List Int), B.length ≤ 1000 → (∀ b ∈ B, b.length ≤ 1000) → Ev (fun k => g k true 0 B par B par) true)
    {n : Nat} (hn : n ≤ 40) {F : Nat → Nat → Bool} (hF : Sy n F) {ln : List Nat} (hop : (gI ln).Perm (idI n)) (hd : ln.Nodup) (hl : ∀ x ∈ ln, x < n) : Ev (fun k => dtellsT g k (mat n F) (gI (gW n F)) (gI ln)) true := by
  have hlen := fillB_len (n := n) ln F allL
  have hg : ln.length = n := by have := hop.length_eq; rw [gI_len, idI_len] at this; exact this
  have hcl := fillB_cliq (n := n) ln F allL hF
  have hb := build_f hn hF hop hd hl
  have e7 := rbuild_ev hn hF hop hd hl
  have e4 := rvalid_ev n (by omega) (gI ln)
  rw [validB_of hop] at e4
  have hol := own_len (fillB n ln F allL).1 []
  have hos := ownL_sub (fillB n ln F allL).1 []
  generalize (fillB n ln F allL).1 = B0 at *
  generalize ownL [] B0 = B at *
  obtain ⟨p1, _⟩ := prim_all B
  have h0 := hgo B (primL B) (by omega) (fun b hb => by have := (hcl b (hos b hb)).2; omega)
  have e6 := Compare_ev (primL B) (primL B) (by omega) (by omega)
  rw [cmpL_self] at e6
  refine evu4 e4 e7 e6 h0 (fun k q1 q2 q3 q4 => ?_)
  unfold dtellsT
  rw [hb, Option.bind_some, mat_len, q1, Option.bind_some, if_pos rfl, q2, Option.bind_some, if_pos rfl, if_pos rfl, q3, Option.bind_some, if_pos rfl]
  exact q4
theorem dt_bad (g : Nat → Bool → Int → List (List Int) → List Int → List (List Int) → List Int → Option Bool) {n : Nat} (hn : n ≤ 40) {F : Nat → Nat → Bool} (o : List Int) (hol : o.length ≤ 1000) (hv : validB n o = false) : Ev (fun k => dtellsT g k (mat n F) (gI (gW n F)) o) true := by
  have e1 : decomp_Build.f (gI (gW n F)) o = some ([], [], 8) := by
    unfold decomp_Build.f fill_Bags.f
    rw [all_bad (n := n) F o (by omega) hv, Option.bind_some, Option.bind_some]
    rfl
  have e4 := rvalid_ev n (by omega) o
  rw [hv] at e4
  refine evu1 e4 (fun k q1 => ?_)
  unfold dtellsT
  rw [e1, Option.bind_some, mat_len, q1, Option.bind_some, if_neg (by decide), if_pos rfl, if_pos rfl]
  rfl
theorem dt_any (g : Nat → Bool → Int → List (List Int) → List Int → List (List Int) → List Int → Option Bool) (hgo : ∀ (B : List (List Int)) (par : List Int), B.length ≤ 1000 → (∀ b ∈ B, b.length ≤ 1000) → Ev (fun k => g k true 0 B par B par) true)
    {n : Nat} (hn : n ≤ 40) {F : Nat → Nat → Bool} (hF : Sy n F) (o : List Int) (hol : o.length ≤ 1000) : Ev (fun k => dtellsT g k (mat n F) (gI (gW n F)) o) true := by
  cases hv : validB n o with
  | false => exact dt_bad g hn o hol hv
  | true =>
    have hop := (validB_perm n o).1 hv
    obtain ⟨ln, rfl, hd, hl⟩ := toN_of hop
    exact dt_ok g hgo hn hF hop hd hl
theorem DecompTells : arboristlaw11_DecompTells.Pure := by
  intro a0 l1 l2 a3 _ _ h2
  obtain ⟨n, F, hn, hF, hm⟩ := made9_ev a0 l1
  obtain ⟨o, hop, hoe⟩ := given_ev n (by omega) l2
  have hol : o.length = n := by rw [hop.length_eq, idI_len]
  cases a3 with
  | true =>
    obtain ⟨c1, c2, c3'⟩ := (show 0 ≤ mn (l2.length : Int) 20 ∧ mn (l2.length : Int) 20 ≤ l2.length ∧ l2.take (mn (l2.length : Int) 20).toNat = l2.take 20 from mn_cut l2 20)
    refine (evu4 hm hoe (graph_ev n (by omega) F) (dt_any arboristlaw11_DecompTells.l0 (fun B par h1 h2 => dt_l0 B h1 h2 par B.length 0 (by omega)) (show n ≤ 40 by omega) hF (l2.take 20) (by rw [List.length_take]; omega)) (fun k p2 p3 p4 p5 => ?_)).rounds
    unfold arboristlaw11_DecompTells.f
    rw [shown_9, Option.bind_some, p2, Option.bind_some, mat_len, p3, Option.bind_some, if_pos rfl, if_pos c1, if_pos c2, c3', p4, Option.bind_some]
    unfold dtellsT at p5
    rw [mat_len] at p5
    exact p5
  | false =>
    refine (evu4 hm hoe (graph_ev n (by omega) F) (dt_any arboristlaw11_DecompTells.l60 (fun B par h1 h2 => dt_l60 B h1 h2 par B.length 0 (by omega)) (show n ≤ 40 by omega) hF o (by omega)) (fun k p2 p3 p4 p5 => ?_)).rounds
    unfold arboristlaw11_DecompTells.f
    rw [shown_9, Option.bind_some, p2, Option.bind_some, mat_len, p3, Option.bind_some, if_neg (by decide), p4, Option.bind_some]
    unfold dtellsT at p5
    rw [mat_len] at p5
    exact p5
end Go.Proofs.YtbdlelojlnhhfaaDoor.Pure
