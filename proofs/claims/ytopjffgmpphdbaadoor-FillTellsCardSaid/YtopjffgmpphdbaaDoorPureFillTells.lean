/- FillTells: what an order joins, its bags, its width, and whether a graph is chordal, are what the document says. -/
import Derived.Laws.BitsAllLaws
import Derived.Test.YtopjffgmpphdbaaDoorPr0
import Derived.Test.YtopjffgmpphdbaaDoorPr1
import Derived.Test.YtopjffgmpphdbaaDoorPr11
import Derived.Test.YtopjffgmpphdbaaDoorPr12
import Derived.Test.YtopjffgmpphdbaaDoorPr17
import Derived.Test.YtopjffgmpphdbaaDoorPr18
import Derived.Test.YtopjffgmpphdbaaDoorPr19
import Derived.Test.YtopjffgmpphdbaaDoorPr20
import Derived.Test.YtopjffgmpphdbaaDoorPr21
import Derived.Test.YtopjffgmpphdbaaDoorPr22
import Derived.Test.YtopjffgmpphdbaaDoorPr26
import Derived.Test.YtopjffgmpphdbaaDoorPr28
import Derived.Test.YtopjffgmpphdbaaDoorPr29
import Derived.Test.YtopjffgmpphdbaaDoorPr30
import Derived.Test.YtopjffgmpphdbaaDoorPr33
import Derived.Test.YtopjffgmpphdbaaDoorPr34
import Derived.Test.YtopjffgmpphdbaaDoorPr37
import Derived.Test.YtopjffgmpphdbaaDoorPr38
import Derived.Test.YtopjffgmpphdbaaDoorPr39
import Derived.Test.YtopjffgmpphdbaaDoorPr42
import Derived.Test.YtopjffgmpphdbaaDoorPr43
import Derived.Test.YtopjffgmpphdbaaDoorPr44
import Derived.Test.YtopjffgmpphdbaaDoorPr45
import Derived.Test.YtopjffgmpphdbaaDoorPr46
set_option linter.unusedVariables false
set_option linter.unusedSimpArgs false
set_option linter.unusedSectionVars false
namespace Go.Proofs.YtopjffgmpphdbaaDoor.Pr
open Go.RowKit Go.Proofs.YtopjffgmpphdbaaDoorW.PrintWords Go.Proofs.YtopjffgmpphdbaaDoorW.PrintLast
theorem evs0 {ρ : Type} {F : Nat → Option ρ} {r : ρ} (H : ∀ k, F (k + 1) = some r) : Ev F r := ⟨1, fun k hk => by obtain ⟨m, rfl⟩ : ∃ m, k = m + 1 := ⟨k - 1, by omega⟩; exact H m⟩
theorem evu0 {ρ : Type} {F : Nat → Option ρ} {r : ρ} (H : ∀ k, F k = some r) : Ev F r := ⟨0, fun k _ => H k⟩
theorem evu1 {ρ : Type} {F : Nat → Option ρ} {r : ρ} {α1 : Type} {g1 : Nat → Option α1} {a1 : α1} (h1 : Ev g1 a1) (H : ∀ k, g1 k = some a1 → F k = some r) : Ev F r := by
  obtain ⟨K1, e1⟩ := h1
  exact ⟨K1, fun k hk => H k (e1 _ (by omega))⟩
theorem evs1 {ρ : Type} {F : Nat → Option ρ} {r : ρ} {α1 : Type} {g1 : Nat → Option α1} {a1 : α1} (h1 : Ev g1 a1) (H : ∀ k, g1 k = some a1 → F (k + 1) = some r) : Ev F r := by
  obtain ⟨K1, e1⟩ := h1
  refine ⟨K1 + 1, fun k hk => ?_⟩
  obtain ⟨m, rfl⟩ : ∃ m, k = m + 1 := ⟨k - 1, by omega⟩
  exact H m (e1 _ (by omega))
theorem evu2 {ρ : Type} {F : Nat → Option ρ} {r : ρ} {α1 : Type} {g1 : Nat → Option α1} {a1 : α1} {α2 : Type} {g2 : Nat → Option α2} {a2 : α2} (h1 : Ev g1 a1) (h2 : Ev g2 a2) (H : ∀ k, g1 k = some a1 → g2 k = some a2 → F k = some r) : Ev F r := by
  obtain ⟨K1, e1⟩ := h1; obtain ⟨K2, e2⟩ := h2
  exact ⟨K1 + K2, fun k hk => H k (e1 _ (by omega)) (e2 _ (by omega))⟩
theorem evs2 {ρ : Type} {F : Nat → Option ρ} {r : ρ} {α1 : Type} {g1 : Nat → Option α1} {a1 : α1} {α2 : Type} {g2 : Nat → Option α2} {a2 : α2} (h1 : Ev g1 a1) (h2 : Ev g2 a2) (H : ∀ k, g1 k = some a1 → g2 k = some a2 → F (k + 1) = some r) : Ev F r := by
  obtain ⟨K1, e1⟩ := h1; obtain ⟨K2, e2⟩ := h2
  refine ⟨K1 + K2 + 1, fun k hk => ?_⟩
  obtain ⟨m, rfl⟩ : ∃ m, k = m + 1 := ⟨k - 1, by omega⟩
  exact H m (e1 _ (by omega)) (e2 _ (by omega))
theorem evs3 {ρ : Type} {F : Nat → Option ρ} {r : ρ} {α1 : Type} {g1 : Nat → Option α1} {a1 : α1} {α2 : Type} {g2 : Nat → Option α2} {a2 : α2} {α3 : Type} {g3 : Nat → Option α3} {a3 : α3} (h1 : Ev g1 a1) (h2 : Ev g2 a2) (h3 : Ev g3 a3) (H : ∀ k, g1 k = some a1 → g2 k = some a2 → g3 k = some a3 → F (k + 1) = some r) : Ev F r := by
  obtain ⟨K1, e1⟩ := h1; obtain ⟨K2, e2⟩ := h2; obtain ⟨K3, e3⟩ := h3
  refine ⟨K1 + K2 + K3 + 1, fun k hk => ?_⟩
  obtain ⟨m, rfl⟩ : ∃ m, k = m + 1 := ⟨k - 1, by omega⟩
  exact H m (e1 _ (by omega)) (e2 _ (by omega)) (e3 _ (by omega))
theorem evu4 {ρ : Type} {F : Nat → Option ρ} {r : ρ} {α1 : Type} {g1 : Nat → Option α1} {a1 : α1} {α2 : Type} {g2 : Nat → Option α2} {a2 : α2} {α3 : Type} {g3 : Nat → Option α3} {a3 : α3} {α4 : Type} {g4 : Nat → Option α4} {a4 : α4} (h1 : Ev g1 a1) (h2 : Ev g2 a2) (h3 : Ev g3 a3) (h4 : Ev g4 a4) (H : ∀ k, g1 k = some a1 → g2 k = some a2 → g3 k = some a3 → g4 k = some a4 → F k = some r) : Ev F r := by
  obtain ⟨K1, e1⟩ := h1; obtain ⟨K2, e2⟩ := h2; obtain ⟨K3, e3⟩ := h3; obtain ⟨K4, e4⟩ := h4
  exact ⟨K1 + K2 + K3 + K4, fun k hk => H k (e1 _ (by omega)) (e2 _ (by omega)) (e3 _ (by omega)) (e4 _ (by omega))⟩
theorem evs4 {ρ : Type} {F : Nat → Option ρ} {r : ρ} {α1 : Type} {g1 : Nat → Option α1} {a1 : α1} {α2 : Type} {g2 : Nat → Option α2} {a2 : α2} {α3 : Type} {g3 : Nat → Option α3} {a3 : α3} {α4 : Type} {g4 : Nat → Option α4} {a4 : α4} (h1 : Ev g1 a1) (h2 : Ev g2 a2) (h3 : Ev g3 a3) (h4 : Ev g4 a4) (H : ∀ k, g1 k = some a1 → g2 k = some a2 → g3 k = some a3 → g4 k = some a4 → F (k + 1) = some r) : Ev F r := by
  obtain ⟨K1, e1⟩ := h1; obtain ⟨K2, e2⟩ := h2; obtain ⟨K3, e3⟩ := h3; obtain ⟨K4, e4⟩ := h4
  refine ⟨K1 + K2 + K3 + K4 + 1, fun k hk => ?_⟩
  obtain ⟨m, rfl⟩ : ∃ m, k = m + 1 := ⟨k - 1, by omega⟩
  exact H m (e1 _ (by omega)) (e2 _ (by omega)) (e3 _ (by omega)) (e4 _ (by omega))
theorem evu5 {ρ : Type} {F : Nat → Option ρ} {r : ρ} {α1 : Type} {g1 : Nat → Option α1} {a1 : α1} {α2 : Type} {g2 : Nat → Option α2} {a2 : α2} {α3 : Type} {g3 : Nat → Option α3} {a3 : α3} {α4 : Type} {g4 : Nat → Option α4} {a4 : α4} {α5 : Type} {g5 : Nat → Option α5} {a5 : α5} (h1 : Ev g1 a1) (h2 : Ev g2 a2) (h3 : Ev g3 a3) (h4 : Ev g4 a4) (h5 : Ev g5 a5) (H : ∀ k, g1 k = some a1 → g2 k = some a2 → g3 k = some a3 → g4 k = some a4 → g5 k = some a5 → F k = some r) : Ev F r := by
  obtain ⟨K1, e1⟩ := h1; obtain ⟨K2, e2⟩ := h2; obtain ⟨K3, e3⟩ := h3; obtain ⟨K4, e4⟩ := h4; obtain ⟨K5, e5⟩ := h5
  exact ⟨K1 + K2 + K3 + K4 + K5, fun k hk => H k (e1 _ (by omega)) (e2 _ (by omega)) (e3 _ (by omega)) (e4 _ (by omega)) (e5 _ (by omega))⟩
theorem drop_at (l : List Int) (i : Nat) (h : i < l.length) : l.drop i = rd l (i : Int) :: l.drop (i + 1) := by
  rw [List.drop_eq_getElem_cons h, rd_nat l i _ (List.getElem?_eq_getElem h)]
theorem wrap_nat (i : Nat) (h : i < 9223372036854775807) : wrap64 ((i : Int) + 1) = ((i + 1 : Nat) : Int) := by rw [wrap_succ (by omega) (by omega)]; rfl
def inB (l : List Int) (v : Int) : Bool := l.any (fun x => x == v)
theorem In_loop (l : List Int) (hl : l.length ≤ 9223372036854775807) (v : Int) : ∀ d i : Nat, l.length = i + d → Ev (fun k => arboristref01_In.l0 k l v (i : Int)) (inB (l.drop i) v) := by
  intro d
  induction d with
  | zero =>
    intro i h
    refine Ev.step (f := fun _ => some (inB (l.drop i) v)) (fun k => ?_) (Ev.now _)
    simp only [arboristref01_In.l0]
    rw [if_neg (by omega), List.drop_eq_nil_of_le (by omega)]
    rfl
  | succ d ih =>
    intro i h
    have hi : i < l.length := by omega
    by_cases e : rd l (i : Int) = v
    · refine Ev.step (f := fun _ => some (inB (l.drop i) v)) (fun k => ?_) (Ev.now _)
      simp only [arboristref01_In.l0]
      rw [if_pos (by omega), if_pos (by omega), if_pos e, drop_at l i hi]
      simp [inB, e]
    · refine Ev.step (f := fun k => arboristref01_In.l0 k l v ((i + 1 : Nat) : Int)) (fun k => ?_) ?_
      · simp only [arboristref01_In.l0]
        rw [if_pos (by omega), if_pos (by omega), if_neg e, wrap_nat i (by omega)]
      · have := ih (i + 1) (by omega)
        rw [drop_at l i hi]
        have e2 : (rd l (i : Int) == v) = false := by simpa using e
        simpa [inB, e2] using this
theorem In_ev (l : List Int) (hl : l.length ≤ 9223372036854775807) (v : Int) : Ev (fun k => arboristref01_In.f k l v) (inB l v) := by
  have := In_loop l hl v l.length 0 (by omega)
  simpa [arboristref01_In.f] using this
def cmpL : List Int → List Int → Int
  | [], [] => 0
  | [], _ :: _ => -1
  | _ :: _, [] => 1
  | a :: l, b :: m => if a < b then -1 else if b < a then 1 else cmpL l m
theorem Compare_loop (a b : List Int) (ha : a.length ≤ 9223372036854775807) (hb : b.length ≤ 9223372036854775807) : ∀ (d i : Nat), a.length = i + d → i ≤ b.length → a.take i = b.take i → Ev (fun k => arboristref01_Compare.l0 k a b (i : Int)) (cmpL (a.drop i) (b.drop i)) := by
  intro d
  induction d with
  | zero =>
    intro i h hb2 he
    refine Ev.step (f := fun k => arboristref01_Compare.j1 k a b (i : Int) false) (fun k => ?_) ?_
    · simp only [arboristref01_Compare.l0]; rw [if_neg (by omega)]
    · refine Ev.step (f := fun _ => some (cmpL (a.drop i) (b.drop i))) (fun k => ?_) (Ev.now _)
      simp only [arboristref01_Compare.j1]
      rw [if_neg (by simp), List.drop_eq_nil_of_le (by omega)]
      by_cases hlt : i < b.length
      · rw [if_pos (by omega), drop_at b i hlt]; rfl
      · rw [if_neg (by omega), if_neg (by omega), List.drop_eq_nil_of_le (by omega)]; rfl
  | succ d ih =>
    intro i h hb2 he
    have hi : i < a.length := by omega
    by_cases hlt : i < b.length
    · refine Ev.step (f := fun k => arboristref01_Compare.j1 k a b (i : Int) true) (fun k => ?_) ?_
      · simp only [arboristref01_Compare.l0]; rw [if_pos (by omega), show decide ((i : Int) < (b.length : Int)) = true from decide_eq_true (by omega)]
      · rw [drop_at a i hi, drop_at b i hlt]
        by_cases h1 : rd a (i : Int) < rd b (i : Int)
        · refine Ev.step (f := fun _ => some (-1)) (fun k => ?_) (by simp only [cmpL, if_pos h1]; exact Ev.now _)
          simp only [arboristref01_Compare.j1]
          rw [if_pos trivial, if_pos (by omega), if_pos (by omega), if_pos (by omega), if_pos h1]
        · by_cases h2 : rd b (i : Int) < rd a (i : Int)
          · refine Ev.step (f := fun _ => some 1) (fun k => ?_) (by simp only [cmpL, if_neg h1, if_pos h2]; exact Ev.now _)
            simp only [arboristref01_Compare.j1]
            rw [if_pos trivial, if_pos (by omega), if_pos (by omega), if_pos (by omega), if_neg h1, if_pos h2]
          · refine Ev.step (f := fun k => arboristref01_Compare.l0 k a b ((i + 1 : Nat) : Int)) (fun k => ?_) ?_
            · simp only [arboristref01_Compare.j1]
              rw [if_pos trivial, if_pos (by omega), if_pos (by omega), if_pos (by omega), if_neg h1, if_neg (by omega), wrap_nat i (by omega)]
            · simp only [cmpL, if_neg h1, if_neg h2]
              refine ih (i + 1) (by omega) (by omega) ?_
              have e1 := rd_nat a i _ (List.getElem?_eq_getElem hi)
              have e2 := rd_nat b i _ (List.getElem?_eq_getElem hlt)
              rw [List.take_succ_eq_append_getElem hi, List.take_succ_eq_append_getElem hlt, he]
              have : a[i] = b[i] := by omega
              rw [this]
    · refine Ev.step (f := fun k => arboristref01_Compare.j1 k a b (i : Int) false) (fun k => ?_) ?_
      · simp only [arboristref01_Compare.l0]; rw [if_pos (by omega), show decide ((i : Int) < (b.length : Int)) = false from decide_eq_false (by omega)]
      · refine Ev.step (f := fun _ => some (cmpL (a.drop i) (b.drop i))) (fun k => ?_) (Ev.now _)
        simp only [arboristref01_Compare.j1]
        rw [if_neg (by simp), if_neg (by omega), if_pos (by omega), drop_at a i hi, show b.drop i = [] from List.drop_eq_nil_of_le (by omega)]
        rfl
theorem Compare_ev (a b : List Int) (ha : a.length ≤ 9223372036854775807) (hb : b.length ≤ 9223372036854775807) : Ev (fun k => arboristref01_Compare.f k a b) (cmpL a b) := by
  have := Compare_loop a b ha hb a.length 0 (by omega) (by omega) rfl
  simpa [arboristref01_Compare.f] using this
theorem cmpL_self : ∀ a : List Int, cmpL a a = 0
  | [] => rfl
  | a :: l => by simp [cmpL, cmpL_self l]
end Go.Proofs.YtopjffgmpphdbaaDoor.Pr
set_option linter.unusedVariables false
set_option linter.unusedSimpArgs false
namespace Go.Proofs.YtopjffgmpphdbaaDoor.Pr
open Go.RowKit Go.Proofs.YtopjffgmpphdbaaDoorW.PrintWords Go.Proofs.YtopjffgmpphdbaaDoorW.PrintLast Go.Proofs.YtopjffgmpphdbaaDoorW.PrintMore
def wd : Nat → (Nat → Bool) → Nat
  | 0, _ => 0
  | n + 1, f => 2 ^ n * (if f n = true then 1 else 0) + wd n f
theorem wd_lt : ∀ (n : Nat) (f : Nat → Bool), wd n f < 2 ^ n
  | 0, _ => by simp [wd]
  | n + 1, f => by
    have := wd_lt n f
    rw [wd, Nat.pow_succ]
    split <;> omega
theorem one_bit (j : Nat) : (1 : Nat).testBit (j + 1) = false := by rw [Nat.testBit_succ]; simp
theorem wd_bit : ∀ (n : Nat) (f : Nat → Bool) (i : Nat), (wd n f).testBit i = (decide (i < n) && f i)
  | 0, f, i => by simp [wd]
  | n + 1, f, i => by
    rw [wd, Nat.testBit_two_pow_mul_add _ (wd_lt n f), wd_bit n f i]
    by_cases h : i < n
    · rw [if_pos h, decide_eq_true h, decide_eq_true (show i < n + 1 by omega)]
    · rw [if_neg h]
      by_cases e : i = n
      · subst e
        rw [Nat.sub_self, decide_eq_true (show i < i + 1 by omega), Bool.true_and]
        by_cases hf : f i = true
        · rw [if_pos hf, hf]; decide
        · rw [if_neg hf, Bool.not_eq_true _ |>.mp hf]; decide
      · obtain ⟨j, rfl⟩ : ∃ j, i = n + (j + 1) := ⟨i - n - 1, by omega⟩
        rw [decide_eq_false (show ¬ n + (j + 1) < n + 1 by omega), Bool.false_and, show n + (j + 1) - n = j + 1 by omega]
        split
        · exact one_bit j
        · simp
theorem bits_ge {x n : Nat} (h : x < 2 ^ n) {i : Nat} (hi : n ≤ i) : x.testBit i = false := Nat.testBit_lt_two_pow (Nat.lt_of_lt_of_le h (Nat.pow_le_pow_right (by omega) hi))
theorem pow_64 : (2 : Nat) ^ 64 = 18446744073709551616 := by decide
theorem wd_64 {n : Nat} (h : n ≤ 64) (f : Nat → Bool) : wd n f < 18446744073709551616 := by
  rw [← pow_64]
  exact Nat.lt_of_lt_of_le (wd_lt n f) (Nat.pow_le_pow_right (by omega) h)
theorem shr_nat (x y : Nat) (hx : x < 18446744073709551616) : shr .u64 (x : Int) (y : Int) = ((x / 2 ^ y : Nat) : Int) := by
  unfold shr
  have hb : IntKind.bits .u64 = 64 := rfl
  rw [Int.toNat_natCast, hb]
  by_cases h : y ≤ 64
  · rw [Nat.min_eq_left h]
    push_cast
    rfl
  · rw [Nat.min_eq_right (by omega)]
    have e : x / 2 ^ y = 0 := Nat.div_eq_of_lt (Nat.lt_of_lt_of_le hx (by rw [← pow_64]; exact Nat.pow_le_pow_right (by omega) (by omega)))
    rw [e]
    omega
theorem shr_zero (x n : Nat) (hx : x < 18446744073709551616) : (shr .u64 (x : Int) (n : Int) = 0) ↔ x < 2 ^ n := by
  rw [shr_nat x n hx]
  have hp : 0 < 2 ^ n := Nat.two_pow_pos n
  constructor
  · intro h
    have h0 : x / 2 ^ n = 0 := by omega
    exact (Nat.div_eq_zero_iff_lt hp).1 h0
  · intro h
    rw [Nat.div_eq_of_lt h]; rfl
theorem and_one (x y : Nat) (hx : x < 18446744073709551616) : Go.bits .and .u64 (shr .u64 (x : Int) (y : Int)) 1 = if x.testBit y = true then 1 else 0 := by
  have h1 : x / 2 ^ y < 18446744073709551616 := Nat.lt_of_le_of_lt (Nat.div_le_self _ _) hx
  rw [shr_nat x y hx, show (1 : Int) = ((1 : Nat) : Int) from rfl, u64_and_nat _ _ h1 (by decide), Nat.and_one_is_mod, Nat.testBit_eq_decide_div_mod_eq]
  by_cases c : x / 2 ^ y % 2 = 1
  · rw [c]; simp
  · rw [show x / 2 ^ y % 2 = 0 by omega]; simp
theorem shl_one (b : Nat) (h : b < 64) : shl .u64 1 (b : Int) = ((2 ^ b : Nat) : Int) := by
  unfold shl
  have hb : IntKind.bits .u64 = 64 := rfl
  have hp : 2 ^ b < 18446744073709551616 := by rw [← pow_64]; exact Nat.pow_lt_pow_right (by omega) h
  rw [Int.toNat_natCast, hb, Nat.min_eq_left (by omega), IntKind.wrap_u64, Int.one_mul]
  have e : ((2 : Int) ^ b) = ((2 ^ b : Nat) : Int) := by push_cast; rfl
  rw [e]
  obtain ⟨p, hp1⟩ : ∃ p : Nat, p = 2 ^ b := ⟨_, rfl⟩
  rw [← hp1] at hp ⊢
  omega
theorem pow_bit (b i : Nat) : (2 ^ b).testBit i = decide (b = i) := Nat.testBit_two_pow
theorem or_u64 (a b : Nat) (ha : a < 18446744073709551616) (hb : b < 18446744073709551616) : a ||| b < 18446744073709551616 ∧ Go.bits .or .u64 (a : Int) (b : Int) = ((a ||| b : Nat) : Int) := by
  refine ⟨?_, u64_or_nat a b ha hb⟩
  rw [← pow_64] at ha hb ⊢
  exact Nat.or_lt_two_pow ha hb
theorem pow_lt_64 (b : Nat) (h : b < 64) : 2 ^ b < 18446744073709551616 := by rw [← pow_64]; exact Nat.pow_lt_pow_right (by omega) h
theorem mem_listW (x : Nat) (v : Int) : v ∈ listN x ↔ ∃ i : Nat, i < 64 ∧ x.testBit i = true ∧ v = (i : Int) := by
  unfold listN
  simp only [List.mem_map, List.mem_filter, List.mem_range]
  constructor
  · rintro ⟨i, ⟨h1, h2⟩, rfl⟩
    exact ⟨i, h1, h2, rfl⟩
  · rintro ⟨i, h1, h2, rfl⟩
    exact ⟨i, ⟨h1, h2⟩, rfl⟩
def ofT (n : Nat) (f : Nat → Bool) : List Int := ((List.range n).filter f).map fun (i : Nat) => (i : Int)
theorem filter_range (f : Nat → Bool) (n : Nat) : ∀ d, (List.range (n + d)).filter (fun i => decide (i < n) && f i) = (List.range n).filter f
  | 0 => List.filter_congr (fun i hi => by rw [decide_eq_true (show i < n by have := List.mem_range.1 hi; omega), Bool.true_and])
  | d + 1 => by
    rw [show n + (d + 1) = (n + d) + 1 by omega, List.range_succ, List.filter_append, filter_range f n d, List.filter_cons_of_neg (by rw [decide_eq_false (by omega)]; simp), List.filter_nil, List.append_nil]
theorem listN_wd {n : Nat} (h : n ≤ 64) (f : Nat → Bool) : listN (wd n f) = ofT n f := by
  unfold listN ofT
  congr 1
  obtain ⟨d, hd⟩ : ∃ d, 64 = n + d := ⟨64 - n, by omega⟩
  rw [hd, ← filter_range f n d]
  exact List.filter_congr (fun i _ => wd_bit n f i)
theorem list_f (x : Nat) (h : x < 18446744073709551616) : graph_list.f (x : Int) = some (listN x) := by
  unfold graph_list.f
  rw [if_pos ⟨by omega, by omega⟩, Int.toNat_natCast]
def gI (ws : List Nat) : List Int := ws.map fun (x : Nat) => (x : Int)
def wAt (ws : List Nat) (i : Nat) : Nat := ws.getD i 0
def Wok (ws : List Nat) : Prop := ∀ x ∈ ws, x < 18446744073709551616
theorem gI_len (ws : List Nat) : (gI ws).length = ws.length := by simp [gI]
theorem gI_rd (ws : List Nat) (i : Nat) : rd (gI ws) (i : Int) = ((wAt ws i : Nat) : Int) := by
  unfold rd gI wAt
  rw [Int.toNat_natCast, List.getD_eq_getElem?_getD, List.getD_eq_getElem?_getD, List.getElem?_map]
  cases ws[i]? <;> rfl
theorem wAt_get (ws : List Nat) (i : Nat) (h : i < ws.length) : wAt ws i = ws[i] := by
  unfold wAt
  rw [List.getD_eq_getElem?_getD, List.getElem?_eq_getElem h]
  rfl
theorem wAt_lt {ws : List Nat} (h : Wok ws) (i : Nat) : wAt ws i < 18446744073709551616 := by
  by_cases c : i < ws.length
  · rw [wAt_get ws i c]; exact h _ (List.getElem_mem c)
  · unfold wAt
    rw [List.getD_eq_getElem?_getD, List.getElem?_eq_none (by omega)]
    decide
theorem gI_ext {a b : List Nat} (hl : a.length = b.length) (h : ∀ i, i < a.length → wAt a i = wAt b i) : a = b := List.ext_getElem hl (fun i h1 h2 => by
  have := h i h1
  rwa [wAt_get a i h1, wAt_get b i h2] at this)
def isP (n : Nat) (a : Int) : Bool := decide (0 ≤ a ∧ a < (n : Int))
theorem is_f (ws : List Nat) (a : Int) : graph_is.f (gI ws) a = some (isP ws.length a) := by
  unfold graph_is.f isP
  rw [gI_len]
  by_cases h : a ≥ 0
  · rw [if_pos h]
    congr 1
    simp [h]
  · rw [if_neg h, decide_eq_false (by omega)]
def nbL (ws : List Nat) (a : Int) : List Int := if isP ws.length a = true then listN (wAt ws a.toNat) else []
theorem neighbors_f (ws : List Nat) (hw : Wok ws) (a : Int) : graph_Neighbors.f (gI ws) a = some (nbL ws a) := by
  unfold graph_Neighbors.f nbL
  rw [is_f, Option.bind_some]
  by_cases ha : isP ws.length a = true
  · have h1 := of_decide_eq_true ha
    obtain ⟨i, rfl⟩ := Int.eq_ofNat_of_zero_le h1.1
    rw [if_pos ha, if_pos (by omega), if_pos (by rw [gI_len]; omega), gI_rd, list_f _ (wAt_lt hw i), Option.bind_some, if_pos ha, Int.toNat_natCast]
  · rw [if_neg ha, if_neg ha]
def joinW (ws : List Nat) (a b : Int) : List Nat := if isP ws.length a = true ∧ isP ws.length b = true ∧ a ≠ b then
  (ws.set a.toNat (wAt ws a.toNat ||| 2 ^ b.toNat)).set b.toNat (wAt (ws.set a.toNat (wAt ws a.toNat ||| 2 ^ b.toNat)) b.toNat ||| 2 ^ a.toNat) else ws
theorem wok_set {ws : List Nat} (hw : Wok ws) (i v : Nat) (hv : v < 18446744073709551616) : Wok (ws.set i v) := fun x hx => by
  rcases List.mem_or_eq_of_mem_set hx with h | h
  · exact hw x h
  · rw [h]; exact hv
theorem gI_set (ws : List Nat) (i v : Nat) : (gI ws).set i (v : Int) = gI (ws.set i v) := by unfold gI; rw [List.map_set]
theorem or_pow {x b : Nat} (hx : x < 18446744073709551616) (hb : b < 64) : x ||| 2 ^ b < 18446744073709551616 ∧ Go.bits .or .u64 (x : Int) (shl .u64 1 (b : Int)) = ((x ||| 2 ^ b : Nat) : Int) := by
  rw [shl_one b hb]
  exact or_u64 x (2 ^ b) hx (pow_lt_64 b hb)
theorem join_f (ws : List Nat) (hw : Wok ws) (hn : ws.length ≤ 64) (a b : Int) : graph_Join.f (gI ws) a b = some (gI (joinW ws a b)) ∧ Wok (joinW ws a b) := by
  unfold graph_Join.f joinW
  have hc : slices_Clone_uint64_uint64.f (gI ws) = some (gI ws) := by unfold slices_Clone_uint64_uint64.f; rw [if_pos (by rw [gI_len]; omega)]
  rw [hc, Option.bind_some, is_f, Option.bind_some, is_f]
  by_cases ha : isP ws.length a = true
  · by_cases hb : isP ws.length b = true
    · by_cases e : a = b
      · rw [if_pos ha, Option.bind_some, if_pos hb, if_pos e, if_neg (by simp [e])]
        exact ⟨rfl, hw⟩
      · have h1 := of_decide_eq_true ha
        have h2 := of_decide_eq_true hb
        obtain ⟨i, rfl⟩ := Int.eq_ofNat_of_zero_le h1.1
        obtain ⟨k, rfl⟩ := Int.eq_ofNat_of_zero_le h2.1
        obtain ⟨o1, o2⟩ := or_pow (wAt_lt hw i) (show k < 64 by omega)
        have hw2 := wok_set hw i _ o1
        obtain ⟨o3, o4⟩ := or_pow (wAt_lt hw2 k) (show i < 64 by omega)
        rw [if_pos ha, Option.bind_some, if_pos hb, if_neg e, if_pos (by omega), if_pos (by rw [gI_len]; omega), if_pos (by omega), if_pos ⟨ha, hb, e⟩]
        simp only [Option.bind_some, Int.toNat_natCast]
        rw [if_pos (by rw [gI_len]; omega), gI_rd, o2, gI_set, gI_rd, o4, gI_set]
        exact ⟨rfl, wok_set hw2 k _ o3⟩
    · rw [if_pos ha, Option.bind_some, if_neg hb, if_neg (by simp [hb])]
      exact ⟨rfl, hw⟩
  · rw [if_neg ha, if_neg (by simp [ha])]
    exact ⟨rfl, hw⟩
theorem joinW_len (ws : List Nat) (a b : Int) : (joinW ws a b).length = ws.length := by
  unfold joinW
  split <;> simp
theorem wAt_set (ws : List Nat) (i v k : Nat) (h : i < ws.length) : wAt (ws.set i v) k = if k = i then v else wAt ws k := by
  unfold wAt
  rw [List.getD_eq_getElem?_getD, List.getD_eq_getElem?_getD, List.getElem?_set]
  by_cases e : i = k
  · rw [if_pos e, if_pos h, if_pos e.symm]; rfl
  · rw [if_neg e, if_neg (fun h => e h.symm)]
theorem join_bit (ws : List Nat) (a b : Int) (i k : Nat) : (wAt (joinW ws a b) i).testBit k = ((wAt ws i).testBit k || (isP ws.length a && isP ws.length b && decide (a ≠ b) && (decide ((i : Int) = a ∧ (k : Int) = b) || decide ((i : Int) = b ∧ (k : Int) = a)))) := by
  unfold joinW
  by_cases c : isP ws.length a = true ∧ isP ws.length b = true ∧ a ≠ b
  · rw [if_pos c]
    obtain ⟨ha, hb, e⟩ := c
    have h1 := of_decide_eq_true ha
    have h2 := of_decide_eq_true hb
    obtain ⟨p, rfl⟩ := Int.eq_ofNat_of_zero_le h1.1
    obtain ⟨q, rfl⟩ := Int.eq_ofNat_of_zero_le h2.1
    have e2 : p ≠ q := fun h => e (by rw [h])
    rw [ha, hb, Bool.and_self, Bool.true_and, decide_eq_true e, Bool.true_and]
    simp only [Int.toNat_natCast]
    rw [wAt_set _ q _ i (by rw [List.length_set]; omega), wAt_set ws p _ q (by omega), wAt_set ws p _ i (by omega), if_neg (show ¬ q = p from fun h => e2 h.symm)]
    by_cases c1 : i = q
    · subst c1
      rw [if_pos rfl, Nat.testBit_or, pow_bit]
      have : ¬ i = p := fun h => e2 h.symm
      congr 1
      rw [Bool.eq_iff_iff, Bool.or_eq_true, decide_eq_true_iff, decide_eq_true_iff, decide_eq_true_iff]
      exact ⟨fun h => .inr ⟨rfl, by omega⟩, fun h => by rcases h with ⟨h1, h2⟩ | ⟨h1, h2⟩ <;> omega⟩
    · rw [if_neg c1]
      by_cases c2 : i = p
      · subst c2
        rw [if_pos rfl, Nat.testBit_or, pow_bit]
        congr 1
        rw [Bool.eq_iff_iff, Bool.or_eq_true, decide_eq_true_iff, decide_eq_true_iff, decide_eq_true_iff]
        exact ⟨fun h => .inl ⟨rfl, by omega⟩, fun h => by rcases h with ⟨h1, h2⟩ | ⟨h1, h2⟩ <;> omega⟩
      · rw [if_neg c2]
        have : (decide ((i : Int) = (p : Int) ∧ (k : Int) = (q : Int)) || decide ((i : Int) = (q : Int) ∧ (k : Int) = (p : Int))) = false := by
          rw [decide_eq_false (by omega), decide_eq_false (by omega)]; rfl
        rw [this, Bool.or_false]
  · rw [if_neg c]
    have : (isP ws.length a && isP ws.length b && decide (a ≠ b) && (decide ((i : Int) = a ∧ (k : Int) = b) || decide ((i : Int) = b ∧ (k : Int) = a))) = false := by
      rw [Bool.eq_false_iff]
      intro h
      simp only [Bool.and_eq_true, decide_eq_true_eq] at h
      exact c ⟨h.1.1.1, h.1.1.2, h.1.2⟩
    rw [this, Bool.or_false]
def rowR (ws : List Nat) (i : Nat) : Bool := decide (wAt ws i < 2 ^ ws.length) && (listN (wAt ws i)).all fun k => !(k == (i : Int)) && (wAt ws k.toNat).testBit i
def rightB (ws : List Nat) : Bool := decide (ws.length ≤ 40) && (List.range ws.length).all (rowR ws)
theorem rdn (l : List Int) (j : Nat) (h : j < l.length) : rd l (j : Int) = l[j] := rd_nat l j _ (List.getElem?_eq_getElem h)
theorem right_l1 (ws : List Nat) (hw : Wok ws) (hn : ws.length ≤ 40) (i : Nat) (hi : i < ws.length) (l : List Int) (hl : ∀ x ∈ l, 0 ≤ x ∧ x < (ws.length : Int)) (hll : l.length ≤ 64) (R : Bool)
    (H : Ev (fun k => graph_Right.l0 k (gI ws) (ws.length : Int) ((i + 1 : Nat) : Int) (gI ws)) R) : ∀ (d j : Nat), j + d = l.length →
    Ev (fun k => graph_Right.l1 k (i : Int) (gI ws) (ws.length : Int) (i : Int) l (l.length : Int) (j : Int) (gI ws)) (((l.drop j).all fun k => !(k == (i : Int)) && (wAt ws k.toNat).testBit i) && R)
  | 0, j, h => by
    rw [List.drop_eq_nil_of_le (by omega), List.all_nil, Bool.true_and]
    refine evs1 H (fun k e => ?_)
    rw [graph_Right.l1, if_neg (by omega), wrap_nat i (by omega)]
    exact e
  | d + 1, j, h => by
    have hj : j < l.length := by omega
    rw [List.drop_eq_getElem_cons hj, List.all_cons]
    obtain ⟨b1, b2⟩ := hl _ (List.getElem_mem hj)
    obtain ⟨x, hx⟩ : ∃ x, x = l[j] := ⟨_, rfl⟩
    rw [← hx] at b1 b2 ⊢
    have hr : rd l (j : Int) = x := by rw [hx]; exact rdn l j hj
    obtain ⟨m, rfl⟩ := Int.eq_ofNat_of_zero_le b1
    by_cases c : (m : Int) = (i : Int)
    · rw [show ((m : Int) == (i : Int)) = true by simpa using c]
      refine evs0 (fun k => ?_)
      rw [graph_Right.l1, if_pos (by omega), if_pos (by omega), if_pos (by omega), hr, if_pos c]
      simp
    · rw [show ((m : Int) == (i : Int)) = false from beq_false_of_ne c, Bool.not_false, Bool.true_and, Int.toNat_natCast]
      by_cases c2 : (wAt ws m).testBit i = true
      · rw [c2, Bool.true_and]
        refine evs1 (right_l1 ws hw hn i hi l hl hll R H d (j + 1) (by omega)) (fun k e => ?_)
        rw [graph_Right.l1, if_pos (by omega), if_pos (by omega), if_pos (by omega), hr, if_neg c, if_pos (by omega), if_pos (by rw [gI_len]; omega), if_pos (by omega), gI_rd, and_one _ _ (wAt_lt hw m), if_pos c2, if_neg (by decide), wrap_nat j (by omega)]
        exact e
      · rw [Bool.not_eq_true _ |>.mp c2, Bool.false_and, Bool.false_and]
        refine evs0 (fun k => ?_)
        rw [graph_Right.l1, if_pos (by omega), if_pos (by omega), if_pos (by omega), hr, if_neg c, if_pos (by omega), if_pos (by rw [gI_len]; omega), if_pos (by omega), gI_rd, and_one _ _ (wAt_lt hw m), if_neg c2, if_pos rfl]
theorem listN_in {x n : Nat} (h : x < 2 ^ n) (v : Int) (hv : v ∈ listN x) : 0 ≤ v ∧ v < (n : Int) := by
  obtain ⟨i, h1, h2, rfl⟩ := (mem_listW x v).1 hv
  refine ⟨by omega, ?_⟩
  by_cases c : i < n
  · omega
  · rw [bits_ge h (by omega)] at h2
    cases h2
theorem right_l0 (ws : List Nat) (hw : Wok ws) (hn : ws.length ≤ 40) : ∀ (d i : Nat), i + d = ws.length →
    Ev (fun k => graph_Right.l0 k (gI ws) (ws.length : Int) (i : Int) (gI ws)) ((List.range' i d).all (rowR ws))
  | 0, i, h => by
    refine evs0 (fun k => ?_)
    rw [graph_Right.l0, if_neg (by omega)]
    rfl
  | d + 1, i, h => by
    rw [List.range'_succ, List.all_cons]
    have hx := wAt_lt hw i
    by_cases c : wAt ws i < 2 ^ ws.length
    · have hr := right_l0 ws hw hn d (i + 1) (by omega)
      have h1 := right_l1 ws hw hn i (by omega) (listN (wAt ws i)) (listN_in c) (listN_len _) _ hr (listN (wAt ws i)).length 0 (by omega)
      rw [List.drop_zero] at h1
      refine evs1 h1 (fun k e => ?_)
      rw [graph_Right.l0, if_pos (by omega), if_pos (by omega), if_pos (by rw [gI_len]; omega), gI_rd, gI_len, if_pos ((shr_zero _ _ hx).2 c), list_f _ hx, Option.bind_some]
      unfold rowR
      rw [decide_eq_true c, Bool.true_and]
      exact e
    · refine evs0 (fun k => ?_)
      rw [graph_Right.l0, if_pos (by omega), if_pos (by omega), if_pos (by rw [gI_len]; omega), gI_rd, gI_len, if_neg (fun h => c ((shr_zero _ _ hx).1 h))]
      unfold rowR
      rw [decide_eq_false c, Bool.false_and, Bool.false_and]
theorem right_ev (ws : List Nat) (hw : Wok ws) : Ev (fun k => graph_Right.f k (gI ws)) (rightB ws) := by
  unfold rightB
  by_cases c : ws.length ≤ 40
  · rw [decide_eq_true c, Bool.true_and, List.range_eq_range']
    refine evu1 (right_l0 ws hw c ws.length 0 (by omega)) (fun k e => ?_)
    rw [graph_Right.f, gI_len, if_neg (by omega)]
    exact e
  · rw [decide_eq_false c, Bool.false_and]
    exact evu0 (fun k => by rw [graph_Right.f, gI_len, if_pos (by omega)])
theorem rightB_iff (ws : List Nat) : rightB ws = true ↔ ws.length ≤ 40 ∧ ∀ i, i < ws.length → wAt ws i < 2 ^ ws.length ∧ ∀ k, k < ws.length → (wAt ws i).testBit k = true → k ≠ i ∧ (wAt ws k).testBit i = true := by
  unfold rightB rowR
  simp only [Bool.and_eq_true, decide_eq_true_eq, List.all_eq_true, List.mem_range]
  constructor
  · rintro ⟨h1, h2⟩
    refine ⟨h1, fun i hi => ⟨(h2 i hi).1, fun k hk hb => ?_⟩⟩
    have := (h2 i hi).2 (k : Int) ((mem_listW _ _).2 ⟨k, by omega, hb, rfl⟩)
    simp only [Bool.not_eq_true', beq_eq_false_iff_ne, Int.toNat_natCast] at this
    exact ⟨fun e => this.1 (by rw [e]), this.2⟩
  · rintro ⟨h1, h2⟩
    refine ⟨h1, fun i hi => ⟨(h2 i hi).1, fun v hv => ?_⟩⟩
    obtain ⟨k, k1, k2, rfl⟩ := (mem_listW _ _).1 hv
    have hk := listN_in (h2 i hi).1 _ hv
    obtain ⟨g1, g2⟩ := (h2 i hi).2 k (by omega) k2
    simp only [Bool.not_eq_true', beq_eq_false_iff_ne, Int.toNat_natCast]
    exact ⟨fun e => g1 (by omega), g2⟩
def rowT (n : Nat) (f : Nat → Bool) : List Bool := (List.range n).map f
def mat (n : Nat) (f : Nat → Nat → Bool) : List (List Bool) := (List.range n).map fun i => rowT n (f i)
theorem rowT_len (n : Nat) (f : Nat → Bool) : (rowT n f).length = n := by simp [rowT]
theorem mat_len (n : Nat) (f : Nat → Nat → Bool) : (mat n f).length = n := by simp [mat]
theorem rowT_rd (n : Nat) (f : Nat → Bool) (k : Nat) (h : k < n) : rdOf false (rowT n f) (k : Int) = f k := by
  unfold rdOf rowT
  rw [Int.toNat_natCast, List.getD_eq_getElem?_getD, List.getElem?_map, List.getElem?_range h]
  rfl
theorem mat_rd (n : Nat) (f : Nat → Nat → Bool) (i : Nat) (h : i < n) : rd_L7 (mat n f) (i : Int) = rowT n (f i) := by
  unfold rd_L7 mat
  rw [Int.toNat_natCast, List.getD_eq_getElem?_getD, List.getElem?_map, List.getElem?_range h]
  rfl
theorem rowT_set (n : Nat) (f : Nat → Bool) (k : Nat) (b : Bool) : (rowT n f).set k b = rowT n fun j => if j = k then b else f j := by
  unfold rowT
  apply List.ext_getElem
  · simp
  · intro j h1 h2
    rw [List.getElem_set]
    simp only [List.getElem_map, List.getElem_range]
    by_cases e : k = j
    · rw [if_pos e, if_pos e.symm]
    · rw [if_neg e, if_neg (fun h => e h.symm)]
theorem mat_set (n : Nat) (f : Nat → Nat → Bool) (i : Nat) (g : Nat → Bool) : (mat n f).set i (rowT n g) = mat n fun j => if j = i then g else f j := by
  unfold mat
  apply List.ext_getElem
  · simp
  · intro j h1 h2
    rw [List.getElem_set]
    simp only [List.getElem_map, List.getElem_range]
    by_cases e : i = j
    · rw [if_pos e, if_pos e.symm]
    · rw [if_neg e, if_neg (fun h => e h.symm)]
theorem rowT_congr {n : Nat} {f g : Nat → Bool} (h : ∀ k, k < n → f k = g k) : rowT n f = rowT n g := List.map_congr_left (fun k hk => h k (List.mem_range.1 hk))
theorem mat_congr {n : Nat} {f g : Nat → Nat → Bool} (h : ∀ i k, i < n → k < n → f i k = g i k) : mat n f = mat n g := List.map_congr_left (fun i hi => rowT_congr (fun k hk => h i k (List.mem_range.1 hi) hk))
theorem rep_row (n : Nat) : List.replicate n false = rowT n fun _ => false := by
  unfold rowT
  apply List.ext_getElem
  · simp
  · intro j h1 h2; simp
def gW (n : Nat) (f : Nat → Nat → Bool) : List Nat := (List.range n).map fun i => wd n (f i)
theorem gW_len (n : Nat) (f : Nat → Nat → Bool) : (gW n f).length = n := by simp [gW]
theorem gW_at (n : Nat) (f : Nat → Nat → Bool) (i : Nat) (h : i < n) : wAt (gW n f) i = wd n (f i) := by
  unfold wAt gW
  rw [List.getD_eq_getElem?_getD, List.getElem?_map, List.getElem?_range h]
  rfl
theorem gW_ok {n : Nat} (h : n ≤ 64) (f : Nat → Nat → Bool) : Wok (gW n f) := fun x hx => by
  obtain ⟨i, _, rfl⟩ := List.mem_map.1 hx
  exact wd_64 h _
theorem gW_bit (n : Nat) (f : Nat → Nat → Bool) (i k : Nat) : (wAt (gW n f) i).testBit k = (decide (i < n) && (decide (k < n) && f i k)) := by
  by_cases h : i < n
  · rw [gW_at n f i h, wd_bit, decide_eq_true h, Bool.true_and]
  · rw [decide_eq_false h, Bool.false_and]
    unfold wAt
    rw [List.getD_eq_getElem?_getD, List.getElem?_eq_none (by rw [gW_len]; omega)]
    simp
theorem gW_congr {n : Nat} {f g : Nat → Nat → Bool} (h : ∀ i k, i < n → k < n → f i k = g i k) : gW n f = gW n g := gI_ext (by rw [gW_len, gW_len]) (fun i hi => Nat.eq_of_testBit_eq (fun k => by
  rw [gW_len] at hi
  rw [gW_bit, gW_bit, decide_eq_true hi]
  simp only [Bool.true_and]
  by_cases c : k < n
  · rw [h i k hi c]
  · rw [decide_eq_false c]; rfl))
theorem gW_right (n : Nat) (hn : n ≤ 40) (f : Nat → Nat → Bool) (h : ∀ i k, i < n → k < n → f i k = true → k ≠ i ∧ f k i = true) : rightB (gW n f) = true := by
  rw [rightB_iff, gW_len]
  refine ⟨hn, fun i hi => ⟨by rw [gW_at n f i hi]; exact wd_lt _ _, fun k hk hb => ?_⟩⟩
  rw [gW_bit, decide_eq_true hi, decide_eq_true hk] at hb
  obtain ⟨h1, h2⟩ := h i k hi hk (by simpa using hb)
  refine ⟨h1, ?_⟩
  rw [gW_bit, decide_eq_true hi, decide_eq_true hk, h2]
  rfl
theorem graph_l1 (n : Nat) (hn : n ≤ 64) (f : Nat → Nat → Bool) (i : Nat) (hi : i < n) (o : List Int) (ho : o.length < 17592186044416) (R : List Int) (H : Ev (fun k => arboristref08_Graph.l0 k (mat n f) ((i + 1 : Nat) : Int) (o ++ [((wd n (f i) : Nat) : Int)])) R) :
    ∀ (d j : Nat), j + d = n → Ev (fun k => arboristref08_Graph.l1 k (mat n f) (i : Int) ((wd j (f i) : Nat) : Int) (j : Int) o) R
  | 0, j, h => by
    obtain rfl : j = n := by omega
    refine evs1 H (fun k e => ?_)
    rw [arboristref08_Graph.l1, mat_len, if_neg (by omega), if_pos ho, wrap_nat i (by omega)]
    exact e
  | d + 1, j, h => by
    refine evs1 (graph_l1 n hn f i hi o ho R H d (j + 1) (by omega)) (fun k e => ?_)
    have hw : IntKind.u64.wrap (j : Int) = (j : Int) := by rw [IntKind.wrap_u64]; omega
    rw [arboristref08_Graph.l1, mat_len, if_pos (by omega), if_pos (by omega), if_pos (by omega), if_pos (by omega), mat_rd n f i hi, rowT_len, if_pos (by omega), rowT_rd n (f i) j (by omega), hw, wrap_nat j (by omega)]
    rw [wd] at e
    by_cases c : f i j = true
    · rw [if_pos c] at e ⊢
      have h1 := wd_lt j (f i)
      have h2 := pow_lt_64 j (by omega)
      have h3 : IntKind.u64.wrap (((wd j (f i) : Nat) : Int) + ((2 ^ j : Nat) : Int)) = ((2 ^ j * 1 + wd j (f i) : Nat) : Int) := by
        have h4 : 2 ^ j * 1 + wd j (f i) < 18446744073709551616 := by
          have := wd_64 (show j + 1 ≤ 64 by omega) (f i)
          rw [wd, if_pos c] at this
          exact this
        obtain ⟨p, hp⟩ : ∃ p : Nat, p = 2 ^ j := ⟨_, rfl⟩
        rw [← hp] at h4 ⊢
        rw [IntKind.wrap_u64]
        omega
      rw [if_pos (by omega), shl_one j (by omega), h3]
      exact e
    · rw [if_neg c] at e ⊢
      rw [Nat.mul_zero, Nat.zero_add] at e
      exact e
theorem graph_l0 (n : Nat) (hn : n ≤ 64) (f : Nat → Nat → Bool) : ∀ (d i : Nat), i + d = n → Ev (fun k => arboristref08_Graph.l0 k (mat n f) (i : Int) (gI ((List.range i).map fun j => wd n (f j)))) (gI (gW n f))
  | 0, i, h => by
    obtain rfl : i = n := by omega
    exact evs0 (fun k => by rw [arboristref08_Graph.l0, mat_len, if_neg (by omega)]; rfl)
  | d + 1, i, h => by
    have hr := graph_l0 n hn f d (i + 1) (by omega)
    rw [List.range_succ, List.map_append] at hr
    have e0 : gI ((List.range i).map (fun j => wd n (f j)) ++ [i].map (fun j => wd n (f j))) = gI ((List.range i).map fun j => wd n (f j)) ++ [((wd n (f i) : Nat) : Int)] := by simp [gI]
    rw [e0] at hr
    have hl : (gI ((List.range i).map fun j => wd n (f j))).length < 17592186044416 := by rw [gI_len]; simp; omega
    refine evs1 (graph_l1 n hn f i (by omega) _ hl _ hr n 0 (by omega)) (fun k e => ?_)
    rw [arboristref08_Graph.l0, mat_len, if_pos (by omega)]
    exact e
theorem graph_ev (n : Nat) (hn : n ≤ 64) (f : Nat → Nat → Bool) : Ev (fun k => arboristref08_Graph.f k (mat n f)) (gI (gW n f)) := graph_l0 n hn f n 0 (by omega)
theorem empty_l0 (n : Nat) (hn : n ≤ 1000) : ∀ (d i : Nat), i + d = n → Ev (fun k => arboristref08_Empty.l0 k (n : Int) (List.replicate i (rowT n fun _ => false)) (i : Int)) (mat n fun _ _ => false)
  | 0, i, h => by
    obtain rfl : i = n := by omega
    refine evs0 (fun k => ?_)
    rw [arboristref08_Empty.l0, if_neg (by omega)]
    congr 1
    unfold mat
    apply List.ext_getElem
    · simp
    · intro j h1 h2; simp
  | d + 1, i, h => by
    have hr := empty_l0 n hn d (i + 1) (by omega)
    rw [List.replicate_succ'] at hr
    refine evs1 hr (fun k e => ?_)
    rw [arboristref08_Empty.l0, if_pos (by omega), if_pos (by omega), if_pos (by omega), if_pos (by simp; omega), Int.toNat_natCast, rep_row, wrap_nat i (by omega)]
    exact e
theorem empty_ev (n : Nat) (hn : n ≤ 1000) : Ev (fun k => arboristref08_Empty.f k (n : Int)) (mat n fun _ _ => false) := empty_l0 n hn n 0 (by omega)
theorem ofT_from (n : Nat) (f : Nat → Bool) (j : Nat) (h : j < n) : ((List.range' j (n - j)).filter f) = if f j = true then j :: (List.range' (j + 1) (n - (j + 1))).filter f else (List.range' (j + 1) (n - (j + 1))).filter f := by
  rw [show n - j = (n - (j + 1)) + 1 by omega, List.range'_succ, List.filter_cons]
theorem evp {ρ : Type} {F g : Nat → Option ρ} {r : ρ} (h : Ev g r) (H : ∀ k, g k = some r → F (k + 1) = some r) : Ev F r := evs1 h H
theorem neigh_l0 (n : Nat) (hn : n ≤ 1000) (f : Nat → Nat → Bool) (a : Nat) (ha : a < n) : ∀ (d j : Nat) (o : List Int), j + d = n → o.length ≤ j → Ev (fun k => arboristref08_Neighbors.l0 k (mat n f) (a : Int) o (j : Int)) (o ++ ((List.range' j (n - j)).filter (f a)).map fun (i : Nat) => (i : Int))
  | 0, j, o, h, ho => by
    rw [show n - j = 0 by omega]
    refine evs1 (evs0 (F := fun k => arboristref08_Neighbors.j1 k (mat n f) (a : Int) o (j : Int) false) (r := o ++ ((List.range' j 0).filter (f a)).map fun (i : Nat) => (i : Int)) (fun k => ?_)) (fun k e => ?_)
    · rw [arboristref08_Neighbors.j1, if_neg (by decide)]; simp
    · rw [arboristref08_Neighbors.l0, mat_len, if_neg (by omega)]; exact e
  | d + 1, j, o, h, ho => by
    rw [ofT_from n (f a) j (by omega)]
    by_cases c : f a j = true
    · rw [if_pos c]
      have hr := neigh_l0 n hn f a ha d (j + 1) (o ++ [(j : Int)]) (by omega) (by simp; omega)
      rw [List.append_assoc] at hr
      refine evp (g := fun k => arboristref08_Neighbors.j1 k (mat n f) (a : Int) o (j : Int) true) (evp hr (fun k e => ?_)) (fun k e => ?_)
      · rw [arboristref08_Neighbors.j1, if_pos rfl, if_pos (by omega), mat_len, if_pos (by omega), if_pos (by omega), mat_rd n f a ha, rowT_len, if_pos (by omega), rowT_rd n (f a) j (by omega), if_pos c, if_pos (by omega), wrap_nat j (by omega)]
        exact e
      · rw [arboristref08_Neighbors.l0, mat_len, if_pos (by omega), if_pos (by omega), decide_eq_true (by omega)]; exact e
    · rw [if_neg c]
      have hr := neigh_l0 n hn f a ha d (j + 1) o (by omega) (by omega)
      refine evp (g := fun k => arboristref08_Neighbors.j1 k (mat n f) (a : Int) o (j : Int) true) (evp hr (fun k e => ?_)) (fun k e => ?_)
      · rw [arboristref08_Neighbors.j1, if_pos rfl, if_pos (by omega), mat_len, if_pos (by omega), if_pos (by omega), mat_rd n f a ha, rowT_len, if_pos (by omega), rowT_rd n (f a) j (by omega), if_neg c, wrap_nat j (by omega)]
        exact e
      · rw [arboristref08_Neighbors.l0, mat_len, if_pos (by omega), if_pos (by omega), decide_eq_true (by omega)]; exact e
theorem neigh_ev (n : Nat) (hn : n ≤ 1000) (f : Nat → Nat → Bool) (a : Int) : Ev (fun k => arboristref08_Neighbors.f k (mat n f) a) (if isP n a = true then ofT n (f a.toNat) else []) := by
  by_cases c : isP n a = true
  · have h := of_decide_eq_true c
    obtain ⟨i, rfl⟩ := Int.eq_ofNat_of_zero_le h.1
    have hr := neigh_l0 n hn f i (by omega) n 0 [] (by omega) (by simp)
    rw [if_pos c]
    rw [List.nil_append, Nat.sub_zero, ← List.range_eq_range'] at hr
    exact hr
  · rw [if_neg c]
    have h : ¬ (0 ≤ a ∧ a < (n : Int)) := of_decide_eq_false (Bool.not_eq_true _ |>.mp c)
    have hj : Ev (fun k => arboristref08_Neighbors.j1 k (mat n f) a [] 0 false) [] := evs0 (fun k => by rw [arboristref08_Neighbors.j1, if_neg (by decide)])
    refine evs1 hj (fun k e => ?_)
    rw [arboristref08_Neighbors.f, arboristref08_Neighbors.l0, mat_len]
    by_cases c1 : (0 : Int) < (n : Int)
    · rw [if_pos c1]
      by_cases c2 : a ≥ 0
      · rw [if_pos c2, decide_eq_false (by omega)]; exact e
      · rw [if_neg c2]; exact e
    · rw [if_neg c1]; exact e
theorem mn_cut {α : Type} (l : List α) (n : Nat) : 0 ≤ mn (l.length : Int) n ∧ mn (l.length : Int) n ≤ l.length ∧ l.take (mn (l.length : Int) n).toNat = l.take n := by
  unfold mn
  split
  · refine ⟨by omega, by omega, by simp⟩
  · refine ⟨by omega, by omega, ?_⟩
    rw [List.take_of_length_le (by omega), List.take_of_length_le (by omega)]
section
variable (ws : List Nat)
end
theorem low16 (x : Int) : 0 ≤ Go.bits .and .i64 x 65535 ∧ Go.bits .and .i64 x 65535 ≤ 65535 := by
  have h2 : (BitVec.ofInt 64 (65535 : Int)).toNat = 65535 := by decide
  have h3 : (BitVec.ofInt 64 x &&& BitVec.ofInt 64 (65535 : Int)).toNat ≤ 65535 := by
    rw [BitVec.toNat_and, h2]; exact Nat.and_le_right
  have e : Go.bits .and .i64 x 65535 = IntKind.i64.wrap ((BitVec.ofInt 64 x &&& BitVec.ofInt 64 (65535 : Int)).toNat : Int) := rfl
  rw [e, IntKind.wrap_i64]
  omega
theorem kT_in {n : Nat} (h : 0 < n) (x : Int) : ∃ k : Nat, k < n ∧ Int.tmod (Go.bits .and .i64 x 65535) (n : Int) = (k : Int) := by
  obtain ⟨h1, h2⟩ := low16 x
  have a := Int.tmod_nonneg (n : Int) h1
  have b := Int.tmod_lt_of_pos (Go.bits .and .i64 x 65535) (show (0 : Int) < (n : Int) by omega)
  exact ⟨(Int.tmod (Go.bits .and .i64 x 65535) (n : Int)).toNat, by omega, by omega⟩
def Sy (n : Nat) (f : Nat → Nat → Bool) : Prop := (∀ i k, f i k = f k i) ∧ (∀ i, f i i = false) ∧ ∀ i k, f i k = true → i < n ∧ k < n
def addE (f : Nat → Nat → Bool) (a b : Nat) : Nat → Nat → Bool := fun i k => f i k || (decide (i = a ∧ k = b) || decide (i = b ∧ k = a))
theorem Sy.no (n : Nat) : Sy n fun _ _ => false := ⟨fun _ _ => rfl, fun _ => rfl, fun _ _ h => by cases h⟩
theorem Sy.add {n : Nat} {f : Nat → Nat → Bool} (h : Sy n f) {a b : Nat} (ha : a < n) (hb : b < n) (e : a ≠ b) : Sy n (addE f a b) := by
  obtain ⟨h1, h2, h3⟩ := h
  refine ⟨fun i k => ?_, fun i => ?_, fun i k => ?_⟩
  · unfold addE
    rw [h1 i k]
    congr 1
    rw [Bool.eq_iff_iff]
    simp only [Bool.or_eq_true, decide_eq_true_eq]
    omega
  · unfold addE
    rw [h2 i, decide_eq_false (by omega), decide_eq_false (by omega)]
    rfl
  · unfold addE
    rw [Bool.or_eq_true, Bool.or_eq_true, decide_eq_true_iff, decide_eq_true_iff]
    rintro (h | h | h)
    · exact h3 i k h
    · omega
    · omega
theorem Sy.right {n : Nat} {f : Nat → Nat → Bool} (h : Sy n f) (hn : n ≤ 40) : rightB (gW n f) = true := gW_right n hn f (fun i k _ _ hb => ⟨fun e => (by rw [e, h.2.1] at hb; cases hb), (by rw [h.1]; exact hb)⟩)
theorem mat_edge (n : Nat) (f : Nat → Nat → Bool) (a b : Nat) (ha : a < n) (hb : b < n) (y : List (List Bool)) (hy : y = (mat n f).set a ((rd_L7 (mat n f) (a : Int)).set b true)) :
    y.length = n ∧ (rd_L7 y (b : Int)).length = n ∧ y.set b ((rd_L7 y (b : Int)).set a true) = mat n (addE f a b) := by
  rw [mat_rd n f a ha, rowT_set, mat_set] at hy
  subst hy
  rw [mat_len, mat_rd n _ b hb, rowT_len, rowT_set, mat_set]
  refine ⟨rfl, rfl, mat_congr (fun i k hi hk => ?_)⟩
  unfold addE
  by_cases c1 : i = b
  · subst c1
    rw [if_pos rfl]
    by_cases c2 : k = a
    · subst c2
      rw [if_pos rfl, decide_eq_true (show i = i ∧ k = k from ⟨rfl, rfl⟩)]
      simp
    · rw [if_neg c2, decide_eq_false (show ¬ (i = i ∧ k = a) by omega), Bool.or_false]
      by_cases c3 : i = a
      · subst c3
        rw [if_pos rfl]
        by_cases c4 : k = i
        · exact absurd c4 c2
        · rw [if_neg c4, decide_eq_false (by omega), Bool.or_false]
      · rw [if_neg c3, decide_eq_false (by omega), Bool.or_false]
  · rw [if_neg c1, decide_eq_false (show ¬ (i = b ∧ k = a) by omega), Bool.or_false]
    by_cases c3 : i = a
    · subst c3
      rw [if_pos rfl]
      by_cases c4 : k = b
      · rw [if_pos c4, decide_eq_true (by omega)]; simp
      · rw [if_neg c4, decide_eq_false (by omega), Bool.or_false]
    · rw [if_neg c3, decide_eq_false (by omega), Bool.or_false]
theorem joinW_gW {n : Nat} (f : Nat → Nat → Bool) {a b : Nat} (ha : a < n) (hb : b < n) (e : a ≠ b) : joinW (gW n f) (a : Int) (b : Int) = gW n (addE f a b) := by
  refine gI_ext (by rw [joinW_len, gW_len, gW_len]) (fun i hi => Nat.eq_of_testBit_eq (fun k => ?_))
  rw [joinW_len, gW_len] at hi
  have pa : isP n (a : Int) = true := decide_eq_true (by omega)
  have pb : isP n (b : Int) = true := decide_eq_true (by omega)
  rw [join_bit, gW_bit, gW_bit, gW_len, pa, pb, decide_eq_true hi]
  simp only [Bool.true_and, Bool.and_self]
  rw [decide_eq_true (show (a : Int) ≠ (b : Int) by omega), Bool.true_and]
  unfold addE
  by_cases c : k < n
  · rw [decide_eq_true c, Bool.true_and, Bool.true_and]
    congr 1
    rw [Bool.eq_iff_iff]
    simp only [Bool.or_eq_true, decide_eq_true_eq]
    omega
  · rw [decide_eq_false c, Bool.false_and, Bool.false_and, Bool.false_or, decide_eq_false (by omega), decide_eq_false (by omega)]
    rfl
def cliqB (n : Nat) (f : Nat → Nat → Bool) (l : List Int) : Bool := l.all (isP n) && l.all fun x => l.all fun y => x == y || f x.toNat y.toNat
theorem shown_9 : Ev (fun k => arboristlaw10_shown.f k) true := Ev.of (fun k => arboristlaw10_shown.mono k) (k := 100) (by decide +kernel)
theorem made9_j (n : Nat) (l : List (List Int)) (f : Nat → Nat → Bool) (i : Nat) : Ev (fun k => arboristlaw10_made.j1 k (n : Int) l (mat n f) (i : Int) false) (mat n f) := evs0 (fun k => by rw [arboristlaw10_made.j1, if_neg (by decide)])
theorem made9_l0 (n : Nat) (hn : n ≤ 12) (l : List (List Int)) : ∀ (d i : Nat) (f : Nat → Nat → Bool), 40 = i + d → Sy n f → ∃ f', Sy n f' ∧ Ev (fun k => arboristlaw10_made.l0 k (n : Int) l (mat n f) (i : Int)) (mat n f')
  | 0, i, f, h, hf => by
    refine ⟨f, hf, evp (made9_j n l f i) (fun k e => ?_)⟩
    rw [arboristlaw10_made.l0]
    by_cases c : (i : Int) < (l.length : Int)
    · rw [if_pos c, if_neg (by omega)]; exact e
    · rw [if_neg c]; exact e
  | d + 1, i, f, h, hf => by
    by_cases c : i < l.length
    · by_cases c0 : n = 0
      · refine ⟨f, hf, evp (made9_j n l f i) (fun k e => ?_)⟩
        rw [arboristlaw10_made.l0, if_pos (by omega), if_pos (by omega), decide_eq_false (by omega)]
        exact e
      · -- an edge
        have hgo : ∀ {G : Nat → Option (List (List Bool))} {f' : Nat → Nat → Bool}, Ev G (mat n f') → (∀ k, arboristlaw10_made.j1 (k + 1) (n : Int) l (mat n f) (i : Int) true = G k) → Ev (fun k => arboristlaw10_made.l0 k (n : Int) l (mat n f) (i : Int)) (mat n f') := fun hG hj =>
          evp (g := fun k => arboristlaw10_made.j1 k (n : Int) l (mat n f) (i : Int) true) (evp hG (fun k e => by rw [hj]; exact e)) (fun k e => by
            rw [arboristlaw10_made.l0, if_pos (by omega), if_pos (by omega), decide_eq_true (by omega)]
            exact e)
        obtain ⟨e, he⟩ : ∃ e, e = rd_L1 l (i : Int) := ⟨_, rfl⟩
        obtain ⟨p, hp, hp2⟩ := kT_in (show 0 < n by omega) (rd e 0)
        obtain ⟨q, hq, hq2⟩ := kT_in (show 0 < n by omega) (rd e 1)
        by_cases c1 : e.length < 2
        · obtain ⟨f', s, hr⟩ := made9_l0 n hn l d (i + 1) f (by omega) hf
          refine ⟨f', s, hgo hr (fun k => ?_)⟩
          rw [arboristlaw10_made.j1, if_pos rfl, if_pos (by omega), if_pos (by omega), ← he, if_pos (by omega), wrap_nat i (by omega)]
        · by_cases c2 : p = q
          · obtain ⟨f', s, hr⟩ := made9_l0 n hn l d (i + 1) f (by omega) hf
            refine ⟨f', s, hgo hr (fun k => ?_)⟩
            rw [arboristlaw10_made.j1, if_pos rfl, if_pos (by omega), if_pos (by omega), ← he, if_neg (by omega), if_pos (by omega), if_neg (by omega), if_pos (by omega), hp2, hq2, if_pos (by omega), wrap_nat i (by omega)]
          · obtain ⟨f', s, hr⟩ := made9_l0 n hn l d (i + 1) (addE f p q) (by omega) (hf.add hp hq c2)
            obtain ⟨y, hy⟩ : ∃ y, y = (mat n f).set p ((rd_L7 (mat n f) (p : Int)).set q true) := ⟨_, rfl⟩
            obtain ⟨y1, y2, y3⟩ := mat_edge n f p q hp hq y hy
            refine ⟨f', s, hgo hr (fun k => ?_)⟩
            rw [arboristlaw10_made.j1, if_pos rfl, if_pos (by omega), if_pos (by omega), ← he, if_neg (by omega), if_pos (by omega), if_neg (by omega), if_pos (by omega), hp2, hq2, if_neg (by omega), if_pos (by omega), mat_len, if_pos (by omega), if_pos (by omega), if_pos (by rw [mat_rd n f p hp, rowT_len]; omega)]
            simp only [Option.bind_some, Int.toNat_natCast]
            rw [← hy, if_pos (by omega), if_pos (by omega), y3, wrap_nat i (by omega)]
    · refine ⟨f, hf, evp (made9_j n l f i) (fun k e => ?_)⟩
      rw [arboristlaw10_made.l0, if_neg (by omega)]
      exact e
theorem made9_ev (a : Int) (l : List (List Int)) : ∃ (n : Nat) (f : Nat → Nat → Bool), n ≤ 9 ∧ Sy n f ∧ Ev (fun k => arboristlaw10_made.f k a l) (mat n f) := by
  obtain ⟨n, hn, hn2⟩ := kT_in (show 0 < 10 by omega) a
  obtain ⟨f, hf, hr⟩ := made9_l0 n (by omega) l 40 0 (fun _ _ => false) (by omega) (Sy.no n)
  refine ⟨n, f, by omega, hf, evu2 (empty_ev n (by omega)) hr (fun k e1 e2 => ?_)⟩
  rw [show ((10 : Nat) : Int) = 10 from rfl] at hn2
  rw [arboristlaw10_made.f, hn2, e1, Option.bind_some]
  exact e2
def idI (n : Nat) : List Int := (List.range n).map fun (i : Nat) => (i : Int)
theorem idI_len (n : Nat) : (idI n).length = n := by simp [idI]
theorem idI_succ (n : Nat) : idI (n + 1) = idI n ++ [(n : Int)] := by simp [idI, List.range_succ]
theorem mem_idI {n : Nat} {x : Int} : x ∈ idI n ↔ ∃ k : Nat, k < n ∧ x = (k : Int) := by
  unfold idI
  simp only [List.mem_map, List.mem_range]
  constructor
  · rintro ⟨k, h, rfl⟩; exact ⟨k, h, rfl⟩
  · rintro ⟨k, h, rfl⟩; exact ⟨k, h, rfl⟩
theorem idI_nodup (n : Nat) : (idI n).Nodup := by
  unfold idI
  rw [List.Nodup, List.pairwise_map]
  exact List.nodup_range.imp (fun h e => h (by omega))
theorem given_step (out left : List Int) (p : Nat) (h : p < left.length) {I : List Int} (hp : (out ++ left).Perm I) : ((out ++ [rd left (p : Int)]) ++ (left.take p ++ left.drop (p + 1))).Perm I := by
  have hx : left[p]? = some (left[p]) := List.getElem?_eq_getElem h
  rw [rd_nat left p _ hx]
  have e : left = left.take p ++ left[p] :: left.drop (p + 1) := by rw [← List.drop_eq_getElem_cons h, List.take_append_drop]
  refine List.Perm.trans ?_ hp
  rw [List.append_assoc]
  refine List.Perm.append_left out ?_
  rw [List.singleton_append]
  conv => rhs; rw [e]
  exact List.perm_middle.symm
theorem given_l1 (n : Nat) (hn : n ≤ 1000) (l : List Int) (I : List Int) (d : Nat) : ∀ (i : Nat) (left out : List Int), i + d = n → left.length = d → out.length = i → (out ++ left).Perm I → ∃ o, o.Perm I ∧ Ev (fun k => arboristlaw10_given.l1 k (n : Int) l left out (i : Int)) o := by
  induction d with
  | zero =>
    intro i left out h hl ho hp
    obtain rfl := List.eq_nil_of_length_eq_zero hl
    exact ⟨out, by simpa using hp, evs0 (fun k => by rw [arboristlaw10_given.l1, if_neg (by omega)])⟩
  | succ d ih =>
    intro i left out h hl ho hp
    have next : ∀ p : Nat, p < left.length → ∃ o, o.Perm I ∧ Ev (fun k => arboristlaw10_given.l1 k (n : Int) l (left.take p ++ left.drop (p + 1)) (out ++ [rd left (p : Int)]) ((i + 1 : Nat) : Int)) o := fun p hpl =>
      ih (i + 1) _ _ (by omega) (by rw [List.length_append, List.length_take, List.length_drop]; omega) (by rw [List.length_append, ho]; rfl) (given_step out left p hpl hp)
    clear ih hp
    by_cases c : i < l.length
    · obtain ⟨p, hpl, hp2⟩ := kT_in (show 0 < left.length by omega) (rd l (i : Int))
      obtain ⟨o, ho1, ho2⟩ := next p hpl
      refine ⟨o, ho1, evp ho2 (fun k e => ?_)⟩
      have hq : wrap64 ((p : Int) + 1) = ((p + 1 : Nat) : Int) := wrap_nat p (by omega)
      have hw : wrap64 ((i : Int) + 1) = ((i + 1 : Nat) : Int) := wrap_nat i (by omega)
      have g1 : ([] : List Int).length + (left.take p).length < 17592186044416 := by rw [List.length_take]; simp; omega
      have g2 : (left.take p).length + (left.drop (p + 1)).length < 17592186044416 := by rw [List.length_take, List.length_drop]; omega
      rw [arboristlaw10_given.l1, if_pos (by omega), if_pos (by omega), if_pos (by omega), if_neg (by omega), hp2, if_pos (by omega), if_pos (by omega), if_pos (by omega)]
      rw [Option.bind_some, if_pos (by omega), Option.bind_some, Int.toNat_natCast, if_pos g1, Option.bind_some, hq, if_pos (by omega), if_pos (by omega), Option.bind_some, List.nil_append, Int.toNat_natCast, if_pos g2, hw]
      exact e
    · obtain ⟨o, ho1, ho2⟩ := next 0 (by omega)
      refine ⟨o, ho1, evp ho2 (fun k e => ?_)⟩
      have hw : wrap64 ((i : Int) + 1) = ((i + 1 : Nat) : Int) := wrap_nat i (by omega)
      have g1 : ([] : List Int).length + (left.take 0).length < 17592186044416 := by simp
      have g2 : (left.take 0).length + (left.drop 1).length < 17592186044416 := by simp; omega
      rw [arboristlaw10_given.l1, if_pos (by omega), if_neg (by omega), if_pos (by omega), if_pos (by omega)]
      rw [Option.bind_some, if_pos (by omega), Option.bind_some, if_pos g1, Option.bind_some, if_pos (by omega), Option.bind_some, List.nil_append, if_pos g2, hw]
      exact e
theorem given_l0 (n : Nat) (hn : n ≤ 1000) (l : List Int) : ∀ (d i : Nat), i + d = n → ∃ o, o.Perm (idI n) ∧ Ev (fun k => arboristlaw10_given.l0 k (n : Int) l (idI i) (i : Int)) o
  | 0, i, h => by
    obtain rfl : i = n := by omega
    obtain ⟨o, ho1, ho2⟩ := given_l1 i hn l (idI i) i 0 (idI i) [] (by omega) (idI_len i) rfl (by simp)
    refine ⟨o, ho1, evp ho2 (fun k e => ?_)⟩
    rw [arboristlaw10_given.l0, if_neg (by omega)]
    exact e
  | d + 1, i, h => by
    obtain ⟨o, ho1, ho2⟩ := given_l0 n hn l d (i + 1) (by omega)
    refine ⟨o, ho1, evp ho2 (fun k e => ?_)⟩
    rw [arboristlaw10_given.l0, if_pos (by omega), if_pos (by rw [idI_len]; omega), wrap_nat i (by omega), ← idI_succ]
    exact e
theorem given_ev (n : Nat) (hn : n ≤ 1000) (l : List Int) : ∃ o, o.Perm (idI n) ∧ Ev (fun k => arboristlaw10_given.f k (n : Int) l) o := given_l0 n hn l n 0 (by omega)
def goT (f : Nat → Nat → Bool) (v : Nat) : Nat → Nat → Bool := fun i k => !decide (i = v) && (!decide (k = v) && (f i k || (f v i && (f v k && !decide (i = k)))))
theorem Sy.go {n : Nat} {f : Nat → Nat → Bool} (h : Sy n f) (v : Nat) : Sy n (goT f v) := by
  refine ⟨fun i k => ?_, fun i => ?_, fun i k e => ?_⟩
  · unfold goT
    rw [h.1 i k, show decide (i = k) = decide (k = i) by simp [eq_comm]]
    generalize decide (i = v) = a; generalize decide (k = v) = b; generalize f k i = c; generalize f v i = d; generalize f v k = e; generalize decide (k = i) = g
    revert a b c d e g; decide
  · unfold goT
    rw [h.2.1 i]; simp
  · unfold goT at e
    simp only [Bool.and_eq_true, Bool.or_eq_true] at e
    rcases e.2.2 with e | e
    · exact h.2.2 _ _ e
    · exact ⟨(h.2.2 _ _ e.1).2, (h.2.2 _ _ e.2.1).2⟩
def nbN (n : Nat) (f : Nat → Nat → Bool) (v : Nat) : List Nat := (List.range n).filter (f v)
theorem mem_nbN {n : Nat} {f : Nat → Nat → Bool} {v x : Nat} : x ∈ nbN n f v ↔ x < n ∧ f v x = true := by unfold nbN; rw [List.mem_filter, List.mem_range]
theorem nbN_len (n : Nat) (f : Nat → Nat → Bool) (v : Nat) : (nbN n f v).length ≤ n := Nat.le_trans (List.length_filter_le _ _) (by simp)
theorem ofT_nbN (n : Nat) (f : Nat → Nat → Bool) (v : Nat) : ofT n (f v) = gI (nbN n f v) := rfl
theorem neigh9 (n : Nat) (hn : n ≤ 1000) (f : Nat → Nat → Bool) (v : Nat) (hv : v < n) : Ev (fun k => arboristref08_Neighbors.f k (mat n f) (v : Int)) (gI (nbN n f v)) := by
  have h := neigh_ev n hn f (v : Int)
  rw [if_pos (by unfold isP; exact decide_eq_true (by omega)), Int.toNat_natCast, ofT_nbN] at h
  exact h
theorem wAt_in {l : List Nat} {i : Nat} (h : i < l.length) : wAt l i ∈ l := by rw [wAt_get l i h]; exact List.getElem_mem h
theorem nodup_at {l : List Nat} (h : l.Nodup) {i k : Nat} (hi : i < l.length) (hk : k < l.length) (e : l[i] = l[k]) : i = k := by
  have hp := List.pairwise_iff_getElem.1 h
  rcases Nat.lt_trichotomy i k with c | c | c
  · exact absurd e (hp i k hi hk c)
  · exact c
  · exact absurd e.symm (hp k i hk hi c)
def cntP (f : Nat → Nat → Bool) (l : List Nat) (i j : Nat) : Nat := (l.take j).countP (fun b => !f (wAt l i) b)
def ms (f : Nat → Nat → Bool) (l : List Nat) : Nat → Nat
  | 0 => 0
  | i + 1 => ms f l i + cntP f l i i
def missT (n : Nat) (f : Nat → Nat → Bool) (v : Nat) : Nat := ms f (nbN n f v) (nbN n f v).length
theorem take_one (l : List Nat) (j : Nat) (h : j < l.length) : l.take (j + 1) = l.take j ++ [wAt l j] := by rw [List.take_succ_eq_append_getElem h, wAt_get l j h]
theorem cntP_succ (f : Nat → Nat → Bool) (l : List Nat) (i j : Nat) (h : j < l.length) : cntP f l i (j + 1) = cntP f l i j + if f (wAt l i) (wAt l j) = true then 0 else 1 := by
  unfold cntP
  rw [take_one l j h, List.countP_append, List.countP_cons, List.countP_nil]
  cases f (wAt l i) (wAt l j) <;> simp
theorem cntP_le (f : Nat → Nat → Bool) (l : List Nat) (i j : Nat) : cntP f l i j ≤ j := Nat.le_trans List.countP_le_length (by simp; omega)
theorem ms_le (f : Nat → Nat → Bool) (l : List Nat) : ∀ i, ms f l i ≤ i * i
  | 0 => Nat.le_refl _
  | i + 1 => by
    have h1 := ms_le f l i
    have h2 := cntP_le f l i i
    rw [ms, Nat.succ_mul, Nat.mul_succ]
    omega
theorem missing_l1 (n : Nat) (hn : n ≤ 1000) (f : Nat → Nat → Bool) (l : List Nat) (hl : ∀ x ∈ l, x < n) (hll : l.length ≤ 1000) (i : Nat) (hi : i < l.length) (R : Int)
    (H : Ev (fun k => arboristref09_Missing.l0 k (mat n f) (gI l) ((ms f l (i + 1) : Nat) : Int) ((i + 1 : Nat) : Int)) R) (d : Nat) : ∀ j, j + d = i → Ev (fun k => arboristref09_Missing.l1 k (mat n f) (gI l) ((ms f l i + cntP f l i j : Nat) : Int) (i : Int) (j : Int)) R := by
  induction d with
  | zero =>
    intro j h
    obtain rfl : j = i := by omega
    refine evp H (fun k e => ?_)
    rw [arboristref09_Missing.l1, if_neg (by omega), wrap_nat j (by omega)]
    exact e
  | succ d ih =>
    intro j h
    have h1 := hl _ (wAt_in hi)
    have h2 := hl _ (wAt_in (show j < l.length by omega))
    have hb : ms f l i + cntP f l i j ≤ 1000 * 1000 + 1000 := by
      have q1 := ms_le f l i
      have q2 := cntP_le f l i j
      have q3 : i * i ≤ 1000 * 1000 := Nat.mul_le_mul (by omega) (by omega)
      omega
    refine evp (ih (j + 1) (by omega)) (fun k e => ?_)
    rw [arboristref09_Missing.l1, gI_len, if_pos (by omega), if_pos (by omega), if_pos (by omega), gI_rd, gI_rd, if_pos (by omega), mat_len, if_pos (by omega), if_pos (by omega), if_pos (by omega), if_pos (by omega), mat_rd n f _ h1, rowT_len, if_pos (by omega), rowT_rd n _ _ h2, wrap_nat j (by omega), wrap_nat _ (by omega)]
    rw [cntP_succ f l i j (by omega)] at e
    by_cases c : f (wAt l i) (wAt l j) = true
    · rw [if_pos c]; rw [if_pos c, Nat.add_zero] at e; exact e
    · rw [if_neg c]; rw [if_neg c, ← Nat.add_assoc] at e; exact e
theorem missing_l0 (n : Nat) (hn : n ≤ 1000) (f : Nat → Nat → Bool) (l : List Nat) (hl : ∀ x ∈ l, x < n) (hll : l.length ≤ 1000) (d : Nat) : ∀ i, i + d = l.length → Ev (fun k => arboristref09_Missing.l0 k (mat n f) (gI l) ((ms f l i : Nat) : Int) (i : Int)) ((ms f l l.length : Nat) : Int) := by
  induction d with
  | zero =>
    intro i h
    obtain rfl : i = l.length := by omega
    exact evs0 (fun k => by rw [arboristref09_Missing.l0, gI_len, if_neg (by omega)])
  | succ d ih =>
    intro i h
    refine evp (missing_l1 n hn f l hl hll i (by omega) _ (ih (i + 1) (by omega)) i 0 (by omega)) (fun k e => ?_)
    rw [arboristref09_Missing.l0, gI_len, if_pos (by omega)]
    have hz : cntP f l i 0 = 0 := by unfold cntP; simp
    rw [hz, Nat.add_zero] at e
    exact e
theorem missing_ev (n : Nat) (hn : n ≤ 1000) (f : Nat → Nat → Bool) (v : Nat) (hv : v < n) : Ev (fun k => arboristref09_Missing.f k (mat n f) (v : Int)) ((missT n f v : Nat) : Int) := by
  have hln := nbN_len n f v
  refine evu2 (neigh9 n hn f v hv) (missing_l0 n hn f (nbN n f v) (fun x hx => (mem_nbN.1 hx).1) (by omega) (nbN n f v).length 0 (by omega)) (fun k e1 e2 => ?_)
  rw [arboristref09_Missing.f, e1, Option.bind_some]
  exact e2
def setT (f : Nat → Nat → Bool) (p q : Nat) (b : Bool) : Nat → Nat → Bool := fun i => if i = p then (fun k => if k = q then b else f p k) else f i
theorem setT_mat (n : Nat) (f : Nat → Nat → Bool) (p q : Nat) (b : Bool) (hp : p < n) (hq : q < n) : (mat n f).set p ((rd_L7 (mat n f) (p : Int)).set q b) = mat n (setT f p q b) := by
  rw [mat_rd n f p hp, rowT_set, mat_set]
  rfl
theorem setT_true (f : Nat → Nat → Bool) (p q i k : Nat) : setT f p q true i k = true ↔ f i k = true ∨ (i = p ∧ k = q) := by
  unfold setT
  by_cases c : i = p
  · subst c
    rw [if_pos rfl]
    by_cases c2 : k = q
    · rw [if_pos c2]; exact ⟨fun _ => .inr ⟨rfl, c2⟩, fun _ => rfl⟩
    · rw [if_neg c2]; exact ⟨.inl, fun h => h.elim id (fun h => absurd h.2 c2)⟩
  · rw [if_neg c]; exact ⟨.inl, fun h => h.elim id (fun h => absurd h.1 c)⟩
theorem setT_false (f : Nat → Nat → Bool) (p q i k : Nat) : setT f p q false i k = true ↔ f i k = true ∧ ¬ (i = p ∧ k = q) := by
  unfold setT
  by_cases c : i = p
  · subst c
    rw [if_pos rfl]
    by_cases c2 : k = q
    · rw [if_pos c2]; exact ⟨fun h => (by cases h), fun h => absurd ⟨rfl, c2⟩ h.2⟩
    · rw [if_neg c2]; exact ⟨fun h => ⟨h, fun h2 => c2 h2.2⟩, fun h => h.1⟩
  · rw [if_neg c]; exact ⟨fun h => ⟨h, fun h2 => c h2.1⟩, fun h => h.1⟩
theorem goT_iff {n : Nat} {f : Nat → Nat → Bool} (hf : Sy n f) (v p q : Nat) : goT f v p q = true ↔ ((f p q = true ∨ (f v p = true ∧ f v q = true ∧ p ≠ q)) ∧ ¬ ((p = v ∧ f v q = true) ∨ (f v p = true ∧ q = v))) := by
  unfold goT
  have hvv := hf.2.1 v
  by_cases c1 : p = v
  · subst c1
    simp [hvv]
  · by_cases c2 : q = v
    · subst c2
      rw [hf.1 p q]
      simp [c1, hvv]
    · simp [c1, c2]
theorem go_l2 (n : Nat) (hn : n ≤ 1000) (f F : Nat → Nat → Bool) (v : Nat) (hv : v < n) (l : List Nat) (hl : ∀ x ∈ l, x < n) (hll : l.length ≤ 1000)
    (hF : ∀ g : Nat → Nat → Bool, (∀ p q, g p q = true ↔ f p q = true ∧ ¬ ∃ j, j < l.length ∧ ((p = v ∧ q = wAt l j) ∨ (p = wAt l j ∧ q = v))) → mat n g = mat n F) (d : Nat) :
    ∀ j (g : Nat → Nat → Bool), j + d = l.length → (∀ p q, g p q = true ↔ f p q = true ∧ ¬ ∃ j', j' < j ∧ ((p = v ∧ q = wAt l j') ∨ (p = wAt l j' ∧ q = v))) → Ev (fun k => arboristref09_Go.l2 k (mat n g) (v : Int) (gI l) (j : Int)) (mat n F) := by
  induction d with
  | zero =>
    intro j g h hg
    obtain rfl : j = l.length := by omega
    exact evs0 (fun k => by rw [arboristref09_Go.l2, gI_len, if_neg (by omega), hF g hg])
  | succ d ih =>
    intro j g h hg
    have h2 := hl _ (wAt_in (show j < l.length by omega))
    have h3 := ih (j + 1) (setT (setT g v (wAt l j) false) (wAt l j) v false) (by omega) (fun p q => by
      rw [setT_false, setT_false, hg]
      constructor
      · rintro ⟨⟨⟨a, b⟩, c⟩, e⟩
        refine ⟨a, fun ⟨j', hj', hh⟩ => ?_⟩
        by_cases cj : j' = j
        · subst cj
          rcases hh with hh | hh
          · exact c hh
          · exact e hh
        · exact b ⟨j', by omega, hh⟩
      · rintro ⟨a, b⟩
        exact ⟨⟨⟨a, fun ⟨j', hj', hh⟩ => b ⟨j', by omega, hh⟩⟩, fun hh => b ⟨j, by omega, .inl hh⟩⟩, fun hh => b ⟨j, by omega, .inr hh⟩⟩)
    refine evp h3 (fun k e => ?_)
    rw [arboristref09_Go.l2, gI_len, if_pos (by omega), if_pos (by omega), mat_len, if_pos (by omega), if_pos (by omega), gI_rd, if_pos (by omega), mat_rd n g v hv, rowT_len, if_pos (by omega)]
    rw [Option.bind_some, if_pos (by omega)]
    have e1 := setT_mat n g v (wAt l j) false hv h2
    rw [mat_rd n g v hv] at e1
    rw [Int.toNat_natCast, Int.toNat_natCast, e1, mat_rd n _ _ h2, rowT_len, if_pos (by omega)]
    have e2 := setT_mat n (setT g v (wAt l j) false) (wAt l j) v false h2 hv
    rw [mat_rd n _ _ h2] at e2
    rw [e2, wrap_nat j (by omega)]
    exact e
def Did (f : Nat → Nat → Bool) (l : List Nat) (i k : Nat) (g : Nat → Nat → Bool) : Prop := ∀ p q, g p q = true ↔ f p q = true ∨ ∃ i' k', i' < l.length ∧ k' < l.length ∧ i' ≠ k' ∧ (i' < i ∨ (i' = i ∧ k' < k)) ∧ wAt l i' = p ∧ wAt l k' = q
theorem go_l1 (n : Nat) (hn : n ≤ 1000) (f : Nat → Nat → Bool) (v : Nat) (l : List Nat) (hl : ∀ x ∈ l, x < n) (hll : l.length ≤ 1000) (R : List (List Bool)) (i : Nat) (hi : i < l.length)
    (H : ∀ g, Did f l (i + 1) 0 g → Ev (fun k => arboristref09_Go.l0 k (mat n g) (v : Int) (gI l) ((i + 1 : Nat) : Int)) R) (d : Nat) : ∀ j g, j + d = l.length → Did f l i j g → Ev (fun k => arboristref09_Go.l1 k (mat n g) (v : Int) (gI l) (i : Int) (j : Int)) R := by
  induction d with
  | zero =>
    intro j g h hg
    obtain rfl : j = l.length := by omega
    refine evp (H g (fun p q => by
      rw [hg]
      constructor
      · rintro (a | ⟨i', k', h1, h2, h3, h4, h5⟩)
        · exact .inl a
        · exact .inr ⟨i', k', h1, h2, h3, .inl (by omega), h5⟩
      · rintro (a | ⟨i', k', h1, h2, h3, h4, h5⟩)
        · exact .inl a
        · exact .inr ⟨i', k', h1, h2, h3, by omega, h5⟩)) (fun k e => ?_)
    rw [arboristref09_Go.l1, gI_len, if_neg (by omega), wrap_nat i (by omega)]
    exact e
  | succ d ih =>
    intro j g h hg
    have h1 := hl _ (wAt_in hi)
    have h2 := hl _ (wAt_in (show j < l.length by omega))
    by_cases c : i = j
    · subst c
      refine evp (ih (i + 1) g (by omega) (fun p q => by
        rw [hg]
        constructor
        · rintro (a | ⟨i', k', q1, q2, q3, q4, q5⟩)
          · exact .inl a
          · exact .inr ⟨i', k', q1, q2, q3, by omega, q5⟩
        · rintro (a | ⟨i', k', q1, q2, q3, q4, q5⟩)
          · exact .inl a
          · exact .inr ⟨i', k', q1, q2, q3, by omega, q5⟩)) (fun k e => ?_)
      rw [arboristref09_Go.l1, gI_len, if_pos (by omega), if_pos rfl, wrap_nat i (by omega)]
      exact e
    · refine evp (ih (j + 1) (setT g (wAt l i) (wAt l j) true) (by omega) (fun p q => by
        rw [setT_true, hg]
        constructor
        · rintro ((a | ⟨i', k', q1, q2, q3, q4, q5⟩) | ⟨e1, e2⟩)
          · exact .inl a
          · exact .inr ⟨i', k', q1, q2, q3, by omega, q5⟩
          · exact .inr ⟨i, j, hi, by omega, c, .inr ⟨rfl, by omega⟩, e1.symm, e2.symm⟩
        · rintro (a | ⟨i', k', q1, q2, q3, q4, q5, q6⟩)
          · exact .inl (.inl a)
          · by_cases cc : i' = i ∧ k' = j
            · rw [cc.1] at q5; rw [cc.2] at q6; exact .inr ⟨q5.symm, q6.symm⟩
            · exact .inl (.inr ⟨i', k', q1, q2, q3, by omega, q5, q6⟩))) (fun k e => ?_)
      have e1 := setT_mat n g (wAt l i) (wAt l j) true h1 h2
      rw [mat_rd n g _ h1] at e1
      rw [arboristref09_Go.l1, gI_len, if_pos (by omega), if_neg (by omega), if_pos (by omega), if_pos (by omega), gI_rd, gI_rd, if_pos (by omega), mat_len, if_pos (by omega), if_pos (by omega), if_pos (by omega), mat_rd n g _ h1, rowT_len, if_pos (by omega), Int.toNat_natCast, Int.toNat_natCast, e1, wrap_nat j (by omega)]
      exact e
theorem go_l0 (n : Nat) (hn : n ≤ 1000) (f : Nat → Nat → Bool) (v : Nat) (l : List Nat) (hl : ∀ x ∈ l, x < n) (hll : l.length ≤ 1000) (R : List (List Bool))
    (H : ∀ g, Did f l l.length 0 g → Ev (fun k => arboristref09_Go.l2 k (mat n g) (v : Int) (gI l) 0) R) (d : Nat) : ∀ i g, i + d = l.length → Did f l i 0 g → Ev (fun k => arboristref09_Go.l0 k (mat n g) (v : Int) (gI l) (i : Int)) R := by
  induction d with
  | zero =>
    intro i g h hg
    obtain rfl : i = l.length := by omega
    refine evp (H g hg) (fun k e => ?_)
    rw [arboristref09_Go.l0, gI_len, if_neg (by omega)]
    exact e
  | succ d ih =>
    intro i g h hg
    refine evp (go_l1 n hn f v l hl hll R i (by omega) (fun g' hg' => ih (i + 1) g' (by omega) hg') l.length 0 g (by omega) hg) (fun k e => ?_)
    rw [arboristref09_Go.l0, gI_len, if_pos (by omega)]
    exact e
theorem go_ev (n : Nat) (hn : n ≤ 1000) (f : Nat → Nat → Bool) (hf : Sy n f) (v : Nat) (hv : v < n) : Ev (fun k => arboristref09_Go.f k (mat n f) (v : Int)) (mat n (goT f v)) := by
  have hln := nbN_len n f v
  have hin : ∀ x ∈ nbN n f v, x < n := fun x hx => (mem_nbN.1 hx).1
  have hat : ∀ x, (∃ j, j < (nbN n f v).length ∧ wAt (nbN n f v) j = x) ↔ f v x = true := fun x => by
    constructor
    · rintro ⟨j, hj, rfl⟩; exact (mem_nbN.1 (wAt_in hj)).2
    · intro h
      obtain ⟨j, hj, e⟩ := List.getElem_of_mem (mem_nbN.2 ⟨(hf.2.2 _ _ h).2, h⟩)
      exact ⟨j, hj, by rw [wAt_get _ _ hj, e]⟩
  refine evu2 (neigh9 n hn f v hv) (go_l0 n hn f v (nbN n f v) hin (by omega) (mat n (goT f v)) (fun g hg => ?_) (nbN n f v).length 0 f (by omega) (fun p q => ⟨.inl, fun h => h.elim id (fun ⟨i', k', _, _, _, h4, _⟩ => by omega)⟩)) (fun k e1 e2 => ?_)
  · refine go_l2 n hn g (goT f v) v hv (nbN n f v) hin (by omega) (fun g2 hg2 => mat_congr (fun p q hp hq => ?_)) (nbN n f v).length 0 g (by omega) (fun p q => ⟨fun h => ⟨h, fun ⟨j', hj', _⟩ => by omega⟩, fun h => h.1⟩)
    have e : g2 p q = true ↔ goT f v p q = true := by
      rw [hg2, hg, goT_iff hf]
      have m1 : (∃ i' k', i' < (nbN n f v).length ∧ k' < (nbN n f v).length ∧ i' ≠ k' ∧ (i' < (nbN n f v).length ∨ (i' = (nbN n f v).length ∧ k' < 0)) ∧ wAt (nbN n f v) i' = p ∧ wAt (nbN n f v) k' = q) ↔ (f v p = true ∧ f v q = true ∧ p ≠ q) := by
        constructor
        · rintro ⟨i', k', h1, h2, h3, _, h5, h6⟩
          refine ⟨(hat p).1 ⟨i', h1, h5⟩, (hat q).1 ⟨k', h2, h6⟩, fun e => h3 ?_⟩
          have hnd : (nbN n f v).Nodup := List.Nodup.sublist List.filter_sublist List.nodup_range
          rw [wAt_get _ _ h1] at h5
          rw [wAt_get _ _ h2] at h6
          exact nodup_at hnd h1 h2 (by rw [h5, h6, e])
        · rintro ⟨h1, h2, h3⟩
          obtain ⟨i', a1, a2⟩ := (hat p).2 h1
          obtain ⟨k', b1, b2⟩ := (hat q).2 h2
          exact ⟨i', k', a1, b1, fun e => h3 (by rw [← a2, ← b2, e]), .inl a1, a2, b2⟩
      have m2 : (∃ j, j < (nbN n f v).length ∧ ((p = v ∧ q = wAt (nbN n f v) j) ∨ (p = wAt (nbN n f v) j ∧ q = v))) ↔ ((p = v ∧ f v q = true) ∨ (f v p = true ∧ q = v)) := by
        constructor
        · rintro ⟨j, h1, (⟨h2, h3⟩ | ⟨h2, h3⟩)⟩
          · exact .inl ⟨h2, (hat q).1 ⟨j, h1, h3.symm⟩⟩
          · exact .inr ⟨(hat p).1 ⟨j, h1, h2.symm⟩, h3⟩
        · rintro (⟨h2, h3⟩ | ⟨h2, h3⟩)
          · obtain ⟨j, a1, a2⟩ := (hat q).2 h3; exact ⟨j, a1, .inl ⟨h2, a2.symm⟩⟩
          · obtain ⟨j, a1, a2⟩ := (hat p).2 h2; exact ⟨j, a1, .inr ⟨a2.symm, h3⟩⟩
      rw [m1, m2]
    cases h1 : g2 p q <;> cases h2 : goT f v p q <;> simp_all
  · rw [arboristref09_Go.f, e1, Option.bind_some]
    exact e2
theorem copy_l0 (n : Nat) (hn : n ≤ 1000) (f : Nat → Nat → Bool) (d : Nat) : ∀ i, i + d = n → Ev (fun k => arboristref09_Copy.l0 k (mat n f) ((List.range i).map fun j => rowT n (f j)) (i : Int)) (mat n f) := by
  induction d with
  | zero =>
    intro i h
    obtain rfl : i = n := by omega
    exact evs0 (fun k => by rw [arboristref09_Copy.l0, mat_len, if_neg (by omega)]; rfl)
  | succ d ih =>
    intro i h
    refine evp (ih (i + 1) (by omega)) (fun k e => ?_)
    rw [arboristref09_Copy.l0, mat_len, if_pos (by omega), Option.bind_some, if_pos (by omega), mat_rd n f i (by omega), rowT_len, if_pos (by simp; omega), List.length_map, List.length_range, if_pos (by omega), List.nil_append, wrap_nat i (by omega)]
    rw [List.range_succ, List.map_append] at e
    exact e
theorem copy_ev (n : Nat) (hn : n ≤ 1000) (f : Nat → Nat → Bool) : Ev (fun k => arboristref09_Copy.f k (mat n f)) (mat n f) := copy_l0 n hn f n 0 (by omega)
theorem rd_gW (n : Nat) (f : Nat → Nat → Bool) (i : Nat) (h : i < n) : rd (gI (gW n f)) (i : Int) = ((wd n (f i) : Nat) : Int) := by rw [gI_rd, gW_at n f i h]
theorem popW_wd {n : Nat} (h : n ≤ 64) (g : Nat → Bool) : popW (wd n g) = (List.range n).countP g := by
  unfold popW
  rw [listN_wd h]
  unfold ofT
  rw [List.length_map, List.countP_eq_length_filter]
theorem degree9 (n : Nat) (hn : n ≤ 64) (f : Nat → Nat → Bool) (v : Nat) (hv : v < n) : degreeF (gI (gW n f)) (v : Int) = ((nbN n f v).length : Int) := by
  unfold degreeF
  rw [rd_gW n f v hv, Int.toNat_natCast, popW_wd hn, List.countP_eq_length_filter]
  rfl
theorem anl_bit (a b i : Nat) (ha : a < 18446744073709551616) (hb : b < 18446744073709551616) : (anl a b).testBit i = (a.testBit i && !b.testBit i) := by
  unfold anl
  rw [Nat.testBit_and]
  by_cases h : i < 64
  · congr 1
    have := Nat.testBit_two_pow_sub_succ (x := b) (n := 64) hb i
    rw [show 2 ^ 64 - (b + 1) = 18446744073709551615 - b by omega] at this
    rw [this, decide_eq_true h, Bool.true_and]
  · have e : a.testBit i = false := bits_ge (n := 64) ha (by omega)
    rw [e, Bool.false_and, Bool.false_and]
theorem anl_wd {n : Nat} (hn : n ≤ 64) (f g : Nat → Bool) : anl (wd n f) (wd n g) = wd n (fun i => f i && !g i) := Nat.eq_of_testBit_eq (fun i => by
  rw [anl_bit _ _ _ (wd_64 hn f) (wd_64 hn g), wd_bit, wd_bit, wd_bit]
  cases decide (i < n) <;> simp)
theorem anl_pow {n : Nat} (hn : n ≤ 64) (f : Nat → Bool) (v : Nat) (hv : v < 64) : anl (wd n f) (2 ^ v) = wd n (fun i => f i && !decide (v = i)) := Nat.eq_of_testBit_eq (fun i => by
  rw [anl_bit _ _ _ (wd_64 hn f) (pow_lt_64 v hv), wd_bit, wd_bit, pow_bit, Bool.and_assoc])
theorem all_wd (n : Nat) : 2 ^ n - 1 = wd n (fun _ => true) := Nat.eq_of_testBit_eq (fun i => by rw [Nat.testBit_two_pow_sub_one, wd_bit, Bool.and_true])
theorem sum_if (l : List Nat) (p : Nat → Bool) : (l.map fun x => if p x = true then 1 else 0).sum = l.countP p := by
  induction l with
  | nil => rfl
  | cons x l ih =>
    rw [List.map_cons, List.sum_cons, List.countP_cons, ih]
    omega
theorem sum_add (l : List Nat) (a b : Nat → Nat) : (l.map fun x => a x + b x).sum = (l.map a).sum + (l.map b).sum := by
  induction l with
  | nil => rfl
  | cons x l ih => rw [List.map_cons, List.sum_cons, List.map_cons, List.sum_cons, List.map_cons, List.sum_cons, ih]; omega
theorem ms_pre (f : Nat → Nat → Bool) (l : List Nat) (y : Nat) : ∀ i, i ≤ l.length → ms f (l ++ [y]) i = ms f l i
  | 0, _ => rfl
  | i + 1, h => by
    rw [ms, ms, ms_pre f l y i (by omega)]
    unfold cntP
    rw [List.take_append_of_le_length (by omega)]
    have e : wAt (l ++ [y]) i = wAt l i := by unfold wAt; rw [List.getD_eq_getElem?_getD, List.getD_eq_getElem?_getD, List.getElem?_append_left (by omega)]
    rw [e]
theorem pairs_two (f : Nat → Nat → Bool) (hs : ∀ i k, f i k = f k i) : ∀ (m : Nat) (l : List Nat), l.length = m → l.Nodup → (l.map fun x => l.countP (fun k => !f x k && !decide (x = k))).sum = 2 * ms f l l.length
  | 0, l, h, _ => by
    obtain rfl := List.eq_nil_of_length_eq_zero h
    rfl
  | m + 1, l, h, hd => by
    obtain ⟨l, y, rfl⟩ : ∃ l' y, l = l' ++ [y] := ⟨l.dropLast, l.getLast (by intro e; rw [e] at h; cases h), (List.dropLast_concat_getLast _).symm⟩
    have hl : l.length = m := by simpa using h
    have hdl : l.Nodup := (List.nodup_append.1 hd).1
    have hy : ∀ x ∈ l, x ≠ y := fun x hx => (List.nodup_append.1 hd).2.2 x hx y (by simp)
    have ih := pairs_two f hs m l hl hdl
    have e1 : ms f (l ++ [y]) (l ++ [y]).length = ms f l l.length + l.countP (fun b => !f y b) := by
      rw [List.length_append, show [y].length = 1 from rfl, ms, ms_pre f l y _ (Nat.le_refl _)]
      unfold cntP
      rw [List.take_append_of_le_length (Nat.le_refl _), List.take_length]
      have e : wAt (l ++ [y]) l.length = y := by unfold wAt; rw [List.getD_eq_getElem?_getD, List.getElem?_append_right (Nat.le_refl _)]; simp
      rw [e]
    have e2 : (l.map fun x => (l ++ [y]).countP (fun k => !f x k && !decide (x = k))).sum = (l.map fun x => l.countP (fun k => !f x k && !decide (x = k))).sum + l.countP (fun b => !f y b) := by
      rw [← sum_if l (fun b => !f y b), ← sum_add]
      congr 1
      refine List.map_congr_left (fun x hx => ?_)
      rw [List.countP_append, List.countP_cons, List.countP_nil]
      rw [hs x y, decide_eq_false (hy x hx)]
      simp
    have e3 : (l ++ [y]).countP (fun k => !f y k && !decide (y = k)) = l.countP (fun b => !f y b) := by
      rw [List.countP_append, List.countP_cons, List.countP_nil]
      rw [List.countP_congr (p := fun k => !f y k && !decide (y = k)) (q := fun b => !f y b) (fun x hx => by
        have := hy x hx
        simp [Ne.symm this])]
      simp
    rw [List.map_append, List.sum_append, e2, e1, ih, List.map_cons, List.map_nil, List.sum_cons, List.sum_nil, e3]
    omega
theorem nbN_nodup (n : Nat) (f : Nat → Nat → Bool) (v : Nat) : (nbN n f v).Nodup := List.Nodup.sublist List.filter_sublist List.nodup_range
theorem missing9 (n : Nat) (hn : n ≤ 64) (f : Nat → Nat → Bool) (hs : ∀ i k, f i k = f k i) (v : Nat) (hv : v < n) : missF (gI (gW n f)) (v : Int) = ((missT n f v : Nat) : Int) := by
  unfold missF
  rw [rd_gW n f v hv, Int.toNat_natCast, listN_wd hn, ofT_nbN]
  have e : missSum (gI (gW n f)) (wd n (f v)) (gI (nbN n f v)) = 2 * missT n f v := by
    unfold missT
    rw [← pairs_two f hs _ (nbN n f v) rfl (nbN_nodup n f v)]
    unfold missSum gI
    rw [List.map_map]
    congr 1
    refine List.map_congr_left (fun x hx => ?_)
    have hx2 := (mem_nbN.1 hx).1
    show missN (gI (gW n f)) (wd n (f v)) (x : Int) = _
    unfold missN
    rw [rd_gW n f x hx2, Int.toNat_natCast, Int.toNat_natCast, anl_wd hn, anl_pow hn _ x (by omega), popW_wd hn]
    unfold nbN
    rw [List.countP_filter]
    congr 1
    funext k
    cases f v k <;> cases f x k <;> simp
  rw [e, Nat.mul_div_cancel_left _ (by decide)]
def rowsF (n : Nat) (F : Nat → Nat) : List Nat := (List.range n).map F
theorem rowsF_at (n : Nat) (F : Nat → Nat) (i : Nat) (h : i < n) : wAt (rowsF n F) i = F i := by
  unfold wAt rowsF
  rw [List.getD_eq_getElem?_getD, List.getElem?_map, List.getElem?_range h]
  rfl
theorem rowsF_set (n : Nat) (F : Nat → Nat) (i v : Nat) : (rowsF n F).set i v = rowsF n fun j => if j = i then v else F j := by
  unfold rowsF
  apply List.ext_getElem
  · simp
  · intro j h1 h2
    rw [List.getElem_set]
    simp only [List.getElem_map, List.getElem_range]
    by_cases e : i = j
    · rw [if_pos e, if_pos e.symm]
    · rw [if_neg e, if_neg (fun h => e h.symm)]
theorem rowsF_congr {n : Nat} {F G : Nat → Nat} (h : ∀ i, i < n → F i = G i) : rowsF n F = rowsF n G := List.map_congr_left (fun i hi => h i (List.mem_range.1 hi))
theorem goes_fold (n b v : Nat) : ∀ (ys : List Nat) (F : Nat → Nat), (∀ y ∈ ys, y < n) → ys.Nodup → (gI ys).foldl (goStep b v) (gI (rowsF n F)) = gI (rowsF n fun j => if j ∈ ys then anl (F j ||| b) (2 ^ j ||| 2 ^ v) else F j)
  | [], F, _, _ => by simp [gI]
  | y :: ys, F, hy, hd => by
    have h1 := hy y List.mem_cons_self
    have hny : y ∉ ys := (List.nodup_cons.1 hd).1
    show (gI ys).foldl (goStep b v) (goStep b v (gI (rowsF n F)) (y : Int)) = _
    have e : goStep b v (gI (rowsF n F)) (y : Int) = gI (rowsF n fun j => if j = y then anl (F y ||| b) (2 ^ y ||| 2 ^ v) else F j) := by
      unfold goStep
      rw [gI_rd, rowsF_at n F y h1, Int.toNat_natCast, Int.toNat_natCast, gI_set, rowsF_set]
    rw [e, goes_fold n b v ys _ (fun z hz => hy z (List.mem_cons_of_mem _ hz)) (List.nodup_cons.1 hd).2]
    congr 1
    refine rowsF_congr (fun j hj => ?_)
    by_cases c : j = y
    · subst c
      rw [if_neg hny, if_pos rfl, if_pos List.mem_cons_self]
    · by_cases c2 : j ∈ ys
      · rw [if_pos c2, if_neg c, if_pos (List.mem_cons_of_mem _ c2)]
      · rw [if_neg c2, if_neg c, if_neg (by rw [List.mem_cons]; exact fun h => h.elim c c2)]
theorem goes9 (n : Nat) (hn : n ≤ 64) (f : Nat → Nat → Bool) (hf : Sy n f) (v : Nat) (hv : v < n) : goRows (gI (gW n f)) v = gI (gW n (goT f v)) := by
  unfold goRows
  rw [rd_gW n f v hv, Int.toNat_natCast, listN_wd hn, ofT_nbN]
  have h0 := goes_fold n (wd n (f v)) v (nbN n f v) (fun i => wd n (f i)) (fun y hy => (mem_nbN.1 hy).1) (nbN_nodup n f v)
  rw [show gW n f = rowsF n (fun i => wd n (f i)) from rfl, h0]
  show (gI _).set v ((0 : Nat) : Int) = _
  rw [gI_set, rowsF_set]
  congr 1
  show rowsF n _ = rowsF n (fun i => wd n (goT f v i))
  refine rowsF_congr (fun j hj => Nat.eq_of_testBit_eq (fun k => ?_))
  rw [wd_bit]
  by_cases c : j = v
  · subst c
    rw [if_pos rfl]
    unfold goT
    simp
  · rw [if_neg c]
    by_cases c2 : j ∈ nbN n f v
    · have hfv := (mem_nbN.1 c2).2
      rw [if_pos c2, anl_bit _ _ _ (or_lt64 (wd_64 hn _) (wd_64 hn _)) (or_lt64 (pow_lt_64 j (by omega)) (pow_lt_64 v (by omega))), Nat.testBit_or, Nat.testBit_or, wd_bit, wd_bit, pow_bit, pow_bit]
      unfold goT
      rw [hfv, decide_eq_false c, show decide (v = k) = decide (k = v) by simp [eq_comm]]
      have hjj := hf.2.1 j
      by_cases ck : j = k
      · subst ck
        rw [hjj]; simp
      · rw [decide_eq_false ck]
        cases decide (k < n) <;> cases f j k <;> cases f v k <;> cases decide (k = v) <;> rfl
    · rw [if_neg c2, wd_bit]
      have hfv : f v j = false := by
        cases h : f v j with
        | false => rfl
        | true => exact absurd (mem_nbN.2 ⟨hj, h⟩) c2
      unfold goT
      rw [hfv, decide_eq_false c]
      by_cases ck : k = v
      · subst ck
        rw [hf.1 j k, hfv]; simp
      · rw [decide_eq_false ck]
        cases f j k <;> simp
def cardC (n : Nat) (f : Nat → Nat → Bool) (left : Nat → Bool) (x : Nat) : Nat := (List.range n).countP (fun k => f x k && !left k)
theorem card9 (n : Nat) (hn : n ≤ 64) (f : Nat → Nat → Bool) (left : Nat → Bool) (x : Nat) (hx : x < n) : cardF (gI (gW n f)) (2 ^ n - 1) (wd n left) (x : Int) = -((cardC n f left x : Nat) : Int) := by
  unfold cardF cardC
  rw [rd_gW n f x hx, Int.toNat_natCast, all_wd]
  have e : wd n (f x) &&& wd n (fun _ => true) = wd n (f x) := Nat.eq_of_testBit_eq (fun i => by
    rw [Nat.testBit_and, wd_bit, wd_bit]
    cases decide (i < n) <;> simp)
  rw [e, anl_wd hn, popW_wd hn]
def wT (how : Int) (n : Nat) (f0 f : Nat → Nat → Bool) (left : Nat → Bool) (x : Int) : Int :=
  if how = 1 then ((missT n f x.toNat : Nat) : Int) else if how = 2 then ((nbN n f x.toNat).length : Int) else -((cardC n f0 left x.toNat : Nat) : Int)
def without (left : Nat → Bool) (v : Nat) : Nat → Bool := fun i => left i && !decide (v = i)
def planT (how : Int) (n : Nat) (f0 : Nat → Nat → Bool) : Nat → (Nat → Nat → Bool) → (Nat → Bool) → List Int
  | 0, _, _ => []
  | k + 1, f, left => if ofT n left = [] then [] else
      let v := (leastF (wT how n f0 f left) (ofT n left)).toNat
      (v : Int) :: planT how n f0 k (if how = 3 then f else goT f v) (without left v)
theorem mem_ofT {n : Nat} {g : Nat → Bool} {x : Int} : x ∈ ofT n g ↔ ∃ i : Nat, i < n ∧ g i = true ∧ x = (i : Int) := by
  unfold ofT
  simp only [List.mem_map, List.mem_filter, List.mem_range]
  constructor
  · rintro ⟨i, ⟨h1, h2⟩, rfl⟩; exact ⟨i, h1, h2, rfl⟩
  · rintro ⟨i, h1, h2, rfl⟩; exact ⟨i, ⟨h1, h2⟩, rfl⟩
theorem lessW_congr {g h : Int → Int} {S : List Int} (hgh : ∀ x ∈ S, g x = h x) : ∀ (xs : List Int) (b : Int), (∀ x ∈ xs, x ∈ S) → (b < 0 ∨ b ∈ S) → xs.foldl (lessW g) b = xs.foldl (lessW h) b
  | [], _, _, _ => rfl
  | x :: xs, b, hx, hb => by
    have e : lessW g b x = lessW h b x := by
      unfold lessW
      by_cases c : b < 0
      · rw [if_pos c, if_pos c]
      · rw [if_neg c, if_neg c, hgh x (hx x List.mem_cons_self), hgh b (hb.resolve_left c)]
    rw [List.foldl_cons, List.foldl_cons, e]
    refine lessW_congr hgh xs _ (fun z hz => hx z (List.mem_cons_of_mem _ hz)) ?_
    unfold lessW
    split
    · exact .inr (hx x List.mem_cons_self)
    · split
      · exact .inr (hx x List.mem_cons_self)
      · exact hb
theorem leastF_congr {g h : Int → Int} {xs : List Int} (hgh : ∀ x ∈ xs, g x = h x) : leastF g xs = leastF h xs := lessW_congr hgh xs (-1) (fun _ hx => hx) (.inl (by decide))
theorem wd_nil {n : Nat} (hn : n ≤ 64) (left : Nat → Bool) : wd n left = 0 ↔ ofT n left = [] := by
  rw [← listN_wd hn left]
  constructor
  · intro h; rw [h]; exact listN_zero
  · intro h; exact listN_nil (wd_64 hn left) h
theorem least9 {n : Nat} {left : Nat → Bool} (g : Int → Int) (h : ofT n left ≠ []) : ∃ v : Nat, v < n ∧ left v = true ∧ leastF g (ofT n left) = (v : Int) := by
  have hm := leastF_in g (ofT n left) (fun x hx => by obtain ⟨i, _, _, rfl⟩ := mem_ofT.1 hx; omega) h
  obtain ⟨i, h1, h2, h3⟩ := mem_ofT.1 hm
  exact ⟨i, h1, h2, h3⟩
theorem run9 (how : Int) (h1 : 1 ≤ how) (h3 : how ≤ 3) (n : Nat) (hn : n ≤ 64) (f0 : Nat → Nat → Bool) (hf0 : Sy n f0) : ∀ (k : Nat) (f : Nat → Nat → Bool) (left : Nat → Bool) (out : List Int), Sy n f →
    ofRun how (gI (gW n f0)) (2 ^ n - 1) k (gI (gW n f)) (wd n left) out = out ++ planT how n f0 k f left
  | 0, f, left, out, hf => by rw [ofRun, planT, List.append_nil]
  | k + 1, f, left, out, hf => by
    rw [ofRun, planT]
    by_cases c : ofT n left = []
    · rw [if_pos ((wd_nil hn left).2 c), if_pos c, List.append_nil]
    · rw [if_neg (fun h => c ((wd_nil hn left).1 h)), if_neg c, listN_wd hn]
      have e : leastF (worthF how (gI (gW n f0)) (2 ^ n - 1) (gI (gW n f)) (wd n left)) (ofT n left) = leastF (wT how n f0 f left) (ofT n left) := leastF_congr (fun x hx => by
        obtain ⟨i, hi, _, rfl⟩ := mem_ofT.1 hx
        unfold worthF wT
        rw [Int.toNat_natCast]
        by_cases c1 : how = 1
        · rw [if_pos c1, if_pos c1, missing9 n hn f hf.1 i hi]
        · rw [if_neg c1, if_neg c1]
          by_cases c2 : how = 2
          · rw [if_pos c2, if_pos c2, degree9 n hn f i hi]
          · rw [if_neg c2, if_neg c2, card9 n hn f0 left i hi])
      obtain ⟨v, hv, hlv, ev⟩ := least9 (wT how n f0 f left) c
      simp only [e, ev, Int.toNat_natCast]
      rw [anl_pow hn left v (by omega)]
      by_cases c3 : how = 3
      · rw [if_pos c3, if_pos c3]
        have := run9 how h1 h3 n hn f0 hf0 k f (without left v) (out ++ [(v : Int)]) hf
        rw [List.append_assoc] at this
        exact this
      · rw [if_neg c3, if_neg c3, goes9 n hn f hf v hv]
        have := run9 how h1 h3 n hn f0 hf0 k (goT f v) (without left v) (out ++ [(v : Int)]) (hf.go v)
        rw [List.append_assoc] at this
        exact this
def orderT (how : Int) (n : Nat) (f : Nat → Nat → Bool) : List Int := if how = 3 then (planT how n f 64 f (fun _ => true)).reverse else planT how n f 64 f (fun _ => true)
theorem good9 (n : Nat) (hn : n ≤ 64) (f : Nat → Nat → Bool) : Good (gI (gW n f)) := fun x hx => by
  unfold gI gW at hx
  rw [List.map_map] at hx
  obtain ⟨i, hi, rfl⟩ := List.mem_map.1 hx
  have hw := wd_64 hn (f i)
  refine ⟨⟨Int.natCast_nonneg _, by show ((wd n (f i) : Nat) : Int) < _; omega⟩, fun a ha => ?_⟩
  have ha2 : a ∈ listN (wd n (f i)) := ha
  rw [listN_wd hn] at ha2
  obtain ⟨j, hj, _, rfl⟩ := mem_ofT.1 ha2
  rw [gI_len, gW_len]
  omega
theorem of_ev (how : Int) (h1 : 1 ≤ how) (h3 : how ≤ 3) (n : Nat) (hn : n ≤ 40) (f : Nat → Nat → Bool) (hf : Sy n f) : Ev (fun k => order_Of.f k (gI (gW n f)) how) (orderT how n f, 0) := by
  have hw := gW_ok (show n ≤ 64 by omega) f
  have e1 := right_ev (gW n f) hw
  rw [hf.right hn] at e1
  refine evu1 e1 (fun k e => ?_)
  unfold order_Of.f
  rw [if_neg (by omega), e, Option.bind_some, if_neg (by decide), if_pos ⟨good9 n (by omega) f, by rw [gI_len, gW_len]; exact hn⟩]
  rw [gI_len, gW_len]
  have hr := run9 how h1 h3 n (by omega) f hf 64 f (fun _ => true) [] hf
  rw [← all_wd, List.nil_append] at hr
  simp only [hr]
  rfl
theorem cnt_without (left : Nat → Bool) (v : Nat) : ∀ n, (List.range n).countP left = (List.range n).countP (without left v) + (if v < n ∧ left v = true then 1 else 0)
  | 0 => by simp
  | n + 1 => by
    have ih := cnt_without left v n
    rw [List.range_succ, List.countP_append, List.countP_append, List.countP_cons, List.countP_cons, List.countP_nil, List.countP_nil, ih]
    unfold without
    by_cases c : v = n
    · subst c
      cases h : left v <;> simp
    · rw [decide_eq_false c]
      have e : (v < n + 1 ∧ left v = true) ↔ (v < n ∧ left v = true) := ⟨fun h => ⟨by omega, h.2⟩, fun h => ⟨by omega, h.2⟩⟩
      cases h : left n <;> by_cases c2 : v < n ∧ left v = true <;> simp [c2, e]
      all_goals omega
theorem ofT_count (n : Nat) (left : Nat → Bool) : (ofT n left).length = (List.range n).countP left := by unfold ofT; rw [List.length_map, List.countP_eq_length_filter]
theorem ofT_without {n : Nat} {left : Nat → Bool} {v : Nat} (hv : v < n) (hl : left v = true) : (ofT n left).length = (ofT n (without left v)).length + 1 := by
  rw [ofT_count, ofT_count, cnt_without left v n, if_pos ⟨hv, hl⟩]
theorem gone_set (n : Nat) (left : Nat → Bool) (v : Nat) : (rowT n fun i => !left i).set v true = rowT n fun i => !(without left v i) := by
  rw [rowT_set]
  refine rowT_congr (fun j hj => ?_)
  unfold without
  by_cases c : j = v
  · rw [if_pos c, decide_eq_true c.symm]; simp
  · rw [if_neg c, decide_eq_false (fun e => c e.symm)]; simp
theorem ofT_all (n : Nat) : (ofT n fun _ => true).length = n := by rw [ofT_count]; simp
theorem perm_of_in : ∀ (xs l : List Int), xs.Nodup → (∀ x ∈ xs, x ∈ l) → l.length ≤ xs.length → l.Perm xs
  | [], l, _, _, h => by
    have : l = [] := List.eq_nil_of_length_eq_zero (by simpa using h)
    rw [this]
  | x :: xs, l, hd, hin, hl => by
    have hx : x ∈ l := hin x List.mem_cons_self
    have h1 : l.Perm (x :: l.erase x) := List.perm_cons_erase hx
    have hlen := h1.length_eq
    have h2 := perm_of_in xs (l.erase x) (List.nodup_cons.1 hd).2 (fun y hy => by
      have hne : y ≠ x := fun e => (List.nodup_cons.1 hd).1 (e ▸ hy)
      exact (List.mem_erase_of_ne hne).2 (hin y (List.mem_cons_of_mem _ hy))) (by simp at hlen hl ⊢; omega)
    exact h1.trans (h2.cons x)
def validB (n : Nat) (l : List Int) : Bool := decide (l.length = n ∧ ∀ v, v < n → l.count (v : Int) = 1)
theorem idI_count (n v : Nat) (h : v < n) : (idI n).count (v : Int) = 1 := List.Nodup.count (idI_nodup n) |>.trans (if_pos (mem_idI.2 ⟨v, h, rfl⟩))
theorem validB_perm (n : Nat) (l : List Int) : validB n l = true ↔ l.Perm (idI n) := by
  unfold validB
  rw [decide_eq_true_iff]
  constructor
  · rintro ⟨h1, h2⟩
    refine perm_of_in (idI n) l (idI_nodup n) (fun x hx => ?_) (by rw [idI_len]; omega)
    obtain ⟨v, hv, rfl⟩ := mem_idI.1 hx
    exact List.count_pos_iff.1 (by rw [h2 v hv]; decide)
  · intro h
    exact ⟨by rw [h.length_eq, idI_len], fun v hv => by rw [h.count_eq, idI_count n v hv]⟩
theorem chkN_iff : ∀ (l : List Int) (i : Nat), chkN i l = true ↔ l = (List.range' i l.length).map fun (k : Nat) => (k : Int)
  | [], i => by simp [chkN]
  | x :: l, i => by
    rw [chkN, List.length_cons, List.range'_succ, List.map_cons]
    by_cases c : (i : Int) = x
    · rw [if_pos c, chkN_iff l (i + 1)]
      constructor
      · intro h; rw [← h, c]
      · intro h; exact (List.cons.inj h).2
    · rw [if_neg c]
      constructor
      · intro h; cases h
      · intro h; exact absurd (List.cons.inj h).1.symm c
theorem idI_sorted (n : Nat) : (idI n).Pairwise (· ≤ ·) := by
  unfold idI
  rw [List.pairwise_map]
  exact List.pairwise_lt_range.imp (fun h => by omega)
theorem chk_perm (l : List Int) : chkN 0 (SortedSeq.sortZ l) = true ↔ l.Perm (idI l.length) := by
  rw [chkN_iff, SortedSeq.sortZ_len, ← List.range_eq_range']
  constructor
  · intro h
    have hp := (SortedSeq.sortZ_perm l).symm
    have e : SortedSeq.sortZ l = idI l.length := h
    rw [e] at hp
    exact hp
  · intro h
    exact SortedSeq.sortZ_uniq ((SortedSeq.sortZ_perm l).trans h) (SortedSeq.sortZ_sorted l) (idI_sorted _)
theorem pvalid_f (n : Nat) (l : List Int) (hl : l.length < 17592186043904) : order_Valid.f (n : Int) l = some (validB n l) := by
  unfold order_Valid.f
  by_cases c : l.length = n
  · rw [if_pos (by omega), if_pos hl]
    congr 1
    have h1 := chk_perm l
    rw [c] at h1
    have h2 := validB_perm n l
    rw [Bool.eq_iff_iff, h1, h2]
  · rw [if_neg (by omega)]
    congr 1
    unfold validB
    rw [decide_eq_false (fun h => c h.1)]
def cntV (l : List Int) (v : Int) (j : Nat) : Nat := (l.take j).count v
theorem cntV_succ (l : List Int) (v : Int) (j : Nat) (h : j < l.length) : cntV l v (j + 1) = cntV l v j + if rd l (j : Int) = v then 1 else 0 := by
  unfold cntV
  rw [List.take_succ_eq_append_getElem h, List.count_append, rd_nat l j _ (List.getElem?_eq_getElem h), List.count_singleton]
  by_cases c : l[j] = v
  · rw [if_pos c, if_pos (by simpa using c)]
  · rw [if_neg c, if_neg (by simpa using c)]
theorem cntV_le (l : List Int) (v : Int) (j : Nat) : cntV l v j ≤ j := Nat.le_trans List.count_le_length (by simp; omega)
theorem rvalid_l1 (n : Nat) (hn : n ≤ 1000000) (l : List Int) (hl : l.length = n) (v : Nat) (R : Bool) (H : Ev (fun k => arboristref09_Valid.l1 k (n : Int) l (v : Int) ((cntV l (v : Int) n : Nat) : Int) (n : Int)) R) (d : Nat) :
    ∀ j, j + d = n → Ev (fun k => arboristref09_Valid.l1 k (n : Int) l (v : Int) ((cntV l (v : Int) j : Nat) : Int) (j : Int)) R := by
  induction d with
  | zero =>
    intro j h
    obtain rfl : j = n := by omega
    exact H
  | succ d ih =>
    intro j h
    have hr := ih (j + 1) (by omega)
    rw [cntV_succ l _ j (by omega)] at hr
    have hc := cntV_le l (v : Int) j
    refine evp hr (fun k e => ?_)
    rw [arboristref09_Valid.l1, if_pos (by omega), if_pos (by omega), if_pos (by omega), wrap_nat j (by omega)]
    by_cases c : rd l (j : Int) = (v : Int)
    · rw [if_pos c, wrap_nat _ (by omega)]; rw [if_pos c] at e; exact e
    · rw [if_neg c]; rw [if_neg c, Nat.add_zero] at e; exact e
theorem rvalid_l0 (n : Nat) (hn : n ≤ 1000000) (l : List Int) (hl : l.length = n) (d : Nat) : ∀ v, v + d = n → Ev (fun k => arboristref09_Valid.l0 k (n : Int) l (v : Int)) ((List.range' v (n - v)).all fun x => decide (l.count (x : Int) = 1)) := by
  induction d with
  | zero =>
    intro v h
    obtain rfl : v = n := by omega
    rw [Nat.sub_self]
    exact evs0 (fun k => by rw [arboristref09_Valid.l0, if_neg (by omega)]; rfl)
  | succ d ih =>
    intro v h
    have hcv : cntV l (v : Int) n = l.count (v : Int) := by unfold cntV; rw [← hl, List.take_length]
    rw [show n - v = (n - (v + 1)) + 1 by omega, List.range'_succ, List.all_cons]
    refine evp (rvalid_l1 n hn l hl v ((decide (l.count (v : Int) = 1)) && ((List.range' (v + 1) (n - (v + 1))).all fun x => decide (l.count (x : Int) = 1))) ?_ n 0 (by omega)) (fun k e => ?_)
    · by_cases c : l.count (v : Int) = 1
      · rw [decide_eq_true c, Bool.true_and]
        refine evp (ih (v + 1) (by omega)) (fun k e => ?_)
        rw [arboristref09_Valid.l1, if_neg (by omega), hcv, if_pos (by omega), wrap_nat v (by omega)]
        exact e
      · rw [decide_eq_false c, Bool.false_and]
        exact evs0 (fun k => by rw [arboristref09_Valid.l1, if_neg (by omega), hcv, if_neg (by omega)])
    · rw [arboristref09_Valid.l0, if_pos (by omega)]
      have hz : cntV l (v : Int) 0 = 0 := by unfold cntV; simp
      rw [hz] at e
      exact e
theorem rvalid_ev (n : Nat) (hn : n ≤ 1000000) (l : List Int) : Ev (fun k => arboristref09_Valid.f k (n : Int) l) (validB n l) := by
  by_cases c : l.length = n
  · have e : validB n l = ((List.range' 0 (n - 0)).all fun x => decide (l.count (x : Int) = 1)) := by
      unfold validB
      rw [Nat.sub_zero, ← List.range_eq_range', Bool.eq_iff_iff, decide_eq_true_iff, List.all_eq_true]
      constructor
      · rintro ⟨_, h⟩ x hx; exact decide_eq_true (h x (List.mem_range.1 hx))
      · intro h; exact ⟨c, fun v hv => of_decide_eq_true (h v (List.mem_range.2 hv))⟩
    rw [e]
    refine evu1 (rvalid_l0 n hn l c n 0 (by omega)) (fun k e => ?_)
    rw [arboristref09_Valid.f, if_pos (by omega)]
    exact e
  · have e : validB n l = false := decide_eq_false (fun h => c h.1)
    rw [e]
    exact evu0 (fun k => by rw [arboristref09_Valid.f, if_neg (by omega)])
theorem validB_of {n : Nat} {l : List Int} (h : l.Perm (idI n)) : validB n l = true := (validB_perm n l).2 h
theorem ofT_nodup (n : Nat) (g : Nat → Bool) : (ofT n g).Nodup := by
  unfold ofT
  rw [List.Nodup, List.pairwise_map]
  exact (List.Nodup.sublist List.filter_sublist List.nodup_range).imp (fun h e => h (by omega))
theorem ofT_id (n : Nat) : (ofT n fun _ => true) = idI n := by unfold ofT idI; rw [List.filter_eq_self.2 (fun _ _ => rfl)]
theorem ofT_perm {n : Nat} {left : Nat → Bool} {v : Nat} (hv : v < n) (hl : left v = true) : ((v : Int) :: ofT n (without left v)).Perm (ofT n left) := by
  refine (perm_of_in ((v : Int) :: ofT n (without left v)) (ofT n left) (List.nodup_cons.2 ⟨fun h => ?_, ofT_nodup n _⟩) (fun x hx => ?_) (by rw [List.length_cons, ofT_without hv hl]; exact Nat.le_refl _)).symm
  · obtain ⟨i, _, h2, h3⟩ := mem_ofT.1 h
    obtain rfl : v = i := by omega
    unfold without at h2
    simp at h2
  · rcases List.mem_cons.1 hx with rfl | hx
    · exact mem_ofT.2 ⟨v, hv, hl, rfl⟩
    · obtain ⟨i, h1, h2, rfl⟩ := mem_ofT.1 hx
      unfold without at h2
      rw [Bool.and_eq_true] at h2
      exact mem_ofT.2 ⟨i, h1, h2.1, rfl⟩
theorem planT_perm (how : Int) (n : Nat) (f0 : Nat → Nat → Bool) : ∀ (k : Nat) (f : Nat → Nat → Bool) (left : Nat → Bool), (ofT n left).length ≤ k → (planT how n f0 k f left).Perm (ofT n left)
  | 0, f, left, h => by
    rw [planT, List.eq_nil_of_length_eq_zero (Nat.le_zero.1 h)]
  | k + 1, f, left, h => by
    rw [planT]
    by_cases c : ofT n left = []
    · rw [if_pos c, c]
    · rw [if_neg c]
      obtain ⟨v, hv, hlv, ev⟩ := least9 (wT how n f0 f left) c
      simp only [ev, Int.toNat_natCast]
      have hc := ofT_without hv hlv
      exact ((planT_perm how n f0 k _ (without left v) (by omega)).cons _).trans (ofT_perm hv hlv)
theorem orderT_perm (how : Int) (n : Nat) (hn : n ≤ 64) (f : Nat → Nat → Bool) : (orderT how n f).Perm (idI n) := by
  have h := planT_perm how n f 64 f (fun _ => true) (by rw [ofT_all]; exact hn)
  rw [ofT_id] at h
  unfold orderT
  by_cases c : how = 3
  · rw [if_pos c]; exact (List.reverse_perm _).trans h
  · rw [if_neg c]; exact h
theorem lessW_least (g : Int → Int) : ∀ (xs : List Int) (b : Int), 0 ≤ b → (∀ x ∈ xs, b < x) → xs.Pairwise (· < ·) →
    (g (xs.foldl (lessW g) b) < g b ∨ xs.foldl (lessW g) b = b) ∧ ∀ y ∈ xs, g (xs.foldl (lessW g) b) ≤ g y ∧ (g y = g (xs.foldl (lessW g) b) → xs.foldl (lessW g) b ≤ y)
  | [], b, _, _, _ => ⟨.inr rfl, fun y hy => by cases hy⟩
  | x :: xs, b, h0, hb, hp => by
    rw [List.foldl_cons]
    have hbx := hb x List.mem_cons_self
    have hpx := List.pairwise_cons.1 hp
    by_cases c : g x < g b
    · have e : lessW g b x = x := by unfold lessW; rw [if_neg (by omega), if_pos c]
      rw [e]
      obtain ⟨h1, h2⟩ := lessW_least g xs x (by omega) hpx.1 hpx.2
      refine ⟨.inl ?_, fun y hy => ?_⟩
      · rcases h1 with h1 | h1
        · omega
        · rw [h1]; exact c
      · rcases List.mem_cons.1 hy with rfl | hy
        · rcases h1 with h1 | h1
          · exact ⟨by omega, fun e => by omega⟩
          · rw [h1]; exact ⟨Int.le_refl _, fun _ => Int.le_refl _⟩
        · exact h2 y hy
    · have e : lessW g b x = b := by unfold lessW; rw [if_neg (by omega), if_neg c]
      rw [e]
      obtain ⟨h1, h2⟩ := lessW_least g xs b h0 (fun y hy => hb y (List.mem_cons_of_mem _ hy)) hpx.2
      refine ⟨h1, fun y hy => ?_⟩
      rcases List.mem_cons.1 hy with rfl | hy
      · rcases h1 with h1 | h1
        · exact ⟨by omega, fun e => by omega⟩
        · rw [h1]; exact ⟨by omega, fun _ => by omega⟩
      · exact h2 y hy
theorem leastF_least (g : Int → Int) (xs : List Int) (h0 : ∀ x ∈ xs, 0 ≤ x) (hp : xs.Pairwise (· < ·)) : ∀ y ∈ xs, g (leastF g xs) ≤ g y ∧ (g y = g (leastF g xs) → leastF g xs ≤ y) := by
  intro y hy
  cases xs with
  | nil => cases hy
  | cons x xs =>
    have e : leastF g (x :: xs) = xs.foldl (lessW g) x := by
      unfold leastF
      rw [List.foldl_cons]
      have : lessW g (-1) x = x := by unfold lessW; rw [if_pos (by decide)]
      rw [this]
    rw [e]
    have hpx := List.pairwise_cons.1 hp
    obtain ⟨h1, h2⟩ := lessW_least g xs x (h0 x List.mem_cons_self) hpx.1 hpx.2
    rcases List.mem_cons.1 hy with rfl | hy
    · rcases h1 with h1 | h1
      · exact ⟨by omega, fun e => by omega⟩
      · rw [h1]; exact ⟨Int.le_refl _, fun _ => Int.le_refl _⟩
    · exact h2 y hy
theorem ofT_rising (n : Nat) (g : Nat → Bool) : (ofT n g).Pairwise (· < ·) := by
  unfold ofT
  rw [List.pairwise_map]
  exact (List.Pairwise.sublist List.filter_sublist List.pairwise_lt_range).imp (fun h => by omega)
theorem ofT_nn {n : Nat} {g : Nat → Bool} {x : Int} (h : x ∈ ofT n g) : 0 ≤ x := by
  obtain ⟨i, _, _, rfl⟩ := mem_ofT.1 h
  omega
end Go.Proofs.YtopjffgmpphdbaaDoor.Pr
set_option linter.unusedVariables false
set_option linter.unusedSimpArgs false
namespace Go.Proofs.YtopjffgmpphdbaaDoor.Mcs
structure Gr (n : Nat) (A : Nat → Nat → Bool) : Prop where
  sym : ∀ i k, A i k = A k i
  irr : ∀ i, A i i = false
  rng : ∀ i k, A i k = true → i < n ∧ k < n
def Late (A : Nat → Nat → Bool) (pos : Nat → Nat) : Prop := ∀ v a b, pos v < pos a → pos v < pos b → A v a = true → A v b = true → a ≠ b → A a b = true
structure Way (A : Nat → Nat → Bool) (p : Nat → Nat) (m : Nat) : Prop where
  beside : ∀ i k, i ≤ m → k ≤ m → (A (p i) (p k) = true ↔ (k = i + 1 ∨ i = k + 1))
  once : ∀ i k, i ≤ m → k ≤ m → p i = p k → i = k
theorem ex_min (g : Nat → Nat) : ∀ N, ∃ i, i ≤ N ∧ ∀ k, k ≤ N → g i ≤ g k
  | 0 => ⟨0, Nat.le_refl _, fun k hk => by obtain rfl : k = 0 := by omega
                                           exact Nat.le_refl _⟩
  | N + 1 => by
    obtain ⟨i, hi, h⟩ := ex_min g N
    by_cases c : g i ≤ g (N + 1)
    · refine ⟨i, by omega, fun k hk => ?_⟩
      by_cases e : k = N + 1
      · rw [e]; exact c
      · exact h k (by omega)
    · refine ⟨N + 1, Nat.le_refl _, fun k hk => ?_⟩
      by_cases e : k = N + 1
      · rw [e]; exact Nat.le_refl _
      · have := h k (by omega); omega
theorem no_ring {n : Nat} {A : Nat → Nat → Bool} (hA : Gr n A) (pos : Nat → Nat) (hp : ∀ x y, x < n → y < n → pos x = pos y → x = y) (hL : Late A pos) (p : Nat → Nat) (m : Nat) (hm : 2 ≤ m) (hw : Way A p m) (d : Nat)
    (h0 : A d (p 0) = true) (hdm : A d (p m) = true) (hdi : ∀ i, 0 < i → i < m → A d (p i) = false) (hne : ∀ i, i ≤ m → d ≠ p i) : False := by
  obtain ⟨i, hi, hmin⟩ := ex_min (fun i => pos (p i)) m
  have hdn : d < n := (hA.rng _ _ h0).1
  have hpn : ∀ k, k ≤ m → p k < n := fun k hk => by
    by_cases c : k = m
    · rw [c]; exact (hA.rng _ _ hdm).2
    · exact (hA.rng (p k) (p (k + 1)) ((hw.beside k (k + 1) hk (by omega)).2 (.inl rfl))).1
  have hlt : ∀ k, k ≤ m → k ≠ i → pos (p i) < pos (p k) := fun k hk hki => by
    have h1 : pos (p i) ≤ pos (p k) := hmin k hk
    have h2 : pos (p i) ≠ pos (p k) := fun e => hki (hw.once i k hi hk (hp _ _ (hpn i hi) (hpn k hk) e)).symm
    omega
  have b : ∀ k, k ≤ m → (k + 1 = i ∨ k = i + 1) → A (p i) (p k) = true := fun k hk h => (hw.beside i k hi hk).2 (by omega)
  by_cases hd : pos d < pos (p i)
  · have h1 := hL d (p 0) (p m) (Nat.lt_of_lt_of_le hd (hmin 0 (by omega))) (Nat.lt_of_lt_of_le hd (hmin m (Nat.le_refl m))) h0 hdm (fun e => by have := hw.once 0 m (by omega) (Nat.le_refl m) e; omega)
    have h2 := (hw.beside 0 m (by omega) (Nat.le_refl m)).1 h1
    omega
  · have hd2 : pos (p i) < pos d := by
      have h2 : pos (p i) ≠ pos d := fun e => hne i hi (hp _ _ (hpn i hi) hdn e).symm
      omega
    by_cases c0 : i = 0
    · have h1 := hL (p i) (p 1) d (hlt 1 (by omega) (by omega)) hd2 (b 1 (by omega) (by omega)) (by rw [hA.sym, c0]; exact h0) (fun e => hne 1 (by omega) e.symm)
      rw [hA.sym, hdi 1 (by omega) (by omega)] at h1
      cases h1
    · by_cases cm : i = m
      · have h1 := hL (p i) (p (m - 1)) d (hlt (m - 1) (by omega) (by omega)) hd2 (b (m - 1) (by omega) (by omega)) (by rw [hA.sym, cm]; exact hdm) (fun e => hne (m - 1) (by omega) e.symm)
        rw [hA.sym, hdi (m - 1) (by omega) (by omega)] at h1
        cases h1
      · have h1 := hL (p i) (p (i - 1)) (p (i + 1)) (hlt (i - 1) (by omega) (by omega)) (hlt (i + 1) (by omega) (by omega)) (b (i - 1) (by omega) (by omega)) (b (i + 1) (by omega) (by omega)) (fun e => by have := hw.once (i - 1) (i + 1) (by omega) (by omega) e; omega)
        have h2 := (hw.beside (i - 1) (i + 1) (by omega) (by omega)).1 h1
        omega
def Most (A : Nat → Nat → Bool) (n : Nat) (c : Nat → Nat) : Prop := ∀ x y z, z < n → y < n → c x < c y → c y < c z → A x z = true → A x y = false → ∃ d, c d < c y ∧ A d y = true ∧ A d z = false
theorem ex_first (q : Nat → Bool) (a : Nat) : ∀ N, a ≤ N → q N = true → ∃ j, a ≤ j ∧ j ≤ N ∧ q j = true ∧ ∀ k, a ≤ k → k < j → q k = false := by
  intro N
  induction N using Nat.strongRecOn with
  | ind N ih =>
    intro ha hq
    by_cases c : ∃ k, a ≤ k ∧ k < N ∧ q k = true
    · obtain ⟨k, h1, h2, h3⟩ := c
      obtain ⟨j, j1, j2, j3, j4⟩ := ih k h2 h1 h3
      exact ⟨j, j1, by omega, j3, j4⟩
    · refine ⟨N, ha, Nat.le_refl _, hq, fun k h1 h2 => ?_⟩
      cases h : q k with
      | false => rfl
      | true => exact absurd ⟨k, h1, h2, h⟩ c
theorem way_back {A : Nat → Nat → Bool} {p : Nat → Nat} {m : Nat} (h : Way A p m) : Way A (fun i => p (m - i)) m :=
  ⟨fun i k hi hk => by
    have := h.beside (m - i) (m - k) (by omega) (by omega)
    rw [this]
    omega, fun i k hi hk e => by
    have := h.once (m - i) (m - k) (by omega) (by omega) e
    omega⟩
theorem no_way {n : Nat} {A : Nat → Nat → Bool} (hA : Gr n A) (pos : Nat → Nat) (hp : ∀ x y, x < n → y < n → pos x = pos y → x = y) (hL : Late A pos) (c : Nat → Nat) (hc : ∀ x y, x < n → y < n → c x = c y → x = y) (hM : Most A n c) :
    ∀ (N : Nat) (p : Nat → Nat) (m : Nat), 2 ≤ m → Way A p m → (∀ i, 0 < i → i < m → c (p m) < c (p i)) → c (p 0) < c (p m) → c (p m) = N → False := by
  intro N
  induction N using Nat.strongRecOn with
  | ind N ih =>
    intro p m hm hw hi h0 hN
    have hpn : ∀ k, k ≤ m → p k < n := fun k hk => by
      by_cases e : k = m
      · rw [e]; exact (hA.rng (p (m - 1)) (p m) ((hw.beside (m - 1) m (by omega) (Nat.le_refl m)).2 (by omega))).2
      · exact (hA.rng (p k) (p (k + 1)) ((hw.beside k (k + 1) hk (by omega)).2 (.inl rfl))).1
    have e0m : A (p 0) (p m) = false := by
      cases h : A (p 0) (p m) with
      | false => rfl
      | true => have := (hw.beside 0 m (by omega) (Nat.le_refl m)).1 h; omega
    obtain ⟨d, d1, d2, d3⟩ := hM (p 0) (p m) (p 1) (hpn 1 (by omega)) (hpn m (Nat.le_refl m)) h0 (hi 1 (by omega) (by omega)) ((hw.beside 0 1 (by omega) (by omega)).2 (.inl rfl)) e0m
    have hdn : d < n := (hA.rng _ _ d2).1
    obtain ⟨j, j1, j2, j3, j4⟩ := ex_first (fun j => A d (p j)) 1 m (by omega) d2
    have hj2 : 2 ≤ j := by
      rcases Nat.lt_or_ge j 2 with h | h
      · obtain rfl : j = 1 := by omega
        simp only [d3] at j3
        cases j3
      · exact h
    have hne : ∀ i, i ≤ m → d ≠ p i := fun i him e => by
      by_cases e0 : i = 0
      · rw [e, e0, e0m] at d2; cases d2
      · by_cases em : i = m
        · rw [e, em, hA.irr] at d2; cases d2
        · have := hi i (by omega) (by omega); rw [← e] at this; omega
    have hwj : Way A p j := ⟨fun i k h1 h2 => hw.beside i k (by omega) (by omega), fun i k h1 h2 => hw.once i k (by omega) (by omega)⟩
    have hjm : ∀ i, 0 < i → i ≤ j → c (p m) ≤ c (p i) := fun i h1 h2 => by
      by_cases e : i = m
      · rw [e]; exact Nat.le_refl _
      · exact Nat.le_of_lt (hi i h1 (by omega))
    cases hd0 : A d (p 0) with
    | true => exact no_ring hA pos hp hL p j hj2 hwj d hd0 j3 (fun i h1 h2 => j4 i (by omega) h2) (fun i h => hne i (by omega))
    | false =>
      have hq : Way A (fun i => if i ≤ j then p i else d) (j + 1) := by
        have key : ∀ i, i ≤ j → (A d (p i) = true ↔ i = j) := fun i h => by
          constructor
          · intro h1
            rcases Nat.eq_zero_or_pos i with e | e
            · rw [e, hd0] at h1; cases h1
            · rcases Nat.lt_or_ge i j with h2 | h2
              · have h3 : A d (p i) = false := j4 i (by omega) h2
                rw [h3] at h1; cases h1
              · omega
          · rintro rfl; exact j3
        refine ⟨fun i k h1 h2 => ?_, fun i k h1 h2 => ?_⟩
        · by_cases a1 : i ≤ j
          · by_cases a2 : k ≤ j
            · simp only [if_pos a1, if_pos a2]; exact hwj.beside i k a1 a2
            · simp only [if_pos a1, if_neg a2]
              rw [hA.sym, key i a1]; omega
          · by_cases a2 : k ≤ j
            · simp only [if_neg a1, if_pos a2]
              rw [key k a2]; omega
            · simp only [if_neg a1, if_neg a2]
              rw [hA.irr]
              constructor
              · intro h; cases h
              · intro h; omega
        · by_cases a1 : i ≤ j
          · by_cases a2 : k ≤ j
            · simp only [if_pos a1, if_pos a2]; exact hwj.once i k a1 a2
            · simp only [if_pos a1, if_neg a2]
              intro e; exact absurd e.symm (hne i (by omega))
          · by_cases a2 : k ≤ j
            · simp only [if_neg a1, if_pos a2]
              intro e; exact absurd e (hne k (by omega))
            · intro _; omega
      have hcd : c (p 0) ≠ c d := fun e => hne 0 (by omega) (hc _ _ (hpn 0 (by omega)) hdn e).symm
      rcases Nat.lt_or_ge (c (p 0)) (c d) with h | h
      · refine ih (c d) (by omega) (fun i => if i ≤ j then p i else d) (j + 1) (by omega) hq (fun i h1 h2 => ?_) ?_ ?_
        · simp only [if_neg (show ¬ j + 1 ≤ j by omega), if_pos (show i ≤ j by omega)]
          have := hjm i h1 (by omega); omega
        · simp only [if_neg (show ¬ j + 1 ≤ j by omega), if_pos (Nat.zero_le j)]
          exact h
        · simp only [if_neg (show ¬ j + 1 ≤ j by omega)]
      · refine ih (c (p 0)) (by omega) (fun i => (fun i => if i ≤ j then p i else d) (j + 1 - i)) (j + 1) (by omega) (way_back hq) (fun i h1 h2 => ?_) ?_ ?_
        · simp only [Nat.sub_self, if_pos (Nat.zero_le j), if_pos (show j + 1 - i ≤ j by omega)]
          have := hjm (j + 1 - i) (by omega) (by omega); omega
        · simp only [Nat.sub_self, if_pos (Nat.zero_le j), Nat.sub_zero, if_neg (show ¬ j + 1 ≤ j by omega)]
          omega
        · simp only [Nat.sub_self, if_pos (Nat.zero_le j)]
theorem mcs {n : Nat} {A : Nat → Nat → Bool} (hA : Gr n A) (pos : Nat → Nat) (hp : ∀ x y, x < n → y < n → pos x = pos y → x = y) (hL : Late A pos) (c : Nat → Nat) (hc : ∀ x y, x < n → y < n → c x = c y → x = y) (hM : Most A n c)
    (v a b : Nat) (ha : c a < c v) (hb : c b < c v) (hva : A v a = true) (hvb : A v b = true) (hab : a ≠ b) : A a b = true := by
  cases h : A a b with
  | true => rfl
  | false =>
    exfalso
    have main : ∀ a b, c a < c v → c b < c v → A v a = true → A v b = true → a ≠ b → A a b = false → c a < c b → False := by
      intro a b ha hb hva hvb hab h hlt
      have hne1 : a ≠ v := fun e => by rw [e, hA.irr] at hva; cases hva
      have hne2 : b ≠ v := fun e => by rw [e, hA.irr] at hvb; cases hvb
      refine no_way hA pos hp hL c hc hM (c b) (fun i => if i = 0 then a else if i = 1 then v else b) 2 (Nat.le_refl 2) ⟨fun i k hi hk => ?_, fun i k hi hk => ?_⟩ (fun i h1 h2 => ?_) hlt rfl
      · obtain rfl | rfl | rfl : i = 0 ∨ i = 1 ∨ i = 2 := by omega
        all_goals obtain rfl | rfl | rfl : k = 0 ∨ k = 1 ∨ k = 2 := by omega
        all_goals simp [hA.irr, hva, hvb, h, hA.sym a v, hA.sym b v, hA.sym b a]
      · obtain rfl | rfl | rfl : i = 0 ∨ i = 1 ∨ i = 2 := by omega
        all_goals obtain rfl | rfl | rfl : k = 0 ∨ k = 1 ∨ k = 2 := by omega
        all_goals simp [hab, hne1, hne2, Ne.symm hab, Ne.symm hne1, Ne.symm hne2]
      · obtain rfl : i = 1 := by omega
        simpa using hb
    rcases Nat.lt_or_ge (c a) (c b) with hlt | hge
    · exact main a b ha hb hva hvb hab h hlt
    · have hne : c a ≠ c b := fun e => hab (hc _ _ (hA.rng _ _ hva).2 (hA.rng _ _ hvb).2 e)
      exact main b a hb ha hvb hva (Ne.symm hab) (by rw [hA.sym]; exact h) (by omega)
end Go.Proofs.YtopjffgmpphdbaaDoor.Mcs
set_option linter.unusedVariables false
set_option linter.unusedSimpArgs false
namespace Go.Proofs.YtopjffgmpphdbaaDoor.Pr
open Go.RowKit Go.Proofs.YtopjffgmpphdbaaDoorW.PrintWords Go.Proofs.YtopjffgmpphdbaaDoorW.PrintLast Go.Proofs.YtopjffgmpphdbaaDoorW.PrintMore
theorem Sy.gr {n : Nat} {f : Nat → Nat → Bool} (h : Sy n f) : Mcs.Gr n f := ⟨h.1, h.2.1, h.2.2⟩
def rst (f : Nat → Nat → Bool) (left : Nat → Bool) : Nat → Nat → Bool := fun p q => f p q && (left p && left q)
theorem rst_all (f : Nat → Nat → Bool) : rst f (fun _ => true) = f := by funext p q; unfold rst; simp
theorem rst_iff (f : Nat → Nat → Bool) (left : Nat → Bool) (p q : Nat) : rst f left p q = true ↔ f p q = true ∧ left p = true ∧ left q = true := by unfold rst; simp
theorem Sy.rst {n : Nat} {f : Nat → Nat → Bool} (h : Sy n f) (left : Nat → Bool) : Sy n (rst f left) := by
  refine ⟨fun p q => ?_, fun p => ?_, fun p q e => h.2.2 p q ((rst_iff _ _ _ _).1 e).1⟩
  · unfold Pr.rst; rw [h.1 p q, Bool.and_comm (left p)]
  · unfold Pr.rst; rw [h.2.1 p]; rfl
theorem without_iff (left : Nat → Bool) (v k : Nat) : without left v k = true ↔ left k = true ∧ v ≠ k := by unfold without; simp
theorem rst_go {n : Nat} {f : Nat → Nat → Bool} (hf : Sy n f) (left : Nat → Bool) (v : Nat) (h : ∀ a b, without left v a = true → without left v b = true → f v a = true → f v b = true → a ≠ b → f a b = true) : goT (rst f left) v = rst f (without left v) := by
  funext p q
  rw [Bool.eq_iff_iff, rst_iff, without_iff, without_iff]
  unfold goT
  simp only [Bool.and_eq_true, Bool.or_eq_true, Bool.not_eq_true', decide_eq_false_iff_not, rst_iff]
  constructor
  · rintro ⟨h1, h2, (⟨h3, h4, h5⟩ | ⟨⟨h3, h4, h5⟩, ⟨h6, h7, h8⟩, h9⟩)⟩
    · exact ⟨h3, ⟨h4, Ne.symm h1⟩, ⟨h5, Ne.symm h2⟩⟩
    · exact ⟨h p q ((without_iff _ _ _).2 ⟨h5, Ne.symm h1⟩) ((without_iff _ _ _).2 ⟨h8, Ne.symm h2⟩) h3 h6 h9, ⟨h5, Ne.symm h1⟩, ⟨h8, Ne.symm h2⟩⟩
  · rintro ⟨h1, ⟨h2, h3⟩, ⟨h4, h5⟩⟩
    exact ⟨Ne.symm h3, Ne.symm h5, .inl ⟨h1, h2, h4⟩⟩
def Simp (f : Nat → Nat → Bool) : List Int → Prop
  | [] => True
  | v :: L => (∀ a ∈ L, ∀ b ∈ L, f v.toNat a.toNat = true → f v.toNat b.toNat = true → a ≠ b → f a.toNat b.toNat = true) ∧ Simp f L
theorem simp_of (f : Nat → Nat → Bool) : ∀ L : List Int, (∀ i, i < L.length → ∀ a ∈ L.drop (i + 1), ∀ b ∈ L.drop (i + 1), f (rd L (i : Int)).toNat a.toNat = true → f (rd L (i : Int)).toNat b.toNat = true → a ≠ b → f a.toNat b.toNat = true) → Simp f L
  | [], _ => trivial
  | v :: L, h => by
    refine ⟨fun a ha b hb => h 0 (by simp) a ha b hb, simp_of f L (fun i hi a ha b hb => ?_)⟩
    have h2 := h (i + 1) (by simp; omega) a ha b hb
    have e : rd (v :: L) ((i + 1 : Nat) : Int) = rd L (i : Int) := by
      rw [rd_nat (v :: L) (i + 1) (L[i]) (by simp [hi]), rd_nat L i _ (List.getElem?_eq_getElem hi)]
    rw [e] at h2
    exact h2
theorem ms_zero_iff (f : Nat → Nat → Bool) (l : List Nat) : ∀ i, i ≤ l.length → (ms f l i = 0 ↔ ∀ p q, q < p → p < i → f (wAt l p) (wAt l q) = true)
  | 0, _ => ⟨fun _ p q _ h => by omega, fun _ => rfl⟩
  | i + 1, hi => by
    have ih := ms_zero_iff f l i (by omega)
    have hc : cntP f l i i = 0 ↔ ∀ q, q < i → f (wAt l i) (wAt l q) = true := by
      unfold cntP
      rw [List.countP_eq_zero]
      constructor
      · intro h q hq
        have h2 := h (wAt l q) (by
          rw [wAt_get l q (by omega)]
          have : (l.take i)[q]'(by rw [List.length_take]; omega) = l[q] := List.getElem_take
          rw [← this]
          exact List.getElem_mem _)
        simpa using h2
      · intro h b hb
        obtain ⟨q, hq, rfl⟩ := List.getElem_of_mem hb
        rw [List.length_take] at hq
        rw [List.getElem_take]
        have := h q (by omega)
        rw [wAt_get l q (by omega)] at this
        rw [this]; decide
    rw [ms]
    constructor
    · intro h p q h1 h2
      by_cases c : p = i
      · rw [c]; exact hc.1 (by omega) q (by omega)
      · exact ih.1 (by omega) p q h1 (by omega)
    · intro h
      have a := ih.2 (fun p q h1 h2 => h p q h1 (by omega))
      have b := hc.2 (fun q hq => h i q hq (by omega))
      omega
theorem missT_zero {n : Nat} {f : Nat → Nat → Bool} (hf : Sy n f) (v : Nat) : missT n f v = 0 ↔ ∀ a b, f v a = true → f v b = true → a ≠ b → f a b = true := by
  unfold missT
  rw [ms_zero_iff _ _ _ (Nat.le_refl _)]
  have hnd := nbN_nodup n f v
  constructor
  · intro h a b ha hb hab
    obtain ⟨p, hp, ep⟩ := List.getElem_of_mem (mem_nbN.2 ⟨(hf.2.2 _ _ ha).2, ha⟩)
    obtain ⟨q, hq, eq⟩ := List.getElem_of_mem (mem_nbN.2 ⟨(hf.2.2 _ _ hb).2, hb⟩)
    rcases Nat.lt_trichotomy p q with c | c | c
    · have := h q p c hq
      rw [wAt_get _ _ hq, wAt_get _ _ hp, ep, eq] at this
      rw [hf.1]; exact this
    · subst c; exact absurd (ep.symm.trans eq) hab
    · have := h p q c hp
      rw [wAt_get _ _ hq, wAt_get _ _ hp, ep, eq] at this
      exact this
  · intro h p q h1 h2
    have hp := wAt_in h2
    have hq := wAt_in (show q < (nbN n f v).length by omega)
    refine h _ _ (mem_nbN.1 hp).2 (mem_nbN.1 hq).2 (fun e => ?_)
    rw [wAt_get _ _ h2, wAt_get _ _ (by omega)] at e
    have := nodup_at hnd h2 (by omega) e
    omega
theorem plan_at (how : Int) (n : Nat) (f0 : Nat → Nat → Bool) : ∀ (kk : Nat) (f : Nat → Nat → Bool) (left : Nat → Bool) (j v : Nat), (planT how n f0 kk f left)[j]? = some (v : Int) →
    ∃ f' left', left' v = true ∧ v < n ∧ leastF (wT how n f0 f' left') (ofT n left') = (v : Int) ∧ ∀ k : Nat, left' k = true ↔ (left k = true ∧ (k : Int) ∉ (planT how n f0 kk f left).take j)
  | 0, f, left, j, v, h => by rw [planT] at h; simp at h
  | kk + 1, f, left, j, v, h => by
    rw [planT] at h
    by_cases c : ofT n left = []
    · rw [if_pos c] at h; simp at h
    · rw [if_neg c] at h
      obtain ⟨u, hu, hlu, eu⟩ := least9 (wT how n f0 f left) c
      simp only [eu, Int.toNat_natCast] at h
      have ep : planT how n f0 (kk + 1) f left = (u : Int) :: planT how n f0 kk (if how = 3 then f else goT f u) (without left u) := by
        rw [planT, if_neg c]; simp only [eu, Int.toNat_natCast]
      cases j with
      | zero =>
        rw [List.getElem?_cons_zero] at h
        have : u = v := by have := Option.some.inj h; omega
        subst this
        exact ⟨f, left, hlu, hu, eu, fun k => by simp⟩
      | succ j =>
        rw [List.getElem?_cons_succ] at h
        obtain ⟨f', left', h1, h2, h3, h4⟩ := plan_at how n f0 kk _ _ j v h
        refine ⟨f', left', h1, h2, h3, fun k => ?_⟩
        rw [h4, ep, List.take_succ_cons, List.mem_cons, without_iff]
        constructor
        · rintro ⟨⟨a, b⟩, d⟩; exact ⟨a, fun e => e.elim (fun e => b (by omega)) d⟩
        · rintro ⟨a, b⟩; exact ⟨⟨a, fun e => b (.inl (by omega))⟩, fun e => b (.inr e)⟩
theorem mem_take_idx {L : List Int} (hd : L.Nodup) (x : Int) (hx : x ∈ L) (j : Nat) : x ∈ L.take j ↔ L.idxOf x < j := by
  constructor
  · intro h
    obtain ⟨i, hi, e⟩ := List.getElem_of_mem h
    rw [List.length_take] at hi
    rw [List.getElem_take] at e
    have := List.Nodup.idxOf_getElem hd i (by omega)
    rw [e] at this
    omega
  · intro h
    have hl := List.idxOf_lt_length_of_mem hx
    have e := List.getElem_idxOf hl
    rw [← e]
    have e2 : (L.take j)[L.idxOf x]'(by rw [List.length_take]; omega) = L[L.idxOf x] := List.getElem_take
    rw [← e2]
    exact List.getElem_mem _
theorem countP_lt {l : List Nat} {p q : Nat → Bool} (h : ∀ x ∈ l, p x = true → q x = true) {z : Nat} (hz : z ∈ l) (h1 : q z = true) (h2 : p z = false) : l.countP p < l.countP q := by
  induction l with
  | nil => cases hz
  | cons y l ih =>
    rw [List.countP_cons, List.countP_cons]
    have hle : l.countP p ≤ l.countP q := List.countP_mono_left (fun x hx hp => h x (List.mem_cons_of_mem _ hx) hp)
    rcases List.mem_cons.1 hz with rfl | hz
    · rw [h1, h2]; simp; omega
    · have := ih (fun x hx => h x (List.mem_cons_of_mem _ hx)) hz
      have hy := h y List.mem_cons_self
      cases hp : p y with
      | false => simp; omega
      | true => rw [hy hp]; simp; omega
theorem card_most (n : Nat) (hn : n ≤ 64) (f : Nat → Nat → Bool) (hf : Sy n f) : Mcs.Most f n (fun x => (planT 3 n f 64 f fun _ => true).idxOf (x : Int)) := by
  intro x y z hz hy hxy hyz hxz hxy0
  obtain ⟨L, hL⟩ : ∃ L, L = planT 3 n f 64 f (fun _ => true) := ⟨_, rfl⟩
  have hperm : L.Perm (idI n) := by
    have h := planT_perm 3 n f 64 f (fun _ => true) (by rw [ofT_all]; exact hn)
    rw [ofT_id, ← hL] at h; exact h
  have hnd : L.Nodup := hperm.nodup_iff.2 (idI_nodup n)
  have hin : ∀ k, k < n → (k : Int) ∈ L := fun k hk => hperm.mem_iff.2 (mem_idI.2 ⟨k, hk, rfl⟩)
  simp only [← hL] at hxy hyz ⊢
  have hget : L[L.idxOf (y : Int)]? = some (y : Int) := by
    rw [List.getElem?_eq_getElem (List.idxOf_lt_length_of_mem (hin y hy)), List.getElem_idxOf]
  rw [hL] at hget
  obtain ⟨f', left', h1, h2, h3, h4⟩ := plan_at 3 n f 64 f (fun _ => true) _ y hget
  rw [← hL] at h4
  have hleft : ∀ k, k < n → (left' k = true ↔ ¬ L.idxOf (k : Int) < L.idxOf (y : Int)) := fun k hk => by
    rw [h4 k, mem_take_idx hnd _ (hin k hk)]
    simp
  have hxn := (hf.2.2 _ _ hxz).1
  have hzl : left' z = true := (hleft z hz).2 (by omega)
  have hleast := leastF_least (wT 3 n f f' left') (ofT n left') (fun x hx => ofT_nn hx) (ofT_rising n left') (z : Int) (mem_ofT.2 ⟨z, hz, hzl, rfl⟩)
  rw [h3] at hleast
  have hcc : cardC n f left' z ≤ cardC n f left' y := by
    have h5 := hleast.1
    unfold wT at h5
    rw [if_neg (by decide), if_neg (by decide), if_neg (by decide), if_neg (by decide), Int.toNat_natCast, Int.toNat_natCast] at h5
    omega
  apply Classical.byContradiction
  intro hno
  have hlt : cardC n f left' y < cardC n f left' z := by
    unfold cardC
    refine countP_lt (z := x) (fun k hk hp => ?_) (List.mem_range.2 hxn) ?_ ?_
    · have hkn := List.mem_range.1 hk
      simp only [Bool.and_eq_true, Bool.not_eq_true'] at hp ⊢
      refine ⟨?_, hp.2⟩
      cases hc : f z k with
      | true => rfl
      | false =>
        refine absurd ⟨k, ?_, by rw [hf.1]; exact hp.1, by rw [hf.1]; exact hc⟩ hno
        have := hleft k hkn
        rw [hp.2] at this
        simpa using this
    · simp only [Bool.and_eq_true, Bool.not_eq_true']
      refine ⟨by rw [hf.1]; exact hxz, ?_⟩
      cases hc : left' x with
      | false => rfl
      | true => exact absurd hxy ((hleft x hxn).1 hc)
    · rw [hf.1, hxy0]; rfl
  omega
theorem card_simp (n : Nat) (hn : n ≤ 64) (f : Nat → Nat → Bool) (hf : Sy n f) (pos : Nat → Nat) (hp : ∀ x y, x < n → y < n → pos x = pos y → x = y) (hL : Mcs.Late f pos) : Simp f (orderT 3 n f) := by
  obtain ⟨L, hLL⟩ : ∃ L, L = planT 3 n f 64 f (fun _ => true) := ⟨_, rfl⟩
  have hperm : L.Perm (idI n) := by
    have h := planT_perm 3 n f 64 f (fun _ => true) (by rw [ofT_all]; exact hn)
    rw [ofT_id, ← hLL] at h; exact h
  have hnd : L.Nodup := hperm.nodup_iff.2 (idI_nodup n)
  have hin : ∀ k, k < n → (k : Int) ∈ L := fun k hk => hperm.mem_iff.2 (mem_idI.2 ⟨k, hk, rfl⟩)
  have hlen : L.length = n := by rw [hperm.length_eq, idI_len]
  have hmost := card_most n hn f hf
  rw [← hLL] at hmost
  have hinj : ∀ x y, x < n → y < n → L.idxOf (x : Int) = L.idxOf (y : Int) → x = y := fun x y hx hy e => by
    have e1 := List.getElem_idxOf (List.idxOf_lt_length_of_mem (hin x hx))
    have e2 := List.getElem_idxOf (List.idxOf_lt_length_of_mem (hin y hy))
    have : (x : Int) = (y : Int) := by rw [← e1, ← e2]; congr 1
    omega
  have hmcs := Mcs.mcs hf.gr pos hp hL (fun x => L.idxOf (x : Int)) hinj hmost
  unfold orderT
  rw [if_pos rfl, ← hLL]
  refine simp_of f _ (fun i hi a ha b hb h1 h2 hab => ?_)
  rw [List.length_reverse] at hi
  have hr : rd L.reverse (i : Int) = L[L.length - 1 - i]'(by omega) := by
    refine rd_nat _ i _ ?_
    rw [List.getElem?_reverse hi, List.getElem?_eq_getElem]
  rw [hr] at h1 h2
  have hv : L[L.length - 1 - i]'(by omega) ∈ L := List.getElem_mem _
  have hidx := List.Nodup.idxOf_getElem hnd (L.length - 1 - i) (by omega)
  obtain ⟨v, hvn, ev⟩ := mem_idI.1 (hperm.mem_iff.1 hv)
  rw [ev] at h1 h2 hidx
  have hmem : ∀ x ∈ L.reverse.drop (i + 1), x ∈ L.take (L.length - (i + 1)) := fun x hx => by
    rw [List.drop_reverse] at hx
    exact List.mem_reverse.1 hx
  have ha2 := hmem a ha
  have hb2 := hmem b hb
  obtain ⟨a', han, rfl⟩ := mem_idI.1 (hperm.mem_iff.1 (List.mem_of_mem_take ha2))
  obtain ⟨b', hbn, rfl⟩ := mem_idI.1 (hperm.mem_iff.1 (List.mem_of_mem_take hb2))
  rw [mem_take_idx hnd _ (hin a' han)] at ha2
  rw [mem_take_idx hnd _ (hin b' hbn)] at hb2
  rw [Int.toNat_natCast] at h1 h2 ⊢
  rw [Int.toNat_natCast] at h1 h2
  rw [Int.toNat_natCast]
  exact hmcs v a' b' (by show L.idxOf (a' : Int) < L.idxOf (v : Int); omega) (by show L.idxOf (b' : Int) < L.idxOf (v : Int); omega) h1 h2 (fun e => hab (by rw [e]))
def joinOne (h : Nat → Nat → Bool) (a : Nat) (bs : List Nat) : Nat → Nat → Bool := fun i k => h i k || (decide (i = a ∧ k ∈ bs) || decide (k = a ∧ i ∈ bs))
def joinBd (h : Nat → Nat → Bool) (l : List Nat) : Nat → Nat → Bool := fun i k => h i k || decide (i ∈ l ∧ k ∈ l ∧ i ≠ k)
theorem joinIn_gW {n : Nat} (hn : n ≤ 40) (a : Nat) (ha : a < n) : ∀ (bs : List Nat) (h : Nat → Nat → Bool), (∀ b ∈ bs, b < n) → a ∉ bs → joinIn (a : Int) (gI bs) (gI (gW n h)) = some (gI (gW n (joinOne h a bs)))
  | [], h, _, _ => by
    show some _ = some _
    congr 2
    exact gW_congr (fun i k _ _ => by unfold joinOne; simp)
  | b :: bs, h, hb, hna => by
    have hbn := hb b List.mem_cons_self
    have hab : a ≠ b := fun e => hna (e ▸ List.mem_cons_self)
    show (graph_Join.f (gI (gW n h)) (a : Int) (b : Int)).bind _ = _
    rw [(join_f (gW n h) (gW_ok (by omega) h) (by rw [gW_len]; omega) (a : Int) (b : Int)).1, Option.bind_some, joinW_gW h ha hbn hab]
    show joinIn (a : Int) (gI bs) (gI (gW n (addE h a b))) = _
    rw [joinIn_gW hn a ha bs (addE h a b) (fun c hc => hb c (List.mem_cons_of_mem _ hc)) (fun hc => hna (List.mem_cons_of_mem _ hc))]
    congr 2
    refine gW_congr (fun i k _ _ => ?_)
    unfold joinOne addE
    rw [Bool.eq_iff_iff]
    simp only [Bool.or_eq_true, decide_eq_true_eq, List.mem_cons]
    constructor
    · rintro ((h1 | h1 | h1) | h1 | h1)
      · exact .inl h1
      · exact .inr (.inl ⟨h1.1, .inl h1.2⟩)
      · exact .inr (.inr ⟨h1.2, .inl h1.1⟩)
      · exact .inr (.inl ⟨h1.1, .inr h1.2⟩)
      · exact .inr (.inr ⟨h1.1, .inr h1.2⟩)
    · rintro (h1 | ⟨h1, h2 | h2⟩ | ⟨h1, h2 | h2⟩)
      · exact .inl (.inl h1)
      · exact .inl (.inr (.inl ⟨h1, h2⟩))
      · exact .inr (.inl ⟨h1, h2⟩)
      · exact .inl (.inr (.inr ⟨h2, h1⟩))
      · exact .inr (.inr ⟨h1, h2⟩)
theorem gI_take (l : List Nat) (i : Nat) : (gI l).take i = gI (l.take i) := by unfold gI; rw [List.map_take]
theorem hm' {bd : List Nat} (hd : bd.Nodup) {i : Nat} (hi : i < bd.length) : wAt bd i ∉ bd.take i := fun h => by
  obtain ⟨q, hq, e⟩ := List.getElem_of_mem h
  rw [List.length_take] at hq
  rw [List.getElem_take, wAt_get bd i hi] at e
  have := nodup_at hd (by omega) hi e
  omega
theorem joinAll_gW {n : Nat} (hn : n ≤ 40) (bd : List Nat) (hb : ∀ b ∈ bd, b < n) (hd : bd.Nodup) (h : Nat → Nat → Bool) (d : Nat) : ∀ i, i + d = bd.length → joinAll (gI bd) d i (gI (gW n (joinBd h (bd.take i)))) = some (gI (gW n (joinBd h bd))) := by
  induction d with
  | zero =>
    intro i hi
    obtain rfl : i = bd.length := by omega
    rw [joinAll, List.take_length]
  | succ d ih =>
    intro i hi
    have hil : i < bd.length := by omega
    rw [joinAll, gI_rd, gI_take, joinIn_gW hn (wAt bd i) (hb _ (wAt_in hil)) (bd.take i) _ (fun b hb2 => hb b (List.mem_of_mem_take hb2)) (fun hm => ?_), Option.bind_some]
    · rw [show gW n (joinOne (joinBd h (bd.take i)) (wAt bd i) (bd.take i)) = gW n (joinBd h (bd.take (i + 1))) from ?_]
      · exact ih (i + 1) (by omega)
      · refine gW_congr (fun p q _ _ => ?_)
        unfold joinOne joinBd
        rw [take_one bd i hil, Bool.eq_iff_iff]
        simp only [Bool.or_eq_true, decide_eq_true_eq, List.mem_append, List.mem_singleton]
        constructor
        · rintro ((h1 | h1) | h1 | h1)
          · exact .inl h1
          · exact .inr ⟨.inl h1.1, .inl h1.2.1, h1.2.2⟩
          · exact .inr ⟨.inr h1.1, .inl h1.2, fun e => hm' hd hil (by rw [← h1.1, e]; exact h1.2)⟩
          · exact .inr ⟨.inl h1.2, .inr h1.1, fun e => hm' hd hil (by rw [← h1.1, ← e]; exact h1.2)⟩
        · rintro (h1 | ⟨h1 | h1, h2 | h2, h3⟩)
          · exact .inl (.inl h1)
          · exact .inl (.inr ⟨h1, h2, h3⟩)
          · exact .inr (.inr ⟨h2, h1⟩)
          · exact .inr (.inl ⟨h1, h2⟩)
          · exact absurd (h1.trans h2.symm) h3
    · exact hm' hd hil hm
def laterN (n : Nat) (h : Nat → Nat → Bool) (left : Nat → Bool) (v : Nat) : List Nat := (nbN n h v).filter left
def bagT (n : Nat) (h : Nat → Nat → Bool) (left : Nat → Bool) (v : Nat) : List Int := ofT n fun k => decide (k = v) || (h v k && left k)
def fillB (n : Nat) : List Nat → (Nat → Nat → Bool) → (Nat → Bool) → List (List Int) × (Nat → Nat → Bool)
  | [], h, _ => ([], h)
  | v :: l, h, left => (bagT n h left v :: (fillB n l (joinBd h (laterN n h left v)) (without left v)).1, (fillB n l (joinBd h (laterN n h left v)) (without left v)).2)
theorem joinBd_sy {n : Nat} {h : Nat → Nat → Bool} (hh : Sy n h) {l : List Nat} (hl : ∀ x ∈ l, x < n) : Sy n (joinBd h l) := by
  refine ⟨fun i k => ?_, fun i => ?_, fun i k e => ?_⟩
  · unfold joinBd
    rw [hh.1 i k]
    congr 1
    rw [Bool.eq_iff_iff, decide_eq_true_iff, decide_eq_true_iff]
    exact ⟨fun ⟨a, b, c⟩ => ⟨b, a, Ne.symm c⟩, fun ⟨a, b, c⟩ => ⟨b, a, Ne.symm c⟩⟩
  · unfold joinBd; rw [hh.2.1 i]; simp
  · unfold joinBd at e
    simp only [Bool.or_eq_true, decide_eq_true_eq] at e
    rcases e with e | e
    · exact hh.2.2 _ _ e
    · exact ⟨hl _ e.1, hl _ e.2.1⟩
theorem mem_laterN {n : Nat} {h : Nat → Nat → Bool} {left : Nat → Bool} {v x : Nat} : x ∈ laterN n h left v ↔ x < n ∧ h v x = true ∧ left x = true := by
  unfold laterN
  rw [List.mem_filter, mem_nbN]
  exact ⟨fun ⟨⟨a, b⟩, c⟩ => ⟨a, b, c⟩, fun ⟨a, b, c⟩ => ⟨⟨a, b⟩, c⟩⟩
theorem len_sub : ∀ {xs l : List Int}, xs.Nodup → (∀ x ∈ xs, x ∈ xs) → (∀ x ∈ xs, x ∈ l) → xs.length ≤ l.length
  | [], _, _, _, _ => Nat.zero_le _
  | x :: xs, l, hd, _, hin => by
    have hx := hin x List.mem_cons_self
    have h1 := (List.perm_cons_erase hx).length_eq
    have h2 := len_sub (l := l.erase x) (List.nodup_cons.1 hd).2 (fun _ h => h) (fun y hy => by
      have hne : y ≠ x := fun e => (List.nodup_cons.1 hd).1 (e ▸ hy)
      exact (List.mem_erase_of_ne hne).2 (hin y (List.mem_cons_of_mem _ hy)))
    rw [h1, List.length_cons, List.length_cons]
    omega
theorem bag_sorted {n : Nat} {h : Nat → Nat → Bool} (hh : Sy n h) (left : Nat → Bool) (v : Nat) (hv : v < n) : SortedSeq.sortZ (gI (laterN n h left v) ++ [(v : Int)]) = bagT n h left v := by
  refine SortedSeq.sortZ_uniq ((SortedSeq.sortZ_perm _).trans ?_) (SortedSeq.sortZ_sorted _) ((ofT_rising n _).imp (fun h => by omega))
  have hnd : (laterN n h left v).Nodup := List.Nodup.sublist List.filter_sublist (nbN_nodup n h v)
  have h1 : (gI (laterN n h left v) ++ [(v : Int)]).Nodup := by
    rw [List.nodup_append]
    refine ⟨?_, by simp, fun a ha b hb => ?_⟩
    · unfold gI
      rw [List.Nodup, List.pairwise_map]
      exact hnd.imp (fun h e => h (by omega))
    · unfold gI at ha
      obtain ⟨x, hx, rfl⟩ := List.mem_map.1 ha
      have hvx := (mem_laterN.1 hx).2.1
      rw [List.mem_singleton] at hb
      rw [hb]
      intro e
      have : x = v := by omega
      rw [this, hh.2.1] at hvx
      cases hvx
  have hmem : ∀ x : Int, x ∈ gI (laterN n h left v) ++ [(v : Int)] ↔ x ∈ bagT n h left v := fun x => by
    unfold bagT
    rw [mem_ofT, List.mem_append, List.mem_singleton]
    unfold gI
    rw [List.mem_map]
    constructor
    · rintro (⟨y, hy, rfl⟩ | rfl)
      · have h3 := mem_laterN.1 hy
        exact ⟨y, h3.1, by simp [h3.2.1, h3.2.2], rfl⟩
      · exact ⟨v, hv, by simp, rfl⟩
    · rintro ⟨y, hy, h3, rfl⟩
      simp only [Bool.or_eq_true, decide_eq_true_eq, Bool.and_eq_true] at h3
      rcases h3 with rfl | h3
      · exact .inr rfl
      · exact .inl ⟨y, mem_laterN.2 ⟨hy, h3.1, h3.2⟩, rfl⟩
  have h4 : (bagT n h left v).Nodup := ofT_nodup n _
  exact (perm_of_in _ _ h1 (fun x hx => (hmem x).1 hx) (by
    have := (perm_of_in _ (gI (laterN n h left v) ++ [(v : Int)]) h4 (fun x hx => (hmem x).2 hx))
    exact len_sub h4 (fun x hx => (hmem x).1 ((hmem x).2 hx)) (fun x hx => (hmem x).2 hx))).symm
theorem allGo_gW {n : Nat} (hn : n ≤ 40) : ∀ (l : List Nat) (h : Nat → Nat → Bool) (left : Nat → Bool) (vs : List Int) (bags : List (List Int)), Sy n h → (∀ v ∈ l, v < n ∧ left v = true) → l.Nodup → (∀ k, k < n → (left k = true ↔ (k : Int) ∉ vs)) → bags.length + l.length ≤ 1000 →
    allGo (gI l) (gI (gW n h)) vs bags = some (bags ++ (fillB n l h left).1, gI (gW n (fillB n l h left).2))
  | [], h, left, vs, bags, _, _, _, _, _ => by
    show some (bags, _) = _
    rw [fillB, List.append_nil]
  | v :: l, h, left, vs, bags, hh, hl, hd, hleft, hb => by
    obtain ⟨hv, hlv⟩ := hl v List.mem_cons_self
    have hnb : graph_Neighbors.f (gI (gW n h)) (v : Int) = some (gI (nbN n h v)) := by
      rw [neighbors_f _ (gW_ok (by omega) h)]
      unfold nbL
      rw [gW_len, if_pos (by unfold isP; exact decide_eq_true (by omega)), Int.toNat_natCast, gW_at n h v hv, listN_wd (by omega)]
      rfl
    have hlen := nbN_len n h v
    have hfil : (gI (nbN n h v)).filter (fun a => !decide (a ∈ vs)) = gI (laterN n h left v) := by
      unfold gI laterN
      rw [List.filter_map]
      congr 1
      refine List.filter_congr (fun x hx => ?_)
      have hxn := (mem_nbN.1 hx).1
      have := hleft x hxn
      show (!decide ((x : Int) ∈ vs)) = left x
      rw [Bool.eq_iff_iff, this]
      simp
    have hlin : ∀ x ∈ laterN n h left v, x < n := fun x hx => (mem_laterN.1 hx).1
    have hlnd : (laterN n h left v).Nodup := List.Nodup.sublist List.filter_sublist (nbN_nodup n h v)
    have hj := joinAll_gW hn (laterN n h left v) hlin hlnd h (laterN n h left v).length 0 (by omega)
    rw [show gW n (joinBd h ((laterN n h left v).take 0)) = gW n h from gW_congr (fun i k _ _ => by unfold joinBd; simp)] at hj
    have hh2 := joinBd_sy hh hlin
    have ih := allGo_gW hn l (joinBd h (laterN n h left v)) (without left v) (vs ++ [(v : Int)]) (bags ++ [bagT n h left v]) hh2 (fun x hx => ⟨(hl x (List.mem_cons_of_mem _ hx)).1, (without_iff _ _ _).2 ⟨(hl x (List.mem_cons_of_mem _ hx)).2, fun e => (List.nodup_cons.1 hd).1 (e ▸ hx)⟩⟩) (List.nodup_cons.1 hd).2 (fun k hk => by
      rw [without_iff, hleft k hk, List.mem_append, List.mem_singleton]
      constructor
      · rintro ⟨a, b⟩ (c | c)
        · exact a c
        · exact b (by omega)
      · intro a
        exact ⟨fun c => a (.inl c), fun c => a (.inr (by rw [c]))⟩) (by rw [List.length_append]; simp at hb ⊢; omega)
    show (graph_Neighbors.f (gI (gW n h)) (v : Int)).bind _ = _
    rw [hnb, Option.bind_some, if_pos ⟨by rw [gI_len]; omega, (hleft v hv).1 hlv, by simp at hb; omega⟩, hfil, gI_len, hj, Option.bind_some, bag_sorted hh left v hv]
    show allGo (gI l) _ _ _ = _
    rw [ih, fillB, List.append_assoc]
    rfl
theorem toN_of {n : Nat} {o : List Int} (h : o.Perm (idI n)) : ∃ ln : List Nat, o = gI ln ∧ ln.Nodup ∧ ∀ x ∈ ln, x < n := by
  refine ⟨o.map Int.toNat, ?_, ?_, fun x hx => ?_⟩
  · unfold gI
    rw [List.map_map]
    conv => lhs; rw [← List.map_id o]
    refine List.map_congr_left (fun x hx => ?_)
    obtain ⟨k, _, rfl⟩ := mem_idI.1 (h.mem_iff.1 hx)
    rfl
  · have hd : o.Nodup := h.nodup_iff.2 (idI_nodup n)
    rw [List.Nodup, List.pairwise_map]
    refine List.Pairwise.imp_of_mem (fun ha hb hne e => hne ?_) hd
    obtain ⟨a, _, rfl⟩ := mem_idI.1 (h.mem_iff.1 ha)
    obtain ⟨b, _, rfl⟩ := mem_idI.1 (h.mem_iff.1 hb)
    rw [Int.toNat_natCast, Int.toNat_natCast] at e
    rw [e]
  · obtain ⟨y, hy, rfl⟩ := List.mem_map.1 hx
    obtain ⟨k, hk, rfl⟩ := mem_idI.1 (h.mem_iff.1 hy)
    rw [Int.toNat_natCast]; exact hk
def allL : Nat → Bool := fun _ => true
theorem all_f {n : Nat} (hn : n ≤ 40) {f : Nat → Nat → Bool} (hf : Sy n f) {ln : List Nat} (ho : (gI ln).Perm (idI n)) (hd : ln.Nodup) (hl : ∀ x ∈ ln, x < n) : fill_all.f (gI (gW n f)) (gI ln) = some ((fillB n ln f allL).1, gI (gW n (fillB n ln f allL).2), 0) := by
  have hlen : ln.length = n := by have := ho.length_eq; rw [gI_len, idI_len] at this; exact this
  unfold fill_all.f
  rw [gI_len, gW_len, pvalid_f n (gI ln) (by rw [gI_len]; omega), Option.bind_some, validB_of ho, if_pos rfl, allGo_gW hn ln f allL [] [] hf (fun v hv => ⟨hl v hv, rfl⟩) hd (fun k _ => by simp [allL]) (by simp; omega), Option.bind_some, List.nil_append]
theorem all_bad {n : Nat} (f : Nat → Nat → Bool) (l : List Int) (hl : l.length < 1000000) (h : validB n l = false) : fill_all.f (gI (gW n f)) l = some ([], [], 8) := by
  unfold fill_all.f
  rw [gI_len, gW_len, pvalid_f n l (by omega), Option.bind_some, h, if_neg (by decide)]
theorem bags_f {n : Nat} (hn : n ≤ 40) {f : Nat → Nat → Bool} (hf : Sy n f) {ln : List Nat} (ho : (gI ln).Perm (idI n)) (hd : ln.Nodup) (hl : ∀ x ∈ ln, x < n) : fill_Bags.f (gI (gW n f)) (gI ln) = some ((fillB n ln f allL).1, 0) := by
  unfold fill_Bags.f
  rw [all_f hn hf ho hd hl, Option.bind_some]
theorem filled_f {n : Nat} (hn : n ≤ 40) {f : Nat → Nat → Bool} (hf : Sy n f) {ln : List Nat} (ho : (gI ln).Perm (idI n)) (hd : ln.Nodup) (hl : ∀ x ∈ ln, x < n) : fill_Filled.f (gI (gW n f)) (gI ln) = some (gI (gW n (fillB n ln f allL).2), 0) := by
  unfold fill_Filled.f
  rw [all_f hn hf ho hd hl, Option.bind_some, if_pos rfl]
  unfold slices_Clone_uint64_uint64.f
  rw [if_pos (by rw [gI_len, gW_len]; omega), Option.bind_some]
theorem fillB_sy {n : Nat} : ∀ (l : List Nat) (h : Nat → Nat → Bool) (left : Nat → Bool), Sy n h → Sy n (fillB n l h left).2
  | [], h, left, hh => hh
  | v :: l, h, left, hh => fillB_sy l _ _ (joinBd_sy hh (fun x hx => (mem_laterN.1 hx).1))
theorem joinBd_ge {h : Nat → Nat → Bool} {l : List Nat} {i k : Nat} (e : h i k = true) : joinBd h l i k = true := by unfold joinBd; rw [e]; rfl
theorem fillB_ge {n : Nat} : ∀ (l : List Nat) (h : Nat → Nat → Bool) (left : Nat → Bool) (i k : Nat), h i k = true → (fillB n l h left).2 i k = true
  | [], h, left, i, k, e => e
  | v :: l, h, left, i, k, e => fillB_ge l _ _ i k (joinBd_ge e)
theorem fillB_gone {n : Nat} : ∀ (l : List Nat) (h : Nat → Nat → Bool) (left : Nat → Bool) (v k : Nat), left v = false → (fillB n l h left).2 v k = h v k
  | [], h, left, v, k, e => rfl
  | u :: l, h, left, v, k, e => by
    rw [fillB]
    show (fillB n l (joinBd h (laterN n h left u)) (without left u)).2 v k = _
    rw [fillB_gone l _ _ v k (by unfold without; rw [e]; rfl)]
    unfold joinBd
    rw [show decide (v ∈ laterN n h left u ∧ k ∈ laterN n h left u ∧ v ≠ k) = false from decide_eq_false (fun hc => by
      have := (mem_laterN.1 hc.1).2.2
      rw [e] at this; cases this), Bool.or_false]
theorem fillB_simp {n : Nat} : ∀ (l : List Nat) (h : Nat → Nat → Bool) (left : Nat → Bool), Sy n h → (∀ v ∈ l, v < n ∧ left v = true) → l.Nodup → Simp (fillB n l h left).2 (gI l)
  | [], _, _, _, _, _ => trivial
  | v :: l, h, left, hh, hl, hd => by
    have hh2 := joinBd_sy hh (l := laterN n h left v) (fun x hx => (mem_laterN.1 hx).1)
    have hvl := (List.nodup_cons.1 hd).1
    refine ⟨fun a ha b hb h1 h2 hab => ?_, fillB_simp l (joinBd h (laterN n h left v)) (without left v) hh2 (fun x hx => ⟨(hl x (List.mem_cons_of_mem _ hx)).1, (without_iff _ _ _).2 ⟨(hl x (List.mem_cons_of_mem _ hx)).2, fun e => hvl (e ▸ hx)⟩⟩) (List.nodup_cons.1 hd).2⟩
    obtain ⟨a', ha', rfl⟩ := List.mem_map.1 ha
    obtain ⟨b', hb', rfl⟩ := List.mem_map.1 hb
    simp only [Int.toNat_natCast] at h1 h2 ⊢
    have hgone : ∀ k, (fillB n (v :: l) h left).2 v k = joinBd h (laterN n h left v) v k := fun k => fillB_gone l _ _ v k (by unfold without; simp)
    have hin : ∀ x, x ∈ l → (fillB n (v :: l) h left).2 v x = true → x ∈ laterN n h left v := fun x hx e => by
      rw [hgone] at e
      unfold joinBd at e
      simp only [Bool.or_eq_true, decide_eq_true_eq] at e
      have hx2 := hl x (List.mem_cons_of_mem _ hx)
      rcases e with e | e
      · exact mem_laterN.2 ⟨hx2.1, e, hx2.2⟩
      · exact e.2.1
    refine fillB_ge l _ _ a' b' ?_
    unfold joinBd
    rw [decide_eq_true (show a' ∈ laterN n h left v ∧ b' ∈ laterN n h left v ∧ a' ≠ b' from ⟨hin a' ha' h1, hin b' hb' h2, fun e => hab (by rw [e])⟩), Bool.or_true]
theorem fillB_same {n : Nat} : ∀ (l : List Nat) (h : Nat → Nat → Bool) (left : Nat → Bool), Sy n h → (∀ x, x < n → (left x = true ↔ x ∈ l)) → l.Nodup → Simp h (gI l) → (fillB n l h left).2 = h
  | [], _, _, _, _, _, _ => rfl
  | v :: l, h, left, hh, hl, hd, hs => by
    have hvl := (List.nodup_cons.1 hd).1
    have hjo : joinBd h (laterN n h left v) = h := by
      funext i k
      unfold joinBd
      rw [Bool.eq_iff_iff, Bool.or_eq_true, decide_eq_true_iff]
      constructor
      · rintro (e | ⟨h1, h2, h3⟩)
        · exact e
        · have m1 := mem_laterN.1 h1
          have m2 := mem_laterN.1 h2
          have n1 : i ≠ v := fun e => by rw [e, hh.2.1] at m1; cases m1.2.1
          have n2 : k ≠ v := fun e => by rw [e, hh.2.1] at m2; cases m2.2.1
          have i1 : i ∈ l := (List.mem_cons.1 ((hl i m1.1).1 m1.2.2)).resolve_left n1
          have i2 : k ∈ l := (List.mem_cons.1 ((hl k m2.1).1 m2.2.2)).resolve_left n2
          have := hs.1 (i : Int) (List.mem_map.2 ⟨i, i1, rfl⟩) (k : Int) (List.mem_map.2 ⟨k, i2, rfl⟩) (by rw [Int.toNat_natCast, Int.toNat_natCast]; exact m1.2.1) (by rw [Int.toNat_natCast, Int.toNat_natCast]; exact m2.2.1) (by omega)
          rw [Int.toNat_natCast, Int.toNat_natCast] at this
          exact this
      · exact .inl
    rw [fillB]
    show (fillB n l (joinBd h (laterN n h left v)) (without left v)).2 = h
    rw [hjo]
    refine fillB_same l h (without left v) hh (fun x hx => ?_) (List.nodup_cons.1 hd).2 hs.2
    rw [without_iff, hl x hx, List.mem_cons]
    constructor
    · rintro ⟨a, b⟩; exact a.resolve_left (Ne.symm b)
    · intro a; exact ⟨.inr a, fun e => hvl (e ▸ a)⟩
theorem simp_late (F : Nat → Nat → Bool) : ∀ (ln : List Nat) (v a b : Nat), Simp F (gI ln) → v ∈ ln → a ∈ ln → b ∈ ln → ln.idxOf v < ln.idxOf a → ln.idxOf v < ln.idxOf b → F v a = true → F v b = true → a ≠ b → F a b = true
  | [], _, _, _, _, h, _, _, _, _, _, _, _ => absurd h List.not_mem_nil
  | x :: l, v, a, b, hs, hv, ha, hb, h1, h2, f1, f2, hab => by
    rw [List.idxOf_cons, List.idxOf_cons] at h1 h2
    have na : x ≠ a := fun e => by rw [e] at h1; simp at h1
    have nb : x ≠ b := fun e => by rw [e] at h2; simp at h2
    have ma : a ∈ l := (List.mem_cons.1 ha).resolve_left (Ne.symm na)
    have mb : b ∈ l := (List.mem_cons.1 hb).resolve_left (Ne.symm nb)
    by_cases c : x = v
    · subst c
      have := hs.1 (a : Int) (List.mem_map.2 ⟨a, ma, rfl⟩) (b : Int) (List.mem_map.2 ⟨b, mb, rfl⟩) (by rw [Int.toNat_natCast, Int.toNat_natCast]; exact f1) (by rw [Int.toNat_natCast, Int.toNat_natCast]; exact f2) (by omega)
      rw [Int.toNat_natCast, Int.toNat_natCast] at this
      exact this
    · have mv : v ∈ l := (List.mem_cons.1 hv).resolve_left (Ne.symm c)
      rw [show (x == v) = false from beq_false_of_ne c, show (x == a) = false from beq_false_of_ne na, cond_false, cond_false] at h1
      rw [show (x == v) = false from beq_false_of_ne c, show (x == b) = false from beq_false_of_ne nb, cond_false, cond_false] at h2
      exact simp_late F l v a b hs.2 mv ma mb (by omega) (by omega) f1 f2 hab
theorem late_of {n : Nat} {F : Nat → Nat → Bool} (hF : Sy n F) {ln : List Nat} (hin : ∀ k, k < n → k ∈ ln) (hs : Simp F (gI ln)) : Mcs.Late F (fun v => ln.idxOf v) := fun v a b h1 h2 f1 f2 hab => by
  have r1 := hF.2.2 _ _ f1
  have r2 := hF.2.2 _ _ f2
  exact simp_late F ln v a b hs (hin v r1.1) (hin a r1.2) (hin b r2.2) h1 h2 f1 f2 hab
theorem idx_inj {ln : List Nat} {x y : Nat} (hx : x ∈ ln) (hy : y ∈ ln) (e : ln.idxOf x = ln.idxOf y) : x = y := by
  have e1 := List.getElem_idxOf (List.idxOf_lt_length_of_mem hx)
  have e2 := List.getElem_idxOf (List.idxOf_lt_length_of_mem hy)
  rw [← e1, ← e2]
  congr 1
theorem in_of {n : Nat} {ln : List Nat} (ho : (gI ln).Perm (idI n)) (k : Nat) (hk : k < n) : k ∈ ln := by
  obtain ⟨y, hy, e⟩ := List.mem_map.1 (ho.mem_iff.2 (mem_idI.2 ⟨k, hk, rfl⟩))
  obtain rfl : y = k := by omega
  exact hy
theorem fill_same {n : Nat} {F : Nat → Nat → Bool} (hF : Sy n F) {ln : List Nat} (ho : (gI ln).Perm (idI n)) (hd : ln.Nodup) (hs : Simp F (gI ln)) : (fillB n ln F allL).2 = F :=
  fillB_same ln F allL hF (fun x hx => ⟨fun _ => in_of ho x hx, fun _ => rfl⟩) hd hs
theorem mem_bagT {n : Nat} {h : Nat → Nat → Bool} {left : Nat → Bool} {v : Nat} {x : Int} : x ∈ bagT n h left v ↔ ∃ k : Nat, k < n ∧ x = (k : Int) ∧ (k = v ∨ (h v k = true ∧ left k = true)) := by
  unfold bagT
  rw [mem_ofT]
  constructor
  · rintro ⟨k, hk, e, rfl⟩
    simp only [Bool.or_eq_true, Bool.and_eq_true, decide_eq_true_eq] at e
    exact ⟨k, hk, rfl, e⟩
  · rintro ⟨k, hk, rfl, e⟩
    refine ⟨k, hk, ?_, rfl⟩
    simp only [Bool.or_eq_true, Bool.and_eq_true, decide_eq_true_eq]
    exact e
theorem bagT_len (n : Nat) (h : Nat → Nat → Bool) (left : Nat → Bool) (v : Nat) : (bagT n h left v).length ≤ n := by
  unfold bagT ofT
  rw [List.length_map]
  exact Nat.le_trans (List.length_filter_le _ _) (by simp)
theorem fillB_cliq {n : Nat} : ∀ (l : List Nat) (h : Nat → Nat → Bool) (left : Nat → Bool), Sy n h → ∀ b ∈ (fillB n l h left).1, cliqB n (fillB n l h left).2 b = true ∧ b.length ≤ n
  | [], _, _, _, b, hb => absurd hb List.not_mem_nil
  | v :: l, h, left, hh, b, hb => by
    have hh2 := joinBd_sy hh (l := laterN n h left v) (fun x hx => (mem_laterN.1 hx).1)
    rcases List.mem_cons.1 hb with rfl | hb
    · refine ⟨?_, bagT_len _ _ _ _⟩
      unfold cliqB
      rw [Bool.and_eq_true, List.all_eq_true, List.all_eq_true]
      refine ⟨fun x hx => ?_, fun x hx => List.all_eq_true.2 (fun y hy => ?_)⟩
      · obtain ⟨k, hk, rfl, _⟩ := mem_bagT.1 hx
        unfold isP; exact decide_eq_true (by omega)
      · obtain ⟨i, hi, rfl, h1⟩ := mem_bagT.1 hx
        obtain ⟨k, hk, rfl, h2⟩ := mem_bagT.1 hy
        rw [Bool.or_eq_true, beq_iff_eq, Int.toNat_natCast, Int.toNat_natCast]
        by_cases c : i = k
        · exact .inl (by rw [c])
        · refine .inr ?_
          show (fillB n l (joinBd h (laterN n h left v)) (without left v)).2 i k = true
          refine fillB_ge l _ _ i k ?_
          rcases h1 with rfl | h1
          · rcases h2 with rfl | h2
            · exact absurd rfl c
            · exact joinBd_ge h2.1
          · rcases h2 with rfl | h2
            · exact joinBd_ge (by rw [hh.1]; exact h1.1)
            · unfold joinBd
              rw [decide_eq_true (show i ∈ laterN n h left v ∧ k ∈ laterN n h left v ∧ i ≠ k from ⟨mem_laterN.2 ⟨hi, h1.1, h1.2⟩, mem_laterN.2 ⟨hk, h2.1, h2.2⟩, c⟩), Bool.or_true]
    · exact fillB_cliq l _ _ hh2 b hb
theorem equal_l0 (l : List Int) (hl : l.length < 9223372036854775807) (c : Int) (hc : c = (l.length : Int)) : ∀ (d i : Nat), i + d = l.length → Ev (fun k => slices_Equal_uint64_uint64.l0 k l l c (i : Int)) true
  | 0, i, h => evs0 (fun k => by rw [slices_Equal_uint64_uint64.l0, if_neg (by omega)])
  | d + 1, i, h => by
    refine evp (equal_l0 l hl c hc d (i + 1) (by omega)) (fun k e => ?_)
    rw [slices_Equal_uint64_uint64.l0, if_pos (by omega), if_pos (by omega), if_pos (by omega), if_pos (by omega), if_pos rfl, wrap_nat i (by omega)]
    exact e
theorem equal_ev (l : List Int) (hl : l.length < 9223372036854775807) : Ev (fun k => slices_Equal_uint64_uint64.f k l l) true := by
  refine evu1 (equal_l0 l hl _ rfl l.length 0 (by omega)) (fun k e => ?_)
  unfold slices_Equal_uint64_uint64.f
  rw [if_pos rfl]
  exact e
theorem chordal_ev {n : Nat} (hn : n ≤ 40) {F : Nat → Nat → Bool} (hF : Sy n F) {ln : List Nat} (ho : (gI ln).Perm (idI n)) (hs : Simp F (gI ln)) : Ev (fun k => fill_Chordal.f k (gI (gW n F))) true := by
  have hS := card_simp n (by omega) F hF (fun v => ln.idxOf v) (fun x y hx hy e => idx_inj (in_of ho x hx) (in_of ho y hy) e) (late_of hF (in_of ho) hs)
  have hp := orderT_perm 3 n (by omega) F
  obtain ⟨lo, elo, hd, hl⟩ := toN_of hp
  rw [elo] at hS hp
  have hf := filled_f hn hF hp hd hl
  rw [fill_same hF hp hd hS] at hf
  refine evu2 (of_ev 3 (by decide) (by decide) n hn F hF) (equal_ev (gI (gW n F)) (by rw [gI_len, gW_len]; omega)) (fun k e1 e2 => ?_)
  unfold fill_Chordal.f
  rw [e1, Option.bind_some, elo, hf, Option.bind_some, if_pos rfl, e2]
  rfl
theorem alike_l0 (l : List Int) (hl : l.length < 9223372036854775807) : ∀ (d i : Nat), i + d = l.length → Ev (fun k => arboristlaw10_alike.l0 k (i : Int) l l) true
  | 0, i, h => evs0 (fun k => by rw [arboristlaw10_alike.l0, if_neg (by omega)])
  | d + 1, i, h => by
    refine evp (alike_l0 l hl d (i + 1) (by omega)) (fun k e => ?_)
    rw [arboristlaw10_alike.l0, if_pos (by omega), if_pos (by omega), if_pos (by omega), if_pos rfl, wrap_nat i (by omega)]
    exact e
theorem alike_ev {n : Nat} (hn : n ≤ 40) (F : Nat → Nat → Bool) : Ev (fun k => arboristlaw10_alike.f k (gI (gW n F)) (mat n F)) true := by
  refine evu2 (graph_ev n (by omega) F) (alike_l0 (gI (gW n F)) (by rw [gI_len, gW_len]; omega) _ 0 (Nat.zero_add _)) (fun k e1 e2 => ?_)
  unfold arboristlaw10_alike.f
  rw [e1, Option.bind_some, if_pos rfl]
  exact e2
theorem rdI_at (B : List (List Int)) (i : Nat) (h : i < B.length) : rd_L1 B (i : Int) = B[i] := by
  unfold rd_L1
  rw [Int.toNat_natCast, List.getD_eq_getElem?_getD, List.getElem?_eq_getElem h]
  rfl
theorem same_l0 (B : List (List Int)) (hB : B.length < 9223372036854775807) (hb : ∀ b ∈ B, b.length ≤ 1000) : ∀ (d i : Nat), i + d = B.length → Ev (fun k => arboristlaw10_same.l0 k B B (i : Int)) true
  | 0, i, h => evs0 (fun k => by rw [arboristlaw10_same.l0, if_neg (by omega)])
  | d + 1, i, h => by
    have hlen := hb (B[i]'(by omega)) (List.getElem_mem _)
    refine evs2 (Compare_ev (B[i]'(by omega)) (B[i]'(by omega)) (by omega) (by omega)) (same_l0 B hB hb d (i + 1) (by omega)) (fun k e1 e2 => ?_)
    rw [arboristlaw10_same.l0, if_pos (by omega), if_pos (by omega), if_pos (by omega), rdI_at B i (by omega), e1, Option.bind_some, cmpL_self, if_pos rfl, wrap_nat i (by omega)]
    exact e2
theorem same_ev (B : List (List Int)) (hB : B.length < 9223372036854775807) (hb : ∀ b ∈ B, b.length ≤ 1000) : Ev (fun k => arboristlaw10_same.f k B B) true := by
  refine evu1 (same_l0 B hB hb B.length 0 (by omega)) (fun k e => ?_)
  unfold arboristlaw10_same.f
  rw [if_pos rfl]
  exact e
theorem fillB_len {n : Nat} : ∀ (l : List Nat) (h : Nat → Nat → Bool) (left : Nat → Bool), (fillB n l h left).1.length = l.length
  | [], _, _ => rfl
  | v :: l, h, left => by
    show (fillB n l _ _).1.length + 1 = l.length + 1
    rw [fillB_len l]
theorem gI_perm_len {n : Nat} {ln : List Nat} (ho : (gI ln).Perm (idI n)) : ln.length = n := by have := ho.length_eq; rw [gI_len, idI_len] at this; exact this
end Go.Proofs.YtopjffgmpphdbaaDoor.Pr
set_option linter.unusedVariables false
set_option linter.unusedSimpArgs false
namespace Go.Proofs.YtopjffgmpphdbaaDoor.Pure
open Go.RowKit Go.Proofs.YtopjffgmpphdbaaDoor.Pr Go.Proofs.YtopjffgmpphdbaaDoorW.PrintWords Go.Proofs.YtopjffgmpphdbaaDoorW.PrintLast Go.Proofs.YtopjffgmpphdbaaDoorW.PrintMore
def mostL : List (List Int) → Nat
  | [] => 0
  | b :: B => max b.length (mostL B)
theorem mostw_l0 (B : List (List Int)) (hB : B.length ≤ 1000) : ∀ (d i c : Nat), i + d = B.length → Ev (fun k => fill_Width.l0 k 0 (c : Int) B (B.length : Int) (i : Int)) (wrap64 (((max c (mostL (B.drop i)) : Nat) : Int) - 1), 0)
  | 0, i, c, h => evs0 (fun k => by
      rw [fill_Width.l0, if_neg (by omega), if_pos rfl, List.drop_eq_nil_of_le (by omega), show max c (mostL []) = c from Nat.max_eq_left (Nat.zero_le _)])
  | d + 1, i, c, h => by
    have hm : mx (c : Int) (((B[i]'(by omega)).length : Nat) : Int) = ((max c (B[i]'(by omega)).length : Nat) : Int) := by unfold mx; split <;> omega
    have hmx : max c (mostL (B.drop i)) = max (max c (B[i]'(by omega)).length) (mostL (B.drop (i + 1))) := by
      rw [List.drop_eq_getElem_cons (show i < B.length by omega)]
      show max c (max _ _) = _
      omega
    rw [hmx]
    refine evp (mostw_l0 B hB d (i + 1) (max c (B[i]'(by omega)).length) (by omega)) (fun k e => ?_)
    rw [fill_Width.l0, if_pos (by omega), if_pos (by omega), if_pos (by omega), rdI_at B i (by omega), hm, wrap_nat i (by omega)]
    exact e
theorem most_ev {n : Nat} (hn : n ≤ 40) {F : Nat → Nat → Bool} (hF : Sy n F) {ln : List Nat} (ho : (gI ln).Perm (idI n)) (hd : ln.Nodup) (hl : ∀ x ∈ ln, x < n) : Ev (fun k => fill_Width.f k (gI (gW n F)) (gI ln)) (wrap64 (((mostL (fillB n ln F allL).1 : Nat) : Int) - 1), 0) := by
  have e := bags_f hn hF ho hd hl
  have hlen := fillB_len (n := n) ln F allL
  have hg := gI_perm_len ho
  generalize (fillB n ln F allL).1 = B at *
  refine evu1 (mostw_l0 B (by omega) B.length 0 0 (by omega)) (fun k e1 => ?_)
  unfold fill_Width.f
  rw [e, Option.bind_some]
  rw [List.drop_zero, Nat.zero_max] at e1
  exact e1
end Go.Proofs.YtopjffgmpphdbaaDoor.Pure
set_option linter.unusedVariables false
set_option linter.unusedSimpArgs false
namespace Go.Proofs.YtopjffgmpphdbaaDoor.Pr
open Go.RowKit Go.Proofs.YtopjffgmpphdbaaDoorW.PrintWords Go.Proofs.YtopjffgmpphdbaaDoorW.PrintLast
def withoutL (a b : List Int) : List Int := a.filter (fun x => !inB b x)
theorem Without_loop (a b : List Int) (ha : a.length < 17592186044416) (hb : b.length ≤ 9223372036854775807) : ∀ (d i : Nat) (out : List Int), a.length = i + d → out.length ≤ i → Ev (fun k => arboristref01_Without.l0 k a b out (i : Int)) (out ++ withoutL (a.drop i) b) := by
  intro d
  induction d with
  | zero =>
    intro i out h ho
    refine Ev.step (f := fun _ => some (out ++ withoutL (a.drop i) b)) (fun k => ?_) (Ev.now _)
    simp only [arboristref01_Without.l0]
    rw [if_neg (by omega), List.drop_eq_nil_of_le (by omega)]
    simp [withoutL]
  | succ d ih =>
    intro i out h ho
    have hi : i < a.length := by omega
    refine Ev.step (f := fun k => (arboristref01_In.f k b (rd a (i : Int))).bind fun t => if t = true then arboristref01_Without.l0 k a b out ((i + 1 : Nat) : Int) else if out.length < 17592186044416 then arboristref01_Without.l0 k a b (out ++ [rd a (i : Int)]) ((i + 1 : Nat) : Int) else none) (fun k => ?_) ?_
    · simp only [arboristref01_Without.l0]
      rw [if_pos (by omega), if_pos (by omega), wrap_nat i (by omega)]
    · refine Ev.bind (In_ev b hb _) ?_
      rw [drop_at a i hi]
      cases hc : inB b (rd a (i : Int)) with
      | true =>
        have := ih (i + 1) out (by omega) (by omega)
        simpa [withoutL, hc] using this
      | false =>
        have := ih (i + 1) (out ++ [rd a (i : Int)]) (by omega) (by simp; omega)
        have hlt : out.length < 17592186044416 := by omega
        simpa [withoutL, hc, hlt] using this
theorem Without_ev (a b : List Int) (ha : a.length < 17592186044416) (hb : b.length ≤ 9223372036854775807) : Ev (fun k => arboristref01_Without.f k a b) (withoutL a b) := by
  have := Without_loop a b ha hb a.length 0 [] (by omega) (by simp)
  simpa [arboristref01_Without.f] using this
def uniteL : List Int → List Int → List Int
  | [], r => r
  | a :: l, [] => a :: l
  | a :: l, m :: r => if a < m then a :: uniteL l (m :: r) else m :: uniteL (a :: l) r
termination_by a b => a.length + b.length
theorem uniteL_nil (a : List Int) : uniteL a [] = a := by cases a <;> simp [uniteL]
theorem Unite_loop (a m : List Int) (hl : a.length + m.length < 17592186044416) : ∀ (d i j : Nat) (out : List Int), a.length + m.length = i + j + d → i ≤ a.length → j ≤ m.length → out.length ≤ i + j → Ev (fun k => arboristref01_Unite.l0 k a out m (i : Int) (j : Int)) (out ++ uniteL (a.drop i) (m.drop j)) := by
  intro d
  induction d with
  | zero =>
    intro i j out h hi hj ho
    refine Ev.step (f := fun k => arboristref01_Unite.j1 k a out m (i : Int) (j : Int) false) (fun k => ?_) ?_
    · simp only [arboristref01_Unite.l0]
      rw [if_neg (by omega), show decide ((j : Int) < (m.length : Int)) = false from decide_eq_false (by omega)]
    · refine Ev.step (f := fun _ => some (out ++ uniteL (a.drop i) (m.drop j))) (fun k => ?_) (Ev.now _)
      simp only [arboristref01_Unite.j1]
      rw [if_neg (by simp), show a.drop i = [] from List.drop_eq_nil_of_le (by omega), show m.drop j = [] from List.drop_eq_nil_of_le (by omega)]
      simp [uniteL]
  | succ d ih =>
    intro i j out h hi hj ho
    refine Ev.step (f := fun k => arboristref01_Unite.j1 k a out m (i : Int) (j : Int) true) (fun k => ?_) ?_
    · simp only [arboristref01_Unite.l0]
      by_cases h1 : i < a.length
      · rw [if_pos (by omega)]
      · rw [if_neg (by omega), show decide ((j : Int) < (m.length : Int)) = true from decide_eq_true (by omega)]
    · have hlt : out.length < 17592186044416 := by omega
      have left : i < a.length → (j = m.length ∨ (j < m.length ∧ rd a (i : Int) < rd m (j : Int))) → Ev (fun k => arboristref01_Unite.l0 k a (out ++ [rd a (i : Int)]) m ((i + 1 : Nat) : Int) (j : Int)) (out ++ uniteL (a.drop i) (m.drop j)) := by
        intro h1 h2
        have := ih (i + 1) j (out ++ [rd a (i : Int)]) (by omega) (by omega) hj (by simp; omega)
        rw [drop_at a i h1]
        rcases h2 with h2 | ⟨h2, h3⟩
        · rw [show m.drop j = [] from List.drop_eq_nil_of_le (by omega)] at this ⊢
          simpa [uniteL, uniteL_nil] using this
        · rw [drop_at m j h2] at this ⊢
          rw [uniteL, if_pos h3]
          simpa using this
      have right : j < m.length → (i = a.length ∨ (i < a.length ∧ ¬ rd a (i : Int) < rd m (j : Int))) → Ev (fun k => arboristref01_Unite.l0 k a (out ++ [rd m (j : Int)]) m (i : Int) ((j + 1 : Nat) : Int)) (out ++ uniteL (a.drop i) (m.drop j)) := by
        intro h1 h2
        have := ih i (j + 1) (out ++ [rd m (j : Int)]) (by omega) hi (by omega) (by simp; omega)
        rw [drop_at m j h1]
        rcases h2 with h2 | ⟨h2, h3⟩
        · rw [show a.drop i = [] from List.drop_eq_nil_of_le (by omega)] at this ⊢
          simpa [uniteL] using this
        · rw [drop_at a i h2] at this ⊢
          rw [uniteL, if_neg h3]
          simpa using this
      by_cases h1 : j = m.length
      · refine Ev.step (f := fun k => arboristref01_Unite.l0 k a (out ++ [rd a (i : Int)]) m ((i + 1 : Nat) : Int) (j : Int)) (fun k => ?_) (left (by omega) (.inl h1))
        simp only [arboristref01_Unite.j1]
        rw [if_pos trivial, if_pos (by omega), if_pos (by omega), if_pos (by omega), if_pos hlt, wrap_nat i (by omega)]
      · by_cases h2 : i < a.length
        · by_cases h3 : rd a (i : Int) < rd m (j : Int)
          · refine Ev.step (f := fun k => arboristref01_Unite.l0 k a (out ++ [rd a (i : Int)]) m ((i + 1 : Nat) : Int) (j : Int)) (fun k => ?_) (left h2 (.inr ⟨by omega, h3⟩))
            simp only [arboristref01_Unite.j1]
            rw [if_pos trivial, if_neg (by omega), if_pos (by omega), if_pos (by omega), if_pos (by omega), if_pos (by omega), if_pos h3, if_pos hlt, wrap_nat i (by omega)]
          · refine Ev.step (f := fun k => arboristref01_Unite.l0 k a (out ++ [rd m (j : Int)]) m (i : Int) ((j + 1 : Nat) : Int)) (fun k => ?_) (right (by omega) (.inr ⟨h2, h3⟩))
            simp only [arboristref01_Unite.j1]
            rw [if_pos trivial, if_neg (by omega), if_pos (by omega), if_pos (by omega), if_pos (by omega), if_pos (by omega), if_neg h3, if_pos hlt, wrap_nat j (by omega)]
        · refine Ev.step (f := fun k => arboristref01_Unite.l0 k a (out ++ [rd m (j : Int)]) m (i : Int) ((j + 1 : Nat) : Int)) (fun k => ?_) (right (by omega) (.inl (by omega)))
          simp only [arboristref01_Unite.j1]
          rw [if_pos trivial, if_neg (by omega), if_neg (by omega), if_pos (by omega), if_pos (by omega), if_pos hlt, wrap_nat j (by omega)]
theorem withoutL_len (a b : List Int) : (withoutL a b).length ≤ a.length := List.length_filter_le _ _
theorem Unite_ev (a b : List Int) (h : a.length + b.length < 17592186044416) : Ev (fun k => arboristref01_Unite.f k a b) (uniteL a (withoutL b a)) := by
  refine Ev.congr (f := fun k => (arboristref01_Without.f k b a).bind fun t => arboristref01_Unite.l0 k a ([] : List Int) t 0 0) (fun k => rfl) ?_
  have hw := withoutL_len b a
  refine Ev.bind (f := fun k (t : List Int) => arboristref01_Unite.l0 k a ([] : List Int) t 0 0) (Without_ev b a (by omega) (by omega)) ?_
  have := Unite_loop a (withoutL b a) (by omega) (a.length + (withoutL b a).length) 0 0 [] (by omega) (by omega) (by omega) (by simp)
  simpa using this
theorem uniteL_mem (a m : List Int) (x : Int) : x ∈ uniteL a m ↔ x ∈ a ∨ x ∈ m := by
  fun_induction uniteL a m with
  | case1 r => simp
  | case2 a l => simp
  | case3 a l m r h ih => simp only [List.mem_cons, ih]; clear h; grind
  | case4 a l m r h ih => simp only [List.mem_cons, ih]; clear h; grind
theorem uniteL_rise (a m : List Int) : a.Pairwise (· < ·) → m.Pairwise (· < ·) → (∀ x ∈ m, x ∉ a) → (uniteL a m).Pairwise (· < ·) := by
  fun_induction uniteL a m with
  | case1 r => intro _ h _; exact h
  | case2 a l => intro h _ _; exact h
  | case3 a l m r h ih =>
    intro ha hb hd
    obtain ⟨ha1, ha2⟩ := List.pairwise_cons.1 ha
    obtain ⟨hb1, hb2⟩ := List.pairwise_cons.1 hb
    refine List.pairwise_cons.2 ⟨fun x hx => ?_, ih ha2 hb (fun x hx hc => hd x hx (List.mem_cons_of_mem _ hc))⟩
    rcases (uniteL_mem _ _ _).1 hx with hx | hx
    · exact ha1 x hx
    · rcases List.mem_cons.1 hx with rfl | hx
      · exact h
      · have := hb1 x hx; omega
  | case4 a l m r h ih =>
    intro ha hb hd
    obtain ⟨ha1, ha2⟩ := List.pairwise_cons.1 ha
    obtain ⟨hb1, hb2⟩ := List.pairwise_cons.1 hb
    have hne : m ≠ a := fun e => hd m (by simp) (by simp [e])
    refine List.pairwise_cons.2 ⟨fun x hx => ?_, ih ha hb2 (fun x hx => hd x (List.mem_cons_of_mem _ hx))⟩
    rcases (uniteL_mem _ _ _).1 hx with hx | hx
    · rcases List.mem_cons.1 hx with rfl | hx
      · omega
      · have := ha1 x hx; omega
    · exact hb1 x hx
theorem rise_eq : ∀ (a b : List Int), a.Pairwise (· < ·) → b.Pairwise (· < ·) → (∀ x, x ∈ a ↔ x ∈ b) → a = b
  | [], [], _, _, _ => rfl
  | [], y :: m, _, _, h => absurd ((h y).2 (by simp)) (by simp)
  | x :: l, [], _, _, h => absurd ((h x).1 (by simp)) (by simp)
  | x :: l, y :: m, ha, hb, h => by
    obtain ⟨a1, a2⟩ := List.pairwise_cons.1 ha
    obtain ⟨b1, b2⟩ := List.pairwise_cons.1 hb
    have e : x = y := by
      have h1 := (h x).1 (by simp)
      have h2 := (h y).2 (by simp)
      rcases List.mem_cons.1 h1 with h1 | h1
      · exact h1
      · rcases List.mem_cons.1 h2 with h2 | h2
        · exact h2.symm
        · have := a1 y h2
          have := b1 x h1
          omega
    subst e
    congr 1
    refine rise_eq l m a2 b2 (fun z => ?_)
    have hz := h z
    simp only [List.mem_cons] at hz
    constructor
    · intro hl
      have := a1 z hl
      rcases hz.1 (.inr hl) with h | h
      · omega
      · exact h
    · intro hm
      have := b1 z hm
      rcases hz.2 (.inr hm) with h | h
      · omega
      · exact h
end Go.Proofs.YtopjffgmpphdbaaDoor.Pr
set_option linter.unusedVariables false
set_option linter.unusedSimpArgs false
namespace Go.Proofs.YtopjffgmpphdbaaDoor.Pure
open Go.RowKit Go.Proofs.YtopjffgmpphdbaaDoor.Pr Go.Proofs.YtopjffgmpphdbaaDoorW.PrintWords Go.Proofs.YtopjffgmpphdbaaDoorW.PrintLast Go.Proofs.YtopjffgmpphdbaaDoorW.PrintMore
theorem ofT_rise (n : Nat) (g : Nat → Bool) : (ofT n g).Pairwise (· < ·) := by
  unfold ofT
  rw [List.pairwise_map]
  refine List.Pairwise.imp (fun h => ?_) (List.Pairwise.sublist List.filter_sublist List.pairwise_lt_range)
  omega
end Go.Proofs.YtopjffgmpphdbaaDoor.Pure
set_option linter.unusedVariables false
set_option linter.unusedSimpArgs false
set_option linter.unusedSectionVars false
namespace Go.Proofs.YtopjffgmpphdbaaDoor.Pure
open Go.RowKit Go.Proofs.YtopjffgmpphdbaaDoor.Pr Go.Proofs.YtopjffgmpphdbaaDoorW.PrintWords Go.Proofs.YtopjffgmpphdbaaDoorW.PrintLast Go.Proofs.YtopjffgmpphdbaaDoorW.PrintMore
theorem rst_join {n : Nat} {h : Nat → Nat → Bool} (hh : Sy n h) (left : Nat → Bool) (v : Nat) (hlv : left v = true) : goT (rst h left) v = rst (joinBd h (laterN n h left v)) (without left v) := by
  funext p q
  rw [Bool.eq_iff_iff, rst_iff, without_iff, without_iff]
  unfold goT joinBd
  simp only [Bool.and_eq_true, Bool.not_eq_true', decide_eq_false_iff_not, Bool.or_eq_true, rst_iff, decide_eq_true_eq, mem_laterN]
  constructor
  · rintro ⟨h1, h2, h3 | ⟨⟨a1, _, a2⟩, ⟨b1, _, b2⟩, h4⟩⟩
    · exact ⟨.inl h3.1, ⟨h3.2.1, Ne.symm h1⟩, h3.2.2, Ne.symm h2⟩
    · exact ⟨.inr ⟨⟨(hh.2.2 _ _ a1).2, a1, a2⟩, ⟨(hh.2.2 _ _ b1).2, b1, b2⟩, h4⟩, ⟨a2, Ne.symm h1⟩, b2, Ne.symm h2⟩
  · rintro ⟨h1 | ⟨⟨_, a1, a2⟩, ⟨_, b1, b2⟩, h4⟩, ⟨c1, c2⟩, d1, d2⟩
    · exact ⟨Ne.symm c2, Ne.symm d2, .inl ⟨h1, c1, d1⟩⟩
    · exact ⟨Ne.symm c2, Ne.symm d2, .inr ⟨⟨a1, hlv, a2⟩, ⟨b1, hlv, b2⟩, h4⟩⟩
theorem rbag_eq {n : Nat} {h : Nat → Nat → Bool} (hh : Sy n h) (left : Nat → Bool) (v : Nat) (hv : v < n) (hlv : left v = true) : uniteL (ofT n (rst h left v)) (withoutL [(v : Int)] (ofT n (rst h left v))) = bagT n h left v := by
  have hno : (v : Int) ∉ ofT n (rst h left v) := fun hx => by
    obtain ⟨k, hk, e, ek⟩ := mem_ofT.1 hx
    obtain rfl : v = k := by omega
    have := (rst_iff h left v v).1 e
    rw [hh.2.1] at this
    cases this.1
  have hw : withoutL [(v : Int)] (ofT n (rst h left v)) = [(v : Int)] := by
    unfold withoutL
    rw [List.filter_cons_of_pos (by simp [inB]; exact fun x hx e => hno (e ▸ hx))]
    rfl
  rw [hw]
  refine rise_eq _ _ (uniteL_rise _ _ (ofT_rise n _) (List.pairwise_singleton _ _) (fun x hx => by rw [List.mem_singleton.1 hx]; exact hno)) (ofT_rise n _) (fun x => ?_)
  rw [uniteL_mem, List.mem_singleton, mem_bagT, mem_ofT]
  constructor
  · rintro (⟨k, hk, e, rfl⟩ | rfl)
    · have := (rst_iff h left v k).1 e
      exact ⟨k, hk, rfl, .inr ⟨this.1, this.2.2⟩⟩
    · exact ⟨v, hv, rfl, .inl rfl⟩
  · rintro ⟨k, hk, rfl, rfl | e⟩
    · exact .inr rfl
    · exact .inl ⟨k, hk, (rst_iff h left v k).2 ⟨e.1, hlv, e.2⟩, rfl⟩
theorem rbags_l0 {n : Nat} (hn : n ≤ 40) (ln : List Nat) (hl : ∀ x ∈ ln, x < n) (hll : ln.length ≤ 1000) : ∀ (d i : Nat) (h : Nat → Nat → Bool) (left : Nat → Bool) (out : List (List Int)), i + d = ln.length → Sy n h → (∀ v ∈ ln.drop i, left v = true) → (ln.drop i).Nodup → out.length = i → Ev (fun k => arboristref10_Bags.l0 k (mat n (rst h left)) (gI ln) out (i : Int)) (out ++ (fillB n (ln.drop i) h left).1)
  | 0, i, h, left, out, hd, _, _, _, ho => by
    rw [List.drop_eq_nil_of_le (show ln.length ≤ i by omega)]
    refine evs0 (fun k => ?_)
    rw [arboristref10_Bags.l0, if_neg (by rw [gI_len]; omega)]
    exact congrArg some (List.append_nil out).symm
  | d + 1, i, h, left, out, hd, hh, hv, hnd, ho => by
    have hi : i < ln.length := by omega
    have hdr := List.drop_eq_getElem_cons hi
    rw [hdr] at hv hnd
    have hvn : ln[i] < n := hl _ (List.getElem_mem hi)
    have hlv := hv ln[i] List.mem_cons_self
    have e1 := neigh9 n (by omega) (rst h left) ln[i] hvn
    have e2 := Unite_ev (gI (nbN n (rst h left) ln[i])) [((ln[i] : Nat) : Int)] (by have := nbN_len n (rst h left) ln[i]; rw [gI_len]; simp; omega)
    rw [← ofT_nbN, rbag_eq hh left ln[i] hvn hlv, ofT_nbN] at e2
    have e3 := go_ev n (by omega) (rst h left) (hh.rst left) ln[i] hvn
    rw [rst_join hh left ln[i] hlv] at e3
    have e4 := rbags_l0 hn ln hl hll d (i + 1) (joinBd h (laterN n h left ln[i])) (without left ln[i]) (out ++ [bagT n h left ln[i]]) (by omega) (joinBd_sy hh (fun x hx => (mem_laterN.1 hx).1)) (fun v hv' => (without_iff _ _ _).2 ⟨hv v (List.mem_cons_of_mem _ hv'), fun e => (List.nodup_cons.1 hnd).1 (e ▸ hv')⟩) (List.nodup_cons.1 hnd).2 (by simp [ho])
    have hr : out ++ (fillB n (ln.drop i) h left).1 = (out ++ [bagT n h left ln[i]]) ++ (fillB n (ln.drop (i + 1)) (joinBd h (laterN n h left ln[i])) (without left ln[i])).1 := by
      rw [hdr, List.append_assoc]
      rfl
    rw [hr]
    refine evs4 e1 e2 e3 e4 (fun k p1 p2 p3 p4 => ?_)
    rw [arboristref10_Bags.l0, if_pos (by rw [gI_len]; omega), if_pos (by omega), gI_rd, wAt_get ln i hi, p1, Option.bind_some, p2, Option.bind_some, if_pos (by omega), p3, Option.bind_some, wrap_nat i (by omega)]
    exact p4
theorem rbags_ev {n : Nat} (hn : n ≤ 40) {F : Nat → Nat → Bool} (hF : Sy n F) {ln : List Nat} (ho : (gI ln).Perm (idI n)) (hd : ln.Nodup) (hl : ∀ x ∈ ln, x < n) : Ev (fun k => arboristref10_Bags.f k (mat n F) (gI ln)) (fillB n ln F allL).1 := by
  have e := rbags_l0 hn ln hl (by have := ho.length_eq; rw [gI_len, idI_len] at this; omega) ln.length 0 F allL [] (by omega) hF (fun _ _ => rfl) (by rw [List.drop_zero]; exact hd) rfl
  rw [show rst F allL = F from rst_all F, List.drop_zero, List.nil_append] at e
  refine evu2 (copy_ev n (by omega) F) e (fun k p1 p2 => ?_)
  rw [arboristref10_Bags.f, p1, Option.bind_some]
  exact p2
def mostR : List (List Int) → Nat
  | [] => 0
  | b :: B => max b.length (mostR B)
theorem rwidth_l0 (B : List (List Int)) (hB : B.length ≤ 1000) : ∀ (d i c : Nat), i + d = B.length → Ev (fun k => arboristref10_Width.l0 k (c : Int) B (i : Int)) (wrap64 (((max c (mostR (B.drop i)) : Nat) : Int) - 1))
  | 0, i, c, h => evs0 (fun k => by
      rw [arboristref10_Width.l0, if_neg (by omega), List.drop_eq_nil_of_le (by omega), show max c (mostR []) = c from Nat.max_eq_left (Nat.zero_le _)])
  | d + 1, i, c, h => by
    have hi : i < B.length := by omega
    have hm : mx (c : Int) ((B[i].length : Nat) : Int) = ((max c B[i].length : Nat) : Int) := by unfold mx; split <;> omega
    have hmx : max c (mostR (B.drop i)) = max (max c B[i].length) (mostR (B.drop (i + 1))) := by
      rw [List.drop_eq_getElem_cons hi]
      show max c (max _ _) = _
      omega
    have hrd : rd_L1 B (i : Int) = B[i] := by
      unfold rd_L1
      rw [Int.toNat_natCast]
      simp [hi]
    rw [hmx]
    refine evp (rwidth_l0 B hB d (i + 1) (max c B[i].length) (by omega)) (fun k e => ?_)
    rw [arboristref10_Width.l0, if_pos (by omega), if_pos (by omega), hrd, hm, wrap_nat i (by omega)]
    exact e
theorem rwidth_ev {n : Nat} (hn : n ≤ 40) {F : Nat → Nat → Bool} (hF : Sy n F) {ln : List Nat} (ho : (gI ln).Perm (idI n)) (hd : ln.Nodup) (hl : ∀ x ∈ ln, x < n) (hlen : (fillB n ln F allL).1.length ≤ 1000) : Ev (fun k => arboristref10_Width.f k (mat n F) (gI ln)) (wrap64 (((mostR (fillB n ln F allL).1 : Nat) : Int) - 1)) := by
  have e1 := rwidth_l0 (fillB n ln F allL).1 hlen (fillB n ln F allL).1.length 0 0 (by omega)
  rw [List.drop_zero, Nat.zero_max] at e1
  refine evu2 (rbags_ev hn hF ho hd hl) e1 (fun k p1 p2 => ?_)
  rw [arboristref10_Width.f, p1, Option.bind_some]
  exact p2
theorem fillB_pairs {n : Nat} : ∀ (l : List Nat) (h : Nat → Nat → Bool) (left : Nat → Bool), Sy n h → ∀ p q, (fillB n l h left).2 p q = true ↔ h p q = true ∨ ∃ b ∈ (fillB n l h left).1, (p : Int) ∈ b ∧ (q : Int) ∈ b ∧ p ≠ q
  | [], h, left, hh, p, q => ⟨.inl, fun e => e.elim id (fun ⟨b, hb, _⟩ => by cases hb)⟩
  | v :: l, h, left, hh, p, q => by
    have ih := fillB_pairs l (joinBd h (laterN n h left v)) (without left v) (joinBd_sy hh (fun x hx => (mem_laterN.1 hx).1)) p q
    show (fillB n l (joinBd h (laterN n h left v)) (without left v)).2 p q = true ↔ h p q = true ∨ ∃ b ∈ bagT n h left v :: (fillB n l (joinBd h (laterN n h left v)) (without left v)).1, _
    rw [ih]
    constructor
    · rintro (e | ⟨b, hb, e⟩)
      · unfold joinBd at e
        simp only [Bool.or_eq_true, decide_eq_true_eq] at e
        rcases e with e | ⟨e1, e2, e3⟩
        · exact .inl e
        · have m1 := mem_laterN.1 e1
          have m2 := mem_laterN.1 e2
          exact .inr ⟨_, List.mem_cons_self, mem_bagT.2 ⟨p, m1.1, rfl, .inr m1.2⟩, mem_bagT.2 ⟨q, m2.1, rfl, .inr m2.2⟩, e3⟩
      · exact .inr ⟨b, List.mem_cons_of_mem _ hb, e⟩
    · rintro (e | ⟨b, hb, e1, e2, e3⟩)
      · exact .inl (joinBd_ge e)
      · rcases List.mem_cons.1 hb with rfl | hb
        · obtain ⟨p', hp, ep, e1⟩ := mem_bagT.1 e1
          obtain ⟨q', hq, eq, e2⟩ := mem_bagT.1 e2
          obtain rfl : p = p' := by omega
          obtain rfl : q = q' := by omega
          refine .inl ?_
          rcases e1 with rfl | e1
          · rcases e2 with rfl | e2
            · exact absurd rfl e3
            · exact joinBd_ge e2.1
          · rcases e2 with rfl | e2
            · exact joinBd_ge (by rw [hh.1]; exact e1.1)
            · unfold joinBd
              simp only [Bool.or_eq_true, decide_eq_true_eq]
              exact .inr ⟨mem_laterN.2 ⟨hp, e1⟩, mem_laterN.2 ⟨hq, e2⟩, e3⟩
        · exact .inr ⟨b, hb, e1, e2, e3⟩
theorem fillB_gI {n : Nat} : ∀ (l : List Nat) (h : Nat → Nat → Bool) (left : Nat → Bool), ∀ b ∈ (fillB n l h left).1, ∃ bn : List Nat, b = gI bn ∧ bn.Nodup ∧ (∀ x ∈ bn, x < n) ∧ bn.length ≤ n
  | [], _, _, b, hb => by cases hb
  | v :: l, h, left, b, hb => by
    rcases List.mem_cons.1 (show b ∈ bagT n h left v :: (fillB n l (joinBd h (laterN n h left v)) (without left v)).1 from hb) with rfl | hb
    · refine ⟨(List.range n).filter fun k => decide (k = v) || (h v k && left k), rfl, List.nodup_range.sublist List.filter_sublist, fun x hx => List.mem_range.1 (List.mem_filter.1 hx).1, ?_⟩
      exact Nat.le_trans (List.length_filter_le _ _) (by simp)
    · exact fillB_gI l _ _ b hb
def JB (F : Nat → Nat → Bool) (B : List (List Int)) (G : Nat → Nat → Bool) : Prop := ∀ p q, G p q = true ↔ F p q = true ∨ ∃ b ∈ B, (p : Int) ∈ b ∧ (q : Int) ∈ b ∧ p ≠ q
section
variable {n : Nat} (hn : n ≤ 40) (B : List (List Int)) (hB : B.length ≤ 1000)
include hn hB
theorem rjoin_l2 (f : Nat → Nat → Bool) (t : Nat) (ht : t < B.length) (l : List Nat) (hb : B[t] = gI l) (hl : ∀ x ∈ l, x < n) (hll : l.length ≤ 1000) (R : List (List Bool)) (i : Nat) (hi : i < l.length)
    (H : ∀ g, Did f l (i + 1) 0 g → Ev (fun k => arboristref10_Joined.l1 k (mat n g) B (t : Int) ((i + 1 : Nat) : Int)) R) (d : Nat) : ∀ j g, j + d = l.length → Did f l i j g → Ev (fun k => arboristref10_Joined.l2 k (mat n g) B (t : Int) (i : Int) (j : Int)) R := by
  have hrd : rd_L1 B (t : Int) = gI l := by
    rw [← hb]
    unfold rd_L1
    rw [Int.toNat_natCast]
    simp [ht]
  induction d with
  | zero =>
    intro j g h hg
    obtain rfl : j = l.length := by omega
    refine evp (H g (fun p q => by
      rw [hg]
      constructor
      · rintro (a | ⟨i', k', h1, h2, h3, h4, h5⟩)
        · exact .inl a
        · exact .inr ⟨i', k', h1, h2, h3, .inl (by omega), h5⟩
      · rintro (a | ⟨i', k', h1, h2, h3, h4, h5⟩)
        · exact .inl a
        · exact .inr ⟨i', k', h1, h2, h3, by omega, h5⟩)) (fun k e => ?_)
    rw [arboristref10_Joined.l2, if_pos (by omega), if_pos (by omega), hrd, gI_len, if_neg (by omega), wrap_nat i (by omega)]
    exact e
  | succ d ih =>
    intro j g h hg
    have h1 := hl _ (wAt_in hi)
    have h2 := hl _ (wAt_in (show j < l.length by omega))
    by_cases c : i = j
    · subst c
      refine evp (ih (i + 1) g (by omega) (fun p q => by
        rw [hg]
        constructor
        · rintro (a | ⟨i', k', q1, q2, q3, q4, q5⟩)
          · exact .inl a
          · exact .inr ⟨i', k', q1, q2, q3, by omega, q5⟩
        · rintro (a | ⟨i', k', q1, q2, q3, q4, q5⟩)
          · exact .inl a
          · exact .inr ⟨i', k', q1, q2, q3, by omega, q5⟩)) (fun k e => ?_)
      rw [arboristref10_Joined.l2, if_pos (by omega), if_pos (by omega), hrd, gI_len, if_pos (by omega), if_pos rfl, wrap_nat i (by omega)]
      exact e
    · refine evp (ih (j + 1) (setT g (wAt l i) (wAt l j) true) (by omega) (fun p q => by
        rw [setT_true, hg]
        constructor
        · rintro ((a | ⟨i', k', q1, q2, q3, q4, q5⟩) | ⟨e1, e2⟩)
          · exact .inl a
          · exact .inr ⟨i', k', q1, q2, q3, by omega, q5⟩
          · exact .inr ⟨i, j, hi, by omega, c, .inr ⟨rfl, by omega⟩, e1.symm, e2.symm⟩
        · rintro (a | ⟨i', k', q1, q2, q3, q4, q5, q6⟩)
          · exact .inl (.inl a)
          · by_cases cc : i' = i ∧ k' = j
            · rw [cc.1] at q5; rw [cc.2] at q6; exact .inr ⟨q5.symm, q6.symm⟩
            · exact .inl (.inr ⟨i', k', q1, q2, q3, by omega, q5, q6⟩))) (fun k e => ?_)
      have e1 := setT_mat n g (wAt l i) (wAt l j) true h1 h2
      rw [mat_rd n g _ h1] at e1
      rw [arboristref10_Joined.l2, if_pos (by omega), if_pos (by omega), hrd, gI_len, if_pos (by omega), if_neg (by omega), if_pos (by omega), if_pos (by omega), gI_rd, gI_rd, if_pos (by omega), mat_len, if_pos (by omega), if_pos (by omega), if_pos (by omega), mat_rd n g _ h1, rowT_len, if_pos (by omega), Int.toNat_natCast, Int.toNat_natCast, e1, wrap_nat j (by omega)]
      exact e
theorem rjoin_l1 (f : Nat → Nat → Bool) (t : Nat) (ht : t < B.length) (l : List Nat) (hb : B[t] = gI l) (hl : ∀ x ∈ l, x < n) (hll : l.length ≤ 1000) (R : List (List Bool))
    (H : ∀ g, Did f l l.length 0 g → Ev (fun k => arboristref10_Joined.l0 k (mat n g) B ((t + 1 : Nat) : Int)) R) (d : Nat) : ∀ i g, i + d = l.length → Did f l i 0 g → Ev (fun k => arboristref10_Joined.l1 k (mat n g) B (t : Int) (i : Int)) R := by
  have hrd : rd_L1 B (t : Int) = gI l := by
    rw [← hb]
    unfold rd_L1
    rw [Int.toNat_natCast]
    simp [ht]
  induction d with
  | zero =>
    intro i g h hg
    obtain rfl : i = l.length := by omega
    refine evp (H g hg) (fun k e => ?_)
    rw [arboristref10_Joined.l1, if_pos (by omega), if_pos (by omega), hrd, gI_len, if_neg (by omega), wrap_nat t (by omega)]
    exact e
  | succ d ih =>
    intro i g h hg
    refine evp (rjoin_l2 hn B hB f t ht l hb hl hll R i (by omega) (fun g' hg' => ih (i + 1) g' (by omega) hg') l.length 0 g (by omega) hg) (fun k e => ?_)
    rw [arboristref10_Joined.l1, if_pos (by omega), if_pos (by omega), hrd, gI_len, if_pos (by omega)]
    exact e
theorem rjoin_l0 (F : Nat → Nat → Bool) (hb : ∀ b ∈ B, ∃ bn : List Nat, b = gI bn ∧ bn.Nodup ∧ (∀ x ∈ bn, x < n) ∧ bn.length ≤ n) (R : List (List Bool)) (H : ∀ g, JB F B g → mat n g = R) : ∀ (d i : Nat) (g : Nat → Nat → Bool), i + d = B.length → JB F (B.take i) g → Ev (fun k => arboristref10_Joined.l0 k (mat n g) B (i : Int)) R
  | 0, i, g, h, hg => evs0 (fun k => by
      rw [arboristref10_Joined.l0, if_neg (by omega), H g (by rw [List.take_of_length_le (show B.length ≤ i by omega)] at hg; exact hg)])
  | d + 1, i, g, h, hg => by
    have hi : i < B.length := by omega
    obtain ⟨bn, e, hd, hl, hll⟩ := hb B[i] (List.getElem_mem hi)
    have h1 := rjoin_l1 hn B hB g i hi bn e hl (by omega) R (fun g' hg' => rjoin_l0 F hb R H d (i + 1) g' (by omega) (fun p q => by
      rw [hg' p q, hg p q, List.take_succ_eq_append_getElem hi, e]
      have key : (∃ i' k', i' < bn.length ∧ k' < bn.length ∧ i' ≠ k' ∧ (i' < bn.length ∨ (i' = bn.length ∧ k' < 0)) ∧ wAt bn i' = p ∧ wAt bn k' = q) ↔ ((p : Int) ∈ gI bn ∧ (q : Int) ∈ gI bn ∧ p ≠ q) := by
        constructor
        · rintro ⟨i', k', q1, q2, q3, _, rfl, rfl⟩
          refine ⟨List.mem_map.2 ⟨_, wAt_in q1, rfl⟩, List.mem_map.2 ⟨_, wAt_in q2, rfl⟩, fun ee => q3 ?_⟩
          rw [wAt_get bn i' q1, wAt_get bn k' q2] at ee
          exact nodup_at hd q1 q2 ee
        · rintro ⟨hp, hq, hne⟩
          obtain ⟨p', hp, ep⟩ := List.mem_map.1 hp
          obtain ⟨q', hq, eq⟩ := List.mem_map.1 hq
          obtain rfl : p = p' := by omega
          obtain rfl : q = q' := by omega
          obtain ⟨i', q1, e1⟩ := List.getElem_of_mem hp
          obtain ⟨k', q2, e2⟩ := List.getElem_of_mem hq
          refine ⟨i', k', q1, q2, fun ee => hne ?_, .inl q1, by rw [wAt_get bn i' q1, e1], by rw [wAt_get bn k' q2, e2]⟩
          subst ee
          rw [← e1, ← e2]
      rw [key]
      constructor
      · rintro ((a | ⟨b, hb', hx⟩) | hx)
        · exact .inl a
        · exact .inr ⟨b, List.mem_append_left _ hb', hx⟩
        · exact .inr ⟨_, List.mem_append_right _ List.mem_cons_self, hx⟩
      · rintro (a | ⟨b, hb', hx⟩)
        · exact .inl (.inl a)
        · rcases List.mem_append.1 hb' with hb' | hb'
          · exact .inl (.inr ⟨b, hb', hx⟩)
          · rw [List.mem_singleton.1 hb'] at hx
            exact .inr hx)) bn.length 0 g (by omega) (fun p q => by
      constructor
      · exact .inl
      · rintro (a | ⟨i', k', _, _, _, h4, _⟩)
        · exact a
        · omega)
    refine evp h1 (fun k e => ?_)
    rw [arboristref10_Joined.l0, if_pos (by omega)]
    exact e
end
theorem rjoined_ev {n : Nat} (hn : n ≤ 40) {F : Nat → Nat → Bool} (hF : Sy n F) {ln : List Nat} (hlen : (fillB n ln F allL).1.length ≤ 1000) : Ev (fun k => arboristref10_Joined.f k (mat n F) (fillB n ln F allL).1) (mat n (fillB n ln F allL).2) := by
  have hp := fillB_pairs (n := n) ln F allL hF
  have hg := fillB_gI (n := n) ln F allL
  generalize (fillB n ln F allL).1 = B at *
  generalize (fillB n ln F allL).2 = G at *
  have e := rjoin_l0 hn B hlen F hg (mat n G) (fun g hg' => mat_congr (fun p q _ _ => by rw [Bool.eq_iff_iff, hg' p q, hp p q])) B.length 0 F (by omega) (fun p q => ⟨.inl, fun e => e.elim id (fun ⟨b, hb, _⟩ => by simp at hb)⟩)
  refine evu2 (copy_ev n (by omega) F) e (fun k p1 p2 => ?_)
  rw [arboristref10_Joined.f, p1, Option.bind_some]
  exact p2
def PS (n : Nat) (F : Nat → Nat → Bool) (left : Nat → Bool) : Prop := ∃ l : List Nat, l.Nodup ∧ (∀ x, x ∈ l ↔ (x < n ∧ left x = true)) ∧ Simp F (gI l)
theorem simp_cons_iff (F : Nat → Nat → Bool) (v : Nat) (l : List Nat) : Simp F (gI (v :: l)) ↔ (∀ a ∈ l, ∀ b ∈ l, F v a = true → F v b = true → a ≠ b → F a b = true) ∧ Simp F (gI l) := by
  constructor
  · rintro ⟨h1, h2⟩
    refine ⟨fun a ha b hb e1 e2 e3 => ?_, h2⟩
    have := h1 (a : Int) (List.mem_map.2 ⟨a, ha, rfl⟩) (b : Int) (List.mem_map.2 ⟨b, hb, rfl⟩) (by rw [Int.toNat_natCast, Int.toNat_natCast]; exact e1) (by rw [Int.toNat_natCast, Int.toNat_natCast]; exact e2) (by omega)
    rw [Int.toNat_natCast, Int.toNat_natCast] at this
    exact this
  · rintro ⟨h1, h2⟩
    refine ⟨fun a ha b hb e1 e2 e3 => ?_, h2⟩
    obtain ⟨a', ha', rfl⟩ := List.mem_map.1 ha
    obtain ⟨b', hb', rfl⟩ := List.mem_map.1 hb
    rw [Int.toNat_natCast, Int.toNat_natCast] at *
    exact h1 a' ha' b' hb' e1 e2 (fun e => e3 (by rw [e]))
theorem simp_sub (F : Nat → Nat → Bool) {l' l : List Nat} (h : l'.Sublist l) : Simp F (gI l) → Simp F (gI l') := by
  induction h with
  | slnil => exact id
  | cons a h ih => exact fun hs => ih ((simp_cons_iff F a _).1 hs).2
  | cons_cons a h ih =>
    intro hs
    have := (simp_cons_iff F a _).1 hs
    exact (simp_cons_iff F a _).2 ⟨fun x hx y hy => this.1 x (h.subset hx) y (h.subset hy), ih this.2⟩
theorem ps_next {n : Nat} {F : Nat → Nat → Bool} (hF : Sy n F) (left : Nat → Bool) (v : Nat) (hv : v < n) (hl : left v = true) (hm : missT n (rst F left) v = 0) : PS n F left ↔ PS n F (without left v) := by
  have hz := (missT_zero (hF.rst left) v).1 hm
  constructor
  · rintro ⟨l, h1, h2, h3⟩
    refine ⟨l.erase v, h1.erase v, fun x => ?_, simp_sub F List.erase_sublist h3⟩
    rw [h1.mem_erase_iff, h2, without_iff]
    exact ⟨fun ⟨a, b, c⟩ => ⟨b, c, Ne.symm a⟩, fun ⟨a, b, c⟩ => ⟨Ne.symm c, a, b⟩⟩
  · rintro ⟨l, h1, h2, h3⟩
    have hno : v ∉ l := fun h => ((without_iff left v v).1 ((h2 v).1 h).2).2 rfl
    refine ⟨v :: l, List.nodup_cons.2 ⟨hno, h1⟩, fun x => ?_, (simp_cons_iff F v l).2 ⟨fun a ha b hb e1 e2 e3 => ?_, h3⟩⟩
    · rw [List.mem_cons, h2, without_iff]
      constructor
      · rintro (rfl | ⟨a, b, _⟩)
        · exact ⟨hv, hl⟩
        · exact ⟨a, b⟩
      · rintro ⟨a, b⟩
        by_cases c : x = v
        · exact .inl c
        · exact .inr ⟨a, b, Ne.symm c⟩
    · have ha' := (without_iff left v a).1 ((h2 a).1 ha).2
      have hb' := (without_iff left v b).1 ((h2 b).1 hb).2
      exact ((rst_iff F left a b).1 (hz a b ((rst_iff F left v a).2 ⟨e1, hl, ha'.1⟩) ((rst_iff F left v b).2 ⟨e2, hl, hb'.1⟩) e3)).1
theorem ps_some {n : Nat} {F : Nat → Nat → Bool} (hF : Sy n F) (left : Nat → Bool) (hp : PS n F left) (hs : ∃ x, x < n ∧ left x = true) : ∃ v, v < n ∧ left v = true ∧ missT n (rst F left) v = 0 := by
  obtain ⟨l, h1, h2, h3⟩ := hp
  cases l with
  | nil =>
    obtain ⟨x, hx⟩ := hs
    exact absurd ((h2 x).2 hx) List.not_mem_nil
  | cons v l =>
    have hv := (h2 v).1 List.mem_cons_self
    refine ⟨v, hv.1, hv.2, (missT_zero (hF.rst left) v).2 (fun a b e1 e2 e3 => ?_)⟩
    have r1 := (rst_iff F left v a).1 e1
    have r2 := (rst_iff F left v b).1 e2
    have m1 := (List.mem_cons.1 ((h2 a).2 ⟨(hF.2.2 _ _ r1.1).2, r1.2.2⟩)).resolve_left (fun e => by rw [e, hF.2.1] at r1; cases r1.1)
    have m2 := (List.mem_cons.1 ((h2 b).2 ⟨(hF.2.2 _ _ r2.1).2, r2.2.2⟩)).resolve_left (fun e => by rw [e, hF.2.1] at r2; cases r2.1)
    exact (rst_iff F left a b).2 ⟨((simp_cons_iff F v l).1 h3).1 a m1 b m2 r1.1 r2.1 e3, r1.2.2, r2.2.2⟩
theorem chord_l1 {n : Nat} (hn : n ≤ 40) {F : Nat → Nat → Bool} (hF : Sy n F) (left : Nat → Bool) (t : Nat) (ht : t < n) (b : Bool) (Hf : ∀ v, v < n → left v = true → missT n (rst F left) v = 0 → Ev (fun k => arboristref10_Chordal.l0 k (mat n (rst F (without left v))) (rowT n fun i => !(without left v i)) ((t + 1 : Nat) : Int)) b) (Hn : (∀ v, v < n → left v = true → missT n (rst F left) v ≠ 0) → b = false) :
    ∀ (d v : Nat), v + d = n → (∀ u, u < v → left u = true → missT n (rst F left) u ≠ 0) → Ev (fun k => arboristref10_Chordal.l1 k (mat n (rst F left)) (rowT n fun i => !left i) (t : Int) false (v : Int)) b
  | 0, v, h, hu => by
    rw [Hn (fun u hu' => hu u (by omega))]
    refine evp (g := fun k => arboristref10_Chordal.j2 k (mat n (rst F left)) (rowT n fun i => !left i) (t : Int) false (v : Int) false) (evs0 (fun k => ?_)) (fun k e => ?_)
    · rw [arboristref10_Chordal.j2, if_neg (by decide), if_neg (by decide)]
    · rw [arboristref10_Chordal.l1, if_neg (by rw [mat_len]; omega)]
      exact e
  | d + 1, v, h, hu => by
    have hv : v < n := by omega
    have hstep : Ev (fun k => arboristref10_Chordal.j2 k (mat n (rst F left)) (rowT n fun i => !left i) (t : Int) false (v : Int) true) b := by
      cases hl : left v with
      | false =>
        refine evp (chord_l1 hn hF left t ht b Hf Hn d (v + 1) (by omega) (fun u hu' h1 => by
          by_cases c : u = v
          · subst c; rw [hl] at h1; cases h1
          · exact hu u (by omega) h1)) (fun k e => ?_)
        rw [arboristref10_Chordal.j2, if_pos rfl, if_pos (by omega), if_pos (by rw [rowT_len]; omega), rowT_rd n _ v hv, hl, if_pos (show (!false) = true from rfl), wrap_nat v (by omega)]
        exact e
      | true =>
        by_cases c0 : missT n (rst F left) v = 0
        · have hz := (missT_zero (hF.rst left) v).1 c0
          have hgo := go_ev n (by omega) (rst F left) (hF.rst left) v hv
          rw [rst_go hF left v (fun a b' ha hb e1 e2 e3 => by
            have ha' := (without_iff left v a).1 ha
            have hb' := (without_iff left v b').1 hb
            exact ((rst_iff F left a b').1 (hz a b' ((rst_iff F left v a).2 ⟨e1, hl, ha'.1⟩) ((rst_iff F left v b').2 ⟨e2, hl, hb'.1⟩) e3)).1)] at hgo
          have hj : Ev (fun k => arboristref10_Chordal.j2 k (mat n (rst F (without left v))) (rowT n fun i => !(without left v i)) (t : Int) true ((v + 1 : Nat) : Int) false) b := evp (Hf v hv hl c0) (fun k e => by
            rw [arboristref10_Chordal.j2, if_neg (by decide), if_pos rfl, wrap_nat t (by omega)]
            exact e)
          have hl1 : Ev (fun k => arboristref10_Chordal.l1 k (mat n (rst F (without left v))) (rowT n fun i => !(without left v i)) (t : Int) true ((v + 1 : Nat) : Int)) b := evp hj (fun k e => by
            rw [arboristref10_Chordal.l1]
            split <;> exact e)
          refine evs3 (missing_ev n (by omega) (rst F left) v hv) hgo hl1 (fun k e1 e2 e3 => ?_)
          rw [arboristref10_Chordal.j2, if_pos rfl, if_pos (by omega), if_pos (by rw [rowT_len]; omega), rowT_rd n _ v hv, hl, if_neg (by decide), e1, Option.bind_some, c0, if_pos (by rfl), e2, Option.bind_some, Int.toNat_natCast, gone_set, wrap_nat v (by omega)]
          exact e3
        · refine evs2 (missing_ev n (by omega) (rst F left) v hv) (chord_l1 hn hF left t ht b Hf Hn d (v + 1) (by omega) (fun u hu' h1 => by
            by_cases c : u = v
            · subst c; exact c0
            · exact hu u (by omega) h1)) (fun k e1 e => ?_)
          rw [arboristref10_Chordal.j2, if_pos rfl, if_pos (by omega), if_pos (by rw [rowT_len]; omega), rowT_rd n _ v hv, hl, if_neg (by decide), e1, Option.bind_some, if_neg (by omega), wrap_nat v (by omega)]
          exact e
    refine evp hstep (fun k e => ?_)
    rw [arboristref10_Chordal.l1, if_pos (by rw [mat_len]; omega)]
    exact e
theorem chord_l0 {n : Nat} (hn : n ≤ 40) {F : Nat → Nat → Bool} (hF : Sy n F) : ∀ (d t : Nat) (left : Nat → Bool) (b : Bool), t + d = n → (List.range n).countP left = d → (b = true ↔ PS n F left) → Ev (fun k => arboristref10_Chordal.l0 k (mat n (rst F left)) (rowT n fun i => !left i) (t : Int)) b
  | 0, t, left, b, h, hc, hb => by
    have : b = true := hb.2 ⟨[], List.nodup_nil, fun x => ⟨fun e => absurd e List.not_mem_nil, fun ⟨e1, e2⟩ => absurd e2 (List.countP_eq_zero.1 hc x (List.mem_range.2 e1))⟩, trivial⟩
    rw [this]
    exact evs0 (fun k => by rw [arboristref10_Chordal.l0, if_neg (by rw [mat_len]; omega)])
  | d + 1, t, left, b, h, hc, hb => by
    have hl1 := chord_l1 hn hF left t (by omega) b (fun v hv hl hm => chord_l0 hn hF d (t + 1) (without left v) b (by omega) (by
      have := cnt_without left v n
      rw [if_pos ⟨hv, hl⟩] at this
      omega) (hb.trans (ps_next hF left v hv hl hm))) (fun hno => by
      cases hbb : b with
      | false => rfl
      | true =>
        obtain ⟨x, hx, hx2⟩ : ∃ x, x ∈ List.range n ∧ left x = true := by
          refine Classical.byContradiction (fun hc2 => ?_)
          have : (List.range n).countP left = 0 := List.countP_eq_zero.2 (fun x hx hx2 => hc2 ⟨x, hx, hx2⟩)
          omega
        obtain ⟨v, h1, h2, h3⟩ := ps_some hF left (hb.1 hbb) ⟨x, List.mem_range.1 hx, hx2⟩
        exact absurd h3 (hno v h1 h2)) n 0 (by omega) (fun u hu => by omega)
    refine evp hl1 (fun k e => ?_)
    rw [arboristref10_Chordal.l0, if_pos (by rw [mat_len]; omega)]
    exact e
theorem rchord_ev {n : Nat} (hn : n ≤ 40) {F : Nat → Nat → Bool} (hF : Sy n F) (b : Bool) (hb : b = true ↔ PS n F allL) : Ev (fun k => arboristref10_Chordal.f k (mat n F)) b := by
  have e := chord_l0 hn hF n 0 allL b (by omega) (by show (List.range n).countP (fun _ => true) = n; simp) hb
  rw [show rst F allL = F from rst_all F] at e
  refine evu2 (copy_ev n (by omega) F) e (fun k p1 p2 => ?_)
  rw [arboristref10_Chordal.f, p1, Option.bind_some, mat_len, if_pos (by omega), if_pos (by omega), Int.toNat_natCast, rep_row n]
  exact p2
theorem equal_no (l m : List Int) (hl : l.length < 9223372036854775807) (hlm : l.length = m.length) (c : Int) (hc : c = (l.length : Int)) (hne : l ≠ m) : ∀ (d i : Nat), i + d = l.length → l.take i = m.take i → Ev (fun k => slices_Equal_uint64_uint64.l0 k l m c (i : Int)) false
  | 0, i, h, ht => absurd (by rw [List.take_of_length_le (by omega), List.take_of_length_le (by omega)] at ht; exact ht) hne
  | d + 1, i, h, ht => by
    have h1 : i < l.length := by omega
    have h2 : i < m.length := by omega
    have r1 : rd l (i : Int) = l[i] := rd_nat l i _ (List.getElem?_eq_getElem h1)
    have r2 : rd m (i : Int) = m[i] := rd_nat m i _ (List.getElem?_eq_getElem h2)
    by_cases e : l[i] = m[i]
    · refine evp (equal_no l m hl hlm c hc hne d (i + 1) (by omega) (by rw [List.take_succ_eq_append_getElem h1, List.take_succ_eq_append_getElem h2, ht, e])) (fun k p => ?_)
      rw [slices_Equal_uint64_uint64.l0, if_pos (by omega), if_pos (by omega), if_pos (by omega), if_pos (by omega), r1, r2, if_pos e, wrap_nat i (by omega)]
      exact p
    · exact evs0 (fun k => by
        rw [slices_Equal_uint64_uint64.l0, if_pos (by omega), if_pos (by omega), if_pos (by omega), if_pos (by omega), r1, r2, if_neg e])
theorem gI_inj {a b : List Nat} (h : gI a = gI b) : a = b := by
  have h2 := congrArg (List.map Int.toNat) h
  unfold gI at h2
  rw [List.map_map, List.map_map] at h2
  simpa [Function.comp_def] using h2
theorem pchord_ev {n : Nat} (hn : n ≤ 40) {F : Nat → Nat → Bool} (hF : Sy n F) (b : Bool) (hb : b = true ↔ PS n F allL) : Ev (fun k => fill_Chordal.f k (gI (gW n F))) b := by
  cases hbb : b with
  | true =>
    obtain ⟨l, h1, h2, h3⟩ := hb.1 hbb
    refine chordal_ev hn hF (ln := l) ?_ h3
    refine perm_of_in (idI n) (gI l) (idI_nodup n) (fun x hx => ?_) (len_sub ?_ (fun _ h => h) (fun x hx => ?_))
    · obtain ⟨k, hk, rfl⟩ := mem_idI.1 hx
      exact List.mem_map.2 ⟨k, (h2 k).2 ⟨hk, rfl⟩, rfl⟩
    · unfold gI
      rw [List.Nodup, List.pairwise_map]
      exact h1.imp (fun h e => h (by omega))
    · obtain ⟨k, hk, rfl⟩ := List.mem_map.1 hx
      exact mem_idI.2 ⟨k, ((h2 k).1 hk).1, rfl⟩
  | false =>
    have hp := orderT_perm 3 n (by omega) F
    obtain ⟨lo, elo, hd, hl⟩ := toN_of hp
    rw [elo] at hp
    have hf := filled_f hn hF hp hd hl
    have hG := fillB_sy (n := n) lo F allL hF
    have hS := fillB_simp (n := n) lo F allL hF (fun v hv => ⟨hl v hv, rfl⟩) hd
    generalize (fillB n lo F allL).2 = G at *
    have hne : gI (gW n G) ≠ gI (gW n F) := fun e => by
      have e2 : gW n G = gW n F := gI_inj e
      have e3 : G = F := by
        funext p q
        by_cases hpq : p < n ∧ q < n
        · have a1 := gW_bit n G p q
          have a2 := gW_bit n F p q
          rw [e2, a2, decide_eq_true hpq.1, decide_eq_true hpq.2] at a1
          simpa using a1.symm
        · rw [Bool.eq_iff_iff]
          exact ⟨fun h => absurd (hG.2.2 _ _ h) hpq, fun h => absurd (hF.2.2 _ _ h) hpq⟩
      subst e3
      have : b = true := hb.2 ⟨lo, hd, fun x => ⟨fun h => ⟨hl x h, rfl⟩, fun h => in_of hp x h.1⟩, hS⟩
      rw [hbb] at this
      cases this
    have hl2 : (gI (gW n G)).length = (gI (gW n F)).length := by rw [gI_len, gI_len, gW_len, gW_len]
    have e2 := equal_no (gI (gW n G)) (gI (gW n F)) (by rw [gI_len, gW_len]; omega) hl2 _ rfl hne (gI (gW n G)).length 0 (by omega) rfl
    refine evu2 (of_ev 3 (by decide) (by decide) n hn F hF) e2 (fun k e1 e2 => ?_)
    unfold fill_Chordal.f
    rw [e1, Option.bind_some, elo, hf, Option.bind_some, if_pos rfl]
    show (slices_Equal_uint64_uint64.f k (gI (gW n G)) (gI (gW n F))).bind _ = _
    unfold slices_Equal_uint64_uint64.f
    rw [if_pos (by omega)]
    have e3 : slices_Equal_uint64_uint64.l0 k (gI (gW n G)) (gI (gW n F)) ((gI (gW n G)).length : Int) 0 = some false := e2
    rw [e3]
    rfl
def tellsT (k : Nat) (hd : Bool) (M : List (List Bool)) (G o : List Int) : Option Bool := ((fill_Filled.f G o).bind fun bt566 => ((fill_Bags.f G o).bind fun bt571 => ((fill_Width.f k G o).bind fun bt575 => ((arboristref09_Valid.f k (M.length : Int) o).bind fun t577 => ((fill_Chordal.f k G).bind fun t578 => ((arboristref10_Chordal.f k M).bind fun t579 => (if (t578 != t579) = true then (some false) else (if t577 = true then ((arboristref10_Bags.f k M o).bind fun t580 => (if hd = true then (if bt566.2 = 0 then (if bt571.2 = 0 then (if bt575.2 = 0 then ((arboristlaw10_same.f k bt571.1 t580).bind fun t583 => (if t583 = true then ((arboristref10_Joined.f k M t580).bind fun t584 => ((arboristlaw10_alike.f k bt566.1 t584).bind fun t587 => (if t587 = true then ((arboristref10_Width.f k M o).bind fun t588 => (some (bt575.1 == t588))) else (some false)))) else (some false))) else (some false)) else (some false)) else (some false)) else (some false))) else (if hd = true then (if bt566.2 = 8 then (if bt571.2 = 8 then (if bt575.2 = 8 then (if (bt566.1.length : Int) = 0 then (if (bt571.1.length : Int) = 0 then (some (bt575.1 == 0)) else (some false)) else (some false)) else (some false)) else (some false)) else (some false)) else (some false))))))))))
theorem most_same : ∀ B : List (List Int), mostR B = mostL B
  | [] => rfl
  | b :: B => by
    show max b.length (mostR B) = max b.length (mostL B)
    rw [most_same B]
theorem tells_ok {n : Nat} (hn : n ≤ 40) {F : Nat → Nat → Bool} (hF : Sy n F) {ln : List Nat} (hop : (gI ln).Perm (idI n)) (hd : ln.Nodup) (hl : ∀ x ∈ ln, x < n) : Ev (fun k => tellsT k true (mat n F) (gI (gW n F)) (gI ln)) true := by
  obtain ⟨b, hb⟩ : ∃ b : Bool, b = true ↔ PS n F allL := by
    by_cases c : PS n F allL
    · exact ⟨true, fun _ => c, fun _ => rfl⟩
    · exact ⟨false, fun h => (by cases h), fun h => absurd h c⟩
  have hlen := fillB_len (n := n) ln F allL
  have hg := gI_perm_len hop
  have hcl := fillB_cliq (n := n) ln F allL hF
  have e1 := filled_f hn hF hop hd hl
  have e2 := bags_f hn hF hop hd hl
  have e3 := most_ev hn hF hop hd hl
  have e4 := rvalid_ev n (by omega) (gI ln)
  rw [validB_of hop] at e4
  have e5 := pchord_ev hn hF b hb
  have e6 := rchord_ev hn hF b hb
  have e7 := rbags_ev hn hF hop hd hl
  have e8 := rjoined_ev hn hF (ln := ln) (by omega)
  have e9 := rwidth_ev hn hF hop hd hl (by omega)
  rw [most_same] at e9
  have hG := fillB_sy (n := n) ln F allL hF
  generalize (fillB n ln F allL).1 = B at *
  generalize (fillB n ln F allL).2 = G at *
  have e10 := same_ev B (by omega) (fun b hb => by have := (hcl b hb).2; omega)
  have e11 := alike_ev hn G
  obtain ⟨K3, e3⟩ := e3; obtain ⟨K4, e4⟩ := e4; obtain ⟨K5, e5⟩ := e5; obtain ⟨K6, e6⟩ := e6; obtain ⟨K7, e7⟩ := e7; obtain ⟨K8, e8⟩ := e8; obtain ⟨K9, e9⟩ := e9; obtain ⟨K10, e10⟩ := e10; obtain ⟨K11, e11⟩ := e11
  refine ⟨K3 + K4 + K5 + K6 + K7 + K8 + K9 + K10 + K11, fun k hk => ?_⟩
  have p3 := e3 k (by omega); have p4 := e4 k (by omega); have p5 := e5 k (by omega); have p6 := e6 k (by omega); have p7 := e7 k (by omega); have p8 := e8 k (by omega); have p9 := e9 k (by omega); have p10 := e10 k (by omega); have p11 := e11 k (by omega)
  simp only at p3 p4 p5 p6 p7 p8 p9 p10 p11
  show tellsT k true (mat n F) (gI (gW n F)) (gI ln) = some true
  unfold tellsT
  rw [e1, Option.bind_some, e2, Option.bind_some, p3, Option.bind_some, mat_len, p4, Option.bind_some, p5, Option.bind_some, p6, Option.bind_some, bne_self_eq_false, if_neg (by decide), if_pos rfl, p7, Option.bind_some, if_pos rfl, if_pos rfl, if_pos rfl, if_pos rfl, p10, Option.bind_some, if_pos rfl, p8, Option.bind_some, p11, Option.bind_some, if_pos rfl, p9, Option.bind_some, beq_self_eq_true]
theorem tells_bad {n : Nat} (hn : n ≤ 40) {F : Nat → Nat → Bool} (hF : Sy n F) (o : List Int) (hol : o.length ≤ 1000) (hv : validB n o = false) : Ev (fun k => tellsT k true (mat n F) (gI (gW n F)) o) true := by
  obtain ⟨b, hb⟩ : ∃ b : Bool, b = true ↔ PS n F allL := by
    by_cases c : PS n F allL
    · exact ⟨true, fun _ => c, fun _ => rfl⟩
    · exact ⟨false, fun h => (by cases h), fun h => absurd h c⟩
  have ha := all_bad (n := n) F o (by omega) hv
  have e1 : fill_Filled.f (gI (gW n F)) o = some ([], 8) := by
    unfold fill_Filled.f
    rw [ha, Option.bind_some, if_neg (by decide)]
  have e2 : fill_Bags.f (gI (gW n F)) o = some ([], 8) := by
    unfold fill_Bags.f
    rw [ha, Option.bind_some]
  have e3 : Ev (fun k => fill_Width.f k (gI (gW n F)) o) (0, 8) := by
    refine evu1 (g1 := fun k => fill_Width.l0 k 8 0 [] 0 0) (evs0 (fun k => by rw [fill_Width.l0, if_neg (by decide), if_neg (by decide)])) (fun k e => ?_)
    unfold fill_Width.f
    rw [e2, Option.bind_some]
    exact e
  have e4 := rvalid_ev n (by omega) o
  rw [hv] at e4
  refine evu4 e3 e4 (pchord_ev hn hF b hb) (rchord_ev hn hF b hb) (fun k p3 p4 p5 p6 => ?_)
  unfold tellsT
  rw [e1, Option.bind_some, e2, Option.bind_some, p3, Option.bind_some, mat_len, p4, Option.bind_some, p5, Option.bind_some, p6, Option.bind_some, bne_self_eq_false, if_neg (by decide), if_neg (by decide), if_pos rfl, if_pos rfl, if_pos rfl, if_pos rfl]
  rfl
theorem tells_any {n : Nat} (hn : n ≤ 40) {F : Nat → Nat → Bool} (hF : Sy n F) (o : List Int) (hol : o.length ≤ 1000) : Ev (fun k => tellsT k true (mat n F) (gI (gW n F)) o) true := by
  cases hv : validB n o with
  | false => exact tells_bad hn hF o hol hv
  | true =>
    have hop := (validB_perm n o).1 hv
    obtain ⟨ln, rfl, hd, hl⟩ := toN_of hop
    exact tells_ok hn hF hop hd hl
theorem FillTells : arboristlaw10_FillTells.Pure := by
  intro a0 l1 l2 a3 _ _ h2
  obtain ⟨n, F, hn, hF, hm⟩ := made9_ev a0 l1
  obtain ⟨o, hop, hoe⟩ := given_ev n (by omega) l2
  have hol : o.length = n := by rw [hop.length_eq, idI_len]
  cases a3 with
  | true =>
    obtain ⟨c1, c2, c3'⟩ := (show 0 ≤ mn (l2.length : Int) 20 ∧ mn (l2.length : Int) 20 ≤ l2.length ∧ l2.take (mn (l2.length : Int) 20).toNat = l2.take 20 from mn_cut l2 20)
    refine (evu5 shown_9 hm hoe (graph_ev n (by omega) F) (tells_any (show n ≤ 40 by omega) hF (l2.take 20) (by rw [List.length_take]; omega)) (fun k p1 p2 p3 p4 p5 => ?_)).rounds
    unfold arboristlaw10_FillTells.f
    rw [p1, Option.bind_some, p2, Option.bind_some, p4, Option.bind_some, mat_len, p3, Option.bind_some, if_pos rfl, if_pos c1, if_pos c2, c3']
    unfold tellsT at p5
    rw [mat_len] at p5
    exact p5
  | false =>
    refine (evu5 shown_9 hm hoe (graph_ev n (by omega) F) (tells_any (show n ≤ 40 by omega) hF o (by omega)) (fun k p1 p2 p3 p4 p5 => ?_)).rounds
    unfold arboristlaw10_FillTells.f
    rw [p1, Option.bind_some, p2, Option.bind_some, p4, Option.bind_some, mat_len, p3, Option.bind_some, if_neg (by decide)]
    unfold tellsT at p5
    rw [mat_len] at p5
    exact p5
end Go.Proofs.YtopjffgmpphdbaaDoor.Pure
