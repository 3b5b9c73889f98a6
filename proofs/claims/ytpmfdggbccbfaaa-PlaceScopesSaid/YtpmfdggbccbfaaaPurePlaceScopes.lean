/- Law PlaceScopes: the scopes of an instance are the document's, and each has a bag of its tree, by any order. -/
import Derived.Test.YtpmfdggbccbfaaaPr0
import Derived.Test.YtpmfdggbccbfaaaPr1
import Derived.Test.YtpmfdggbccbfaaaPr17
import Derived.Test.YtpmfdggbccbfaaaPr28
import Derived.Test.YtpmfdggbccbfaaaPr36
import Derived.Test.YtpmfdggbccbfaaaPr38
import Derived.Test.YtpmfdggbccbfaaaPr42
import Derived.Test.YtpmfdggbccbfaaaPr50
import Derived.Test.YtpmfdggbccbfaaaPr52
import Derived.Test.YtpmfdggbccbfaaaPr54
import Derived.Test.YtpmfdggbccbfaaaPr56
import Derived.Test.YtpmfdggbccbfaaaPr58
import Derived.Test.YtpmfdggbccbfaaaPr60
import Derived.Test.YtpmfdggbccbfaaaPr61
import Derived.Test.YtpmfdggbccbfaaaPr64
import Derived.Test.YtpmfdggbccbfaaaPr65
set_option linter.unusedVariables false
set_option linter.unusedSimpArgs false
set_option linter.unusedSectionVars false
namespace Go.Proofs.Ytpmfdggbccbfaaa.Pr
open Go.RowKit Go.Proofs.YtpmfdggbccbfaaaW.PrintWords Go.Proofs.YtpmfdggbccbfaaaW.PrintLast
theorem evs0 {ρ : Type} {F : Nat → Option ρ} {r : ρ} (H : ∀ k, F (k + 1) = some r) : Ev F r := ⟨1, fun k hk => by obtain ⟨m, rfl⟩ : ∃ m, k = m + 1 := ⟨k - 1, by omega⟩; exact H m⟩
theorem evu0 {ρ : Type} {F : Nat → Option ρ} {r : ρ} (H : ∀ k, F k = some r) : Ev F r := ⟨0, fun k _ => H k⟩
theorem evu1 {ρ : Type} {F : Nat → Option ρ} {r : ρ} {α1 : Type} {g1 : Nat → Option α1} {a1 : α1} (h1 : Ev g1 a1) (H : ∀ k, g1 k = some a1 → F k = some r) : Ev F r := by
  obtain ⟨K1, e1⟩ := h1
  exact ⟨K1, fun k hk => H k (e1 _ (by omega))⟩
theorem evs1 {ρ : Type} {F : Nat → Option ρ} {r : ρ} {α1 : Type} {g1 : Nat → Option α1} {a1 : α1} (h1 : Ev g1 a1) (H : ∀ k, g1 k = some a1 → F (k + 1) = some r) : Ev F r := by
  obtain ⟨K1, e1⟩ := h1
  refine ⟨K1 + 1, fun k hk => ?_⟩
  obtain ⟨m, rfl⟩ : ∃ m, k = m + 1 := ⟨k - 1, by omega⟩
  exact H m (e1 _ (by omega))
theorem evu2 {ρ : Type} {F : Nat → Option ρ} {r : ρ} {α1 : Type} {g1 : Nat → Option α1} {a1 : α1} {α2 : Type} {g2 : Nat → Option α2} {a2 : α2} (h1 : Ev g1 a1) (h2 : Ev g2 a2) (H : ∀ k, g1 k = some a1 → g2 k = some a2 → F k = some r) : Ev F r := by
  obtain ⟨K1, e1⟩ := h1; obtain ⟨K2, e2⟩ := h2
  exact ⟨K1 + K2, fun k hk => H k (e1 _ (by omega)) (e2 _ (by omega))⟩
theorem evs2 {ρ : Type} {F : Nat → Option ρ} {r : ρ} {α1 : Type} {g1 : Nat → Option α1} {a1 : α1} {α2 : Type} {g2 : Nat → Option α2} {a2 : α2} (h1 : Ev g1 a1) (h2 : Ev g2 a2) (H : ∀ k, g1 k = some a1 → g2 k = some a2 → F (k + 1) = some r) : Ev F r := by
  obtain ⟨K1, e1⟩ := h1; obtain ⟨K2, e2⟩ := h2
  refine ⟨K1 + K2 + 1, fun k hk => ?_⟩
  obtain ⟨m, rfl⟩ : ∃ m, k = m + 1 := ⟨k - 1, by omega⟩
  exact H m (e1 _ (by omega)) (e2 _ (by omega))
theorem evs4 {ρ : Type} {F : Nat → Option ρ} {r : ρ} {α1 : Type} {g1 : Nat → Option α1} {a1 : α1} {α2 : Type} {g2 : Nat → Option α2} {a2 : α2} {α3 : Type} {g3 : Nat → Option α3} {a3 : α3} {α4 : Type} {g4 : Nat → Option α4} {a4 : α4} (h1 : Ev g1 a1) (h2 : Ev g2 a2) (h3 : Ev g3 a3) (h4 : Ev g4 a4) (H : ∀ k, g1 k = some a1 → g2 k = some a2 → g3 k = some a3 → g4 k = some a4 → F (k + 1) = some r) : Ev F r := by
  obtain ⟨K1, e1⟩ := h1; obtain ⟨K2, e2⟩ := h2; obtain ⟨K3, e3⟩ := h3; obtain ⟨K4, e4⟩ := h4
  refine ⟨K1 + K2 + K3 + K4 + 1, fun k hk => ?_⟩
  obtain ⟨m, rfl⟩ : ∃ m, k = m + 1 := ⟨k - 1, by omega⟩
  exact H m (e1 _ (by omega)) (e2 _ (by omega)) (e3 _ (by omega)) (e4 _ (by omega))
theorem evu5 {ρ : Type} {F : Nat → Option ρ} {r : ρ} {α1 : Type} {g1 : Nat → Option α1} {a1 : α1} {α2 : Type} {g2 : Nat → Option α2} {a2 : α2} {α3 : Type} {g3 : Nat → Option α3} {a3 : α3} {α4 : Type} {g4 : Nat → Option α4} {a4 : α4} {α5 : Type} {g5 : Nat → Option α5} {a5 : α5} (h1 : Ev g1 a1) (h2 : Ev g2 a2) (h3 : Ev g3 a3) (h4 : Ev g4 a4) (h5 : Ev g5 a5) (H : ∀ k, g1 k = some a1 → g2 k = some a2 → g3 k = some a3 → g4 k = some a4 → g5 k = some a5 → F k = some r) : Ev F r := by
  obtain ⟨K1, e1⟩ := h1; obtain ⟨K2, e2⟩ := h2; obtain ⟨K3, e3⟩ := h3; obtain ⟨K4, e4⟩ := h4; obtain ⟨K5, e5⟩ := h5
  exact ⟨K1 + K2 + K3 + K4 + K5, fun k hk => H k (e1 _ (by omega)) (e2 _ (by omega)) (e3 _ (by omega)) (e4 _ (by omega)) (e5 _ (by omega))⟩
theorem drop_at (l : List Int) (i : Nat) (h : i < l.length) : l.drop i = rd l (i : Int) :: l.drop (i + 1) := by
  rw [List.drop_eq_getElem_cons h, rd_nat l i _ (List.getElem?_eq_getElem h)]
theorem wrap_nat (i : Nat) (h : i < 9223372036854775807) : wrap64 ((i : Int) + 1) = ((i + 1 : Nat) : Int) := by rw [wrap_succ (by omega) (by omega)]; rfl
def inB (l : List Int) (v : Int) : Bool := l.any (fun x => x == v)
theorem In_loop (l : List Int) (hl : l.length ≤ 9223372036854775807) (v : Int) : ∀ d i : Nat, l.length = i + d → Ev (fun k => arboristref01_In.l0 k l v (i : Int)) (inB (l.drop i) v) := by
  intro d
  induction d with
  | zero =>
    intro i h
    refine Ev.step (f := fun _ => some (inB (l.drop i) v)) (fun k => ?_) (Ev.now _)
    simp only [arboristref01_In.l0]
    rw [if_neg (by omega), List.drop_eq_nil_of_le (by omega)]
    rfl
  | succ d ih =>
    intro i h
    have hi : i < l.length := by omega
    by_cases e : rd l (i : Int) = v
    · refine Ev.step (f := fun _ => some (inB (l.drop i) v)) (fun k => ?_) (Ev.now _)
      simp only [arboristref01_In.l0]
      rw [if_pos (by omega), if_pos (by omega), if_pos e, drop_at l i hi]
      simp [inB, e]
    · refine Ev.step (f := fun k => arboristref01_In.l0 k l v ((i + 1 : Nat) : Int)) (fun k => ?_) ?_
      · simp only [arboristref01_In.l0]
        rw [if_pos (by omega), if_pos (by omega), if_neg e, wrap_nat i (by omega)]
      · have := ih (i + 1) (by omega)
        rw [drop_at l i hi]
        have e2 : (rd l (i : Int) == v) = false := by simpa using e
        simpa [inB, e2] using this
theorem In_ev (l : List Int) (hl : l.length ≤ 9223372036854775807) (v : Int) : Ev (fun k => arboristref01_In.f k l v) (inB l v) := by
  have := In_loop l hl v l.length 0 (by omega)
  simpa [arboristref01_In.f] using this
def cmpL : List Int → List Int → Int
  | [], [] => 0
  | [], _ :: _ => -1
  | _ :: _, [] => 1
  | a :: l, b :: m => if a < b then -1 else if b < a then 1 else cmpL l m
theorem Compare_loop (a b : List Int) (ha : a.length ≤ 9223372036854775807) (hb : b.length ≤ 9223372036854775807) : ∀ (d i : Nat), a.length = i + d → i ≤ b.length → a.take i = b.take i → Ev (fun k => arboristref01_Compare.l0 k a b (i : Int)) (cmpL (a.drop i) (b.drop i)) := by
  intro d
  induction d with
  | zero =>
    intro i h hb2 he
    refine Ev.step (f := fun k => arboristref01_Compare.j1 k a b (i : Int) false) (fun k => ?_) ?_
    · simp only [arboristref01_Compare.l0]; rw [if_neg (by omega)]
    · refine Ev.step (f := fun _ => some (cmpL (a.drop i) (b.drop i))) (fun k => ?_) (Ev.now _)
      simp only [arboristref01_Compare.j1]
      rw [if_neg (by simp), List.drop_eq_nil_of_le (by omega)]
      by_cases hlt : i < b.length
      · rw [if_pos (by omega), drop_at b i hlt]; rfl
      · rw [if_neg (by omega), if_neg (by omega), List.drop_eq_nil_of_le (by omega)]; rfl
  | succ d ih =>
    intro i h hb2 he
    have hi : i < a.length := by omega
    by_cases hlt : i < b.length
    · refine Ev.step (f := fun k => arboristref01_Compare.j1 k a b (i : Int) true) (fun k => ?_) ?_
      · simp only [arboristref01_Compare.l0]; rw [if_pos (by omega), show decide ((i : Int) < (b.length : Int)) = true from decide_eq_true (by omega)]
      · rw [drop_at a i hi, drop_at b i hlt]
        by_cases h1 : rd a (i : Int) < rd b (i : Int)
        · refine Ev.step (f := fun _ => some (-1)) (fun k => ?_) (by simp only [cmpL, if_pos h1]; exact Ev.now _)
          simp only [arboristref01_Compare.j1]
          rw [if_pos trivial, if_pos (by omega), if_pos (by omega), if_pos (by omega), if_pos h1]
        · by_cases h2 : rd b (i : Int) < rd a (i : Int)
          · refine Ev.step (f := fun _ => some 1) (fun k => ?_) (by simp only [cmpL, if_neg h1, if_pos h2]; exact Ev.now _)
            simp only [arboristref01_Compare.j1]
            rw [if_pos trivial, if_pos (by omega), if_pos (by omega), if_pos (by omega), if_neg h1, if_pos h2]
          · refine Ev.step (f := fun k => arboristref01_Compare.l0 k a b ((i + 1 : Nat) : Int)) (fun k => ?_) ?_
            · simp only [arboristref01_Compare.j1]
              rw [if_pos trivial, if_pos (by omega), if_pos (by omega), if_pos (by omega), if_neg h1, if_neg (by omega), wrap_nat i (by omega)]
            · simp only [cmpL, if_neg h1, if_neg h2]
              refine ih (i + 1) (by omega) (by omega) ?_
              have e1 := rd_nat a i _ (List.getElem?_eq_getElem hi)
              have e2 := rd_nat b i _ (List.getElem?_eq_getElem hlt)
              rw [List.take_succ_eq_append_getElem hi, List.take_succ_eq_append_getElem hlt, he]
              have : a[i] = b[i] := by omega
              rw [this]
    · refine Ev.step (f := fun k => arboristref01_Compare.j1 k a b (i : Int) false) (fun k => ?_) ?_
      · simp only [arboristref01_Compare.l0]; rw [if_pos (by omega), show decide ((i : Int) < (b.length : Int)) = false from decide_eq_false (by omega)]
      · refine Ev.step (f := fun _ => some (cmpL (a.drop i) (b.drop i))) (fun k => ?_) (Ev.now _)
        simp only [arboristref01_Compare.j1]
        rw [if_neg (by simp), if_neg (by omega), if_pos (by omega), drop_at a i hi, show b.drop i = [] from List.drop_eq_nil_of_le (by omega)]
        rfl
theorem Compare_ev (a b : List Int) (ha : a.length ≤ 9223372036854775807) (hb : b.length ≤ 9223372036854775807) : Ev (fun k => arboristref01_Compare.f k a b) (cmpL a b) := by
  have := Compare_loop a b ha hb a.length 0 (by omega) (by omega) rfl
  simpa [arboristref01_Compare.f] using this
theorem cmpL_self : ∀ a : List Int, cmpL a a = 0
  | [] => rfl
  | a :: l => by simp [cmpL, cmpL_self l]
def withoutL (a b : List Int) : List Int := a.filter (fun x => !inB b x)
def meetL (a b : List Int) : List Int := a.filter (fun x => inB b x)
theorem Without_loop (a b : List Int) (ha : a.length < 17592186044416) (hb : b.length ≤ 9223372036854775807) : ∀ (d i : Nat) (out : List Int), a.length = i + d → out.length ≤ i → Ev (fun k => arboristref01_Without.l0 k a b out (i : Int)) (out ++ withoutL (a.drop i) b) := by
  intro d
  induction d with
  | zero =>
    intro i out h ho
    refine Ev.step (f := fun _ => some (out ++ withoutL (a.drop i) b)) (fun k => ?_) (Ev.now _)
    simp only [arboristref01_Without.l0]
    rw [if_neg (by omega), List.drop_eq_nil_of_le (by omega)]
    simp [withoutL]
  | succ d ih =>
    intro i out h ho
    have hi : i < a.length := by omega
    refine Ev.step (f := fun k => (arboristref01_In.f k b (rd a (i : Int))).bind fun t => if t = true then arboristref01_Without.l0 k a b out ((i + 1 : Nat) : Int) else if out.length < 17592186044416 then arboristref01_Without.l0 k a b (out ++ [rd a (i : Int)]) ((i + 1 : Nat) : Int) else none) (fun k => ?_) ?_
    · simp only [arboristref01_Without.l0]
      rw [if_pos (by omega), if_pos (by omega), wrap_nat i (by omega)]
    · refine Ev.bind (In_ev b hb _) ?_
      rw [drop_at a i hi]
      cases hc : inB b (rd a (i : Int)) with
      | true =>
        have := ih (i + 1) out (by omega) (by omega)
        simpa [withoutL, hc] using this
      | false =>
        have := ih (i + 1) (out ++ [rd a (i : Int)]) (by omega) (by simp; omega)
        have hlt : out.length < 17592186044416 := by omega
        simpa [withoutL, hc, hlt] using this
theorem Without_ev (a b : List Int) (ha : a.length < 17592186044416) (hb : b.length ≤ 9223372036854775807) : Ev (fun k => arboristref01_Without.f k a b) (withoutL a b) := by
  have := Without_loop a b ha hb a.length 0 [] (by omega) (by simp)
  simpa [arboristref01_Without.f] using this
def withinR (a b : List Int) : Bool := ((withoutL a b).length : Int) == 0
theorem Within_ev (a b : List Int) (ha : a.length < 17592186044416) (hb : b.length ≤ 9223372036854775807) : Ev (fun k => arboristref01_Within.f k a b) (withinR a b) := by
  refine Ev.congr (f := fun k => (arboristref01_Without.f k a b).bind fun t => some ((t.length : Int) == 0)) (fun k => rfl) ?_
  exact Ev.bind (f := fun _ (t : List Int) => some ((t.length : Int) == 0)) (Without_ev a b ha hb) (Ev.now _)
theorem withinR_iff (a b : List Int) : withinR a b = true ↔ ∀ x ∈ a, x ∈ b := by
  unfold withinR withoutL
  simp only [beq_iff_eq]
  constructor
  · intro h x hx
    have h2 : (a.filter (fun x => !inB b x)) = [] := List.eq_nil_of_length_eq_zero (by omega)
    have := List.filter_eq_nil_iff.1 h2 x hx
    simp [inB] at this
    exact this
  · intro h
    have : (a.filter (fun x => !inB b x)) = [] := List.filter_eq_nil_iff.2 (fun x hx => by simp [inB]; exact h x hx)
    simp [this]
def uniteL : List Int → List Int → List Int
  | [], r => r
  | a :: l, [] => a :: l
  | a :: l, m :: r => if a < m then a :: uniteL l (m :: r) else m :: uniteL (a :: l) r
termination_by a b => a.length + b.length
theorem uniteL_nil (a : List Int) : uniteL a [] = a := by cases a <;> simp [uniteL]
theorem Unite_loop (a m : List Int) (hl : a.length + m.length < 17592186044416) : ∀ (d i j : Nat) (out : List Int), a.length + m.length = i + j + d → i ≤ a.length → j ≤ m.length → out.length ≤ i + j → Ev (fun k => arboristref01_Unite.l0 k a out m (i : Int) (j : Int)) (out ++ uniteL (a.drop i) (m.drop j)) := by
  intro d
  induction d with
  | zero =>
    intro i j out h hi hj ho
    refine Ev.step (f := fun k => arboristref01_Unite.j1 k a out m (i : Int) (j : Int) false) (fun k => ?_) ?_
    · simp only [arboristref01_Unite.l0]
      rw [if_neg (by omega), show decide ((j : Int) < (m.length : Int)) = false from decide_eq_false (by omega)]
    · refine Ev.step (f := fun _ => some (out ++ uniteL (a.drop i) (m.drop j))) (fun k => ?_) (Ev.now _)
      simp only [arboristref01_Unite.j1]
      rw [if_neg (by simp), show a.drop i = [] from List.drop_eq_nil_of_le (by omega), show m.drop j = [] from List.drop_eq_nil_of_le (by omega)]
      simp [uniteL]
  | succ d ih =>
    intro i j out h hi hj ho
    refine Ev.step (f := fun k => arboristref01_Unite.j1 k a out m (i : Int) (j : Int) true) (fun k => ?_) ?_
    · simp only [arboristref01_Unite.l0]
      by_cases h1 : i < a.length
      · rw [if_pos (by omega)]
      · rw [if_neg (by omega), show decide ((j : Int) < (m.length : Int)) = true from decide_eq_true (by omega)]
    · have hlt : out.length < 17592186044416 := by omega
      have left : i < a.length → (j = m.length ∨ (j < m.length ∧ rd a (i : Int) < rd m (j : Int))) → Ev (fun k => arboristref01_Unite.l0 k a (out ++ [rd a (i : Int)]) m ((i + 1 : Nat) : Int) (j : Int)) (out ++ uniteL (a.drop i) (m.drop j)) := by
        intro h1 h2
        have := ih (i + 1) j (out ++ [rd a (i : Int)]) (by omega) (by omega) hj (by simp; omega)
        rw [drop_at a i h1]
        rcases h2 with h2 | ⟨h2, h3⟩
        · rw [show m.drop j = [] from List.drop_eq_nil_of_le (by omega)] at this ⊢
          simpa [uniteL, uniteL_nil] using this
        · rw [drop_at m j h2] at this ⊢
          rw [uniteL, if_pos h3]
          simpa using this
      have right : j < m.length → (i = a.length ∨ (i < a.length ∧ ¬ rd a (i : Int) < rd m (j : Int))) → Ev (fun k => arboristref01_Unite.l0 k a (out ++ [rd m (j : Int)]) m (i : Int) ((j + 1 : Nat) : Int)) (out ++ uniteL (a.drop i) (m.drop j)) := by
        intro h1 h2
        have := ih i (j + 1) (out ++ [rd m (j : Int)]) (by omega) hi (by omega) (by simp; omega)
        rw [drop_at m j h1]
        rcases h2 with h2 | ⟨h2, h3⟩
        · rw [show a.drop i = [] from List.drop_eq_nil_of_le (by omega)] at this ⊢
          simpa [uniteL] using this
        · rw [drop_at a i h2] at this ⊢
          rw [uniteL, if_neg h3]
          simpa using this
      by_cases h1 : j = m.length
      · refine Ev.step (f := fun k => arboristref01_Unite.l0 k a (out ++ [rd a (i : Int)]) m ((i + 1 : Nat) : Int) (j : Int)) (fun k => ?_) (left (by omega) (.inl h1))
        simp only [arboristref01_Unite.j1]
        rw [if_pos trivial, if_pos (by omega), if_pos (by omega), if_pos (by omega), if_pos hlt, wrap_nat i (by omega)]
      · by_cases h2 : i < a.length
        · by_cases h3 : rd a (i : Int) < rd m (j : Int)
          · refine Ev.step (f := fun k => arboristref01_Unite.l0 k a (out ++ [rd a (i : Int)]) m ((i + 1 : Nat) : Int) (j : Int)) (fun k => ?_) (left h2 (.inr ⟨by omega, h3⟩))
            simp only [arboristref01_Unite.j1]
            rw [if_pos trivial, if_neg (by omega), if_pos (by omega), if_pos (by omega), if_pos (by omega), if_pos (by omega), if_pos h3, if_pos hlt, wrap_nat i (by omega)]
          · refine Ev.step (f := fun k => arboristref01_Unite.l0 k a (out ++ [rd m (j : Int)]) m (i : Int) ((j + 1 : Nat) : Int)) (fun k => ?_) (right (by omega) (.inr ⟨h2, h3⟩))
            simp only [arboristref01_Unite.j1]
            rw [if_pos trivial, if_neg (by omega), if_pos (by omega), if_pos (by omega), if_pos (by omega), if_pos (by omega), if_neg h3, if_pos hlt, wrap_nat j (by omega)]
        · refine Ev.step (f := fun k => arboristref01_Unite.l0 k a (out ++ [rd m (j : Int)]) m (i : Int) ((j + 1 : Nat) : Int)) (fun k => ?_) (right (by omega) (.inl (by omega)))
          simp only [arboristref01_Unite.j1]
          rw [if_pos trivial, if_neg (by omega), if_neg (by omega), if_pos (by omega), if_pos (by omega), if_pos hlt, wrap_nat j (by omega)]
theorem withoutL_len (a b : List Int) : (withoutL a b).length ≤ a.length := List.length_filter_le _ _
theorem Unite_ev (a b : List Int) (h : a.length + b.length < 17592186044416) : Ev (fun k => arboristref01_Unite.f k a b) (uniteL a (withoutL b a)) := by
  refine Ev.congr (f := fun k => (arboristref01_Without.f k b a).bind fun t => arboristref01_Unite.l0 k a ([] : List Int) t 0 0) (fun k => rfl) ?_
  have hw := withoutL_len b a
  refine Ev.bind (f := fun k (t : List Int) => arboristref01_Unite.l0 k a ([] : List Int) t 0 0) (Without_ev b a (by omega) (by omega)) ?_
  have := Unite_loop a (withoutL b a) (by omega) (a.length + (withoutL b a).length) 0 0 [] (by omega) (by omega) (by omega) (by simp)
  simpa using this
theorem Meet_loop (a b : List Int) (ha : a.length < 17592186044416) (hb : b.length ≤ 9223372036854775807) : ∀ (d i : Nat) (out : List Int), a.length = i + d → out.length ≤ i → Ev (fun k => arboristref01_Meet.l0 k a b out (i : Int)) (out ++ meetL (a.drop i) b) := by
  intro d
  induction d with
  | zero =>
    intro i out h ho
    refine Ev.step (f := fun _ => some (out ++ meetL (a.drop i) b)) (fun k => ?_) (Ev.now _)
    simp only [arboristref01_Meet.l0]
    rw [if_neg (by omega), List.drop_eq_nil_of_le (by omega)]
    simp [meetL]
  | succ d ih =>
    intro i out h ho
    have hi : i < a.length := by omega
    refine Ev.step (f := fun k => (arboristref01_In.f k b (rd a (i : Int))).bind fun t => if t = true then (if out.length < 17592186044416 then arboristref01_Meet.l0 k a b (out ++ [rd a (i : Int)]) ((i + 1 : Nat) : Int) else none) else arboristref01_Meet.l0 k a b out ((i + 1 : Nat) : Int)) (fun k => ?_) ?_
    · simp only [arboristref01_Meet.l0]
      rw [if_pos (by omega), if_pos (by omega), wrap_nat i (by omega)]
    · refine Ev.bind (In_ev b hb _) ?_
      rw [drop_at a i hi]
      cases hc : inB b (rd a (i : Int)) with
      | false =>
        have := ih (i + 1) out (by omega) (by omega)
        simpa [meetL, hc] using this
      | true =>
        have := ih (i + 1) (out ++ [rd a (i : Int)]) (by omega) (by simp; omega)
        have hlt : out.length < 17592186044416 := by omega
        simpa [meetL, hc, hlt] using this
theorem Meet_ev (a b : List Int) (ha : a.length < 17592186044416) (hb : b.length ≤ 9223372036854775807) : Ev (fun k => arboristref01_Meet.f k a b) (meetL a b) := by
  have := Meet_loop a b ha hb a.length 0 [] (by omega) (by simp)
  simpa [arboristref01_Meet.f] using this
theorem uniteL_mem (a m : List Int) (x : Int) : x ∈ uniteL a m ↔ x ∈ a ∨ x ∈ m := by
  fun_induction uniteL a m with
  | case1 r => simp
  | case2 a l => simp
  | case3 a l m r h ih => simp only [List.mem_cons, ih]; clear h; grind
  | case4 a l m r h ih => simp only [List.mem_cons, ih]; clear h; grind
theorem uniteL_rise (a m : List Int) : a.Pairwise (· < ·) → m.Pairwise (· < ·) → (∀ x ∈ m, x ∉ a) → (uniteL a m).Pairwise (· < ·) := by
  fun_induction uniteL a m with
  | case1 r => intro _ h _; exact h
  | case2 a l => intro h _ _; exact h
  | case3 a l m r h ih =>
    intro ha hb hd
    obtain ⟨ha1, ha2⟩ := List.pairwise_cons.1 ha
    obtain ⟨hb1, hb2⟩ := List.pairwise_cons.1 hb
    refine List.pairwise_cons.2 ⟨fun x hx => ?_, ih ha2 hb (fun x hx hc => hd x hx (List.mem_cons_of_mem _ hc))⟩
    rcases (uniteL_mem _ _ _).1 hx with hx | hx
    · exact ha1 x hx
    · rcases List.mem_cons.1 hx with rfl | hx
      · exact h
      · have := hb1 x hx; omega
  | case4 a l m r h ih =>
    intro ha hb hd
    obtain ⟨ha1, ha2⟩ := List.pairwise_cons.1 ha
    obtain ⟨hb1, hb2⟩ := List.pairwise_cons.1 hb
    have hne : m ≠ a := fun e => hd m (by simp) (by simp [e])
    refine List.pairwise_cons.2 ⟨fun x hx => ?_, ih ha hb2 (fun x hx => hd x (List.mem_cons_of_mem _ hx))⟩
    rcases (uniteL_mem _ _ _).1 hx with hx | hx
    · rcases List.mem_cons.1 hx with rfl | hx
      · omega
      · have := ha1 x hx; omega
    · exact hb1 x hx
theorem rise_eq : ∀ (a b : List Int), a.Pairwise (· < ·) → b.Pairwise (· < ·) → (∀ x, x ∈ a ↔ x ∈ b) → a = b
  | [], [], _, _, _ => rfl
  | [], y :: m, _, _, h => absurd ((h y).2 (by simp)) (by simp)
  | x :: l, [], _, _, h => absurd ((h x).1 (by simp)) (by simp)
  | x :: l, y :: m, ha, hb, h => by
    obtain ⟨a1, a2⟩ := List.pairwise_cons.1 ha
    obtain ⟨b1, b2⟩ := List.pairwise_cons.1 hb
    have e : x = y := by
      have h1 := (h x).1 (by simp)
      have h2 := (h y).2 (by simp)
      rcases List.mem_cons.1 h1 with h1 | h1
      · exact h1
      · rcases List.mem_cons.1 h2 with h2 | h2
        · exact h2.symm
        · have := a1 y h2
          have := b1 x h1
          omega
    subst e
    congr 1
    refine rise_eq l m a2 b2 (fun z => ?_)
    have hz := h z
    simp only [List.mem_cons] at hz
    constructor
    · intro hl
      have := a1 z hl
      rcases hz.1 (.inr hl) with h | h
      · omega
      · exact h
    · intro hm
      have := b1 z hm
      rcases hz.2 (.inr hm) with h | h
      · omega
      · exact h
end Go.Proofs.Ytpmfdggbccbfaaa.Pr
set_option linter.unusedVariables false
set_option linter.unusedSimpArgs false
namespace Go.Proofs.Ytpmfdggbccbfaaa.Pure
open Go.RowKit Go.Proofs.Ytpmfdggbccbfaaa.Pr Go.Proofs.YtpmfdggbccbfaaaW.PrintWords Go.Proofs.YtpmfdggbccbfaaaW.PrintLast Go.Proofs.YtpmfdggbccbfaaaW.PrintMore
theorem rd_at6 (l : List Int) (i : Nat) (h : i < l.length) : rd l (i : Int) = l[i] := rd_nat l i _ (List.getElem?_eq_getElem h)
theorem rdI_at6 (B : List (List Int)) (i : Nat) (h : i < B.length) : rd_L1 B (i : Int) = B[i] := by
  unfold rd_L1
  rw [Int.toNat_natCast]
  simp [h]
theorem rising_iff6 : ∀ l : List Int, risingB l = true ↔ l.Pairwise (· < ·)
  | [] => by simp [risingB]
  | [a] => by simp [risingB]
  | a :: b :: l => by
    rw [risingB]
    by_cases c : b ≤ a
    · rw [if_pos c]
      constructor
      · intro h; cases h
      · intro h
        have := (List.pairwise_cons.1 h).1 b List.mem_cons_self
        omega
    · rw [if_neg c, rising_iff6 (b :: l)]
      constructor
      · intro h
        refine List.pairwise_cons.2 ⟨fun x hx => ?_, h⟩
        rcases List.mem_cons.1 hx with rfl | hx
        · omega
        · have := (List.pairwise_cons.1 h).1 x hx
          omega
      · exact fun h => (List.pairwise_cons.1 h).2
theorem rris_l0 (l : List Int) (hl : l.length ≤ 9223372036854775807) : ∀ (d i : Nat), 1 ≤ i → l.length ≤ i + d → Ev (fun k => arboristref01_Rising.l0 k l (i : Int)) (risingB (l.drop (i - 1)))
  | 0, i, h1, h => evs0 (fun k => by rw [arboristref01_Rising.l0, if_neg (by omega), rising_end l (i - 1) (by omega)])
  | d + 1, i, h1, h => by
    by_cases hi : i < l.length
    · have hw1 : wrap64 ((i : Int) - 1) = ((i - 1 : Nat) : Int) := by rw [wrap_id (by omega) (by omega)]; omega
      have e1 := rd_at6 l i hi
      have e2 := rd_at6 l (i - 1) (by omega)
      have hs := rising_step l (i - 1) l[i - 1] l[i] (List.getElem?_eq_getElem (by omega)) (by rw [show i - 1 + 1 = i by omega]; exact List.getElem?_eq_getElem hi)
      by_cases c : l[i] ≤ l[i - 1]
      · refine evs0 (fun k => ?_)
        rw [arboristref01_Rising.l0, if_pos (by omega), if_pos (by omega), hw1, if_pos (by omega), if_pos (by omega), e1, e2, if_pos c, hs, if_pos c]
      · have ih := rris_l0 l hl d (i + 1) (by omega) (by omega)
        rw [show i + 1 - 1 = i - 1 + 1 from by omega] at ih
        refine evs1 ih (fun k q => ?_)
        rw [arboristref01_Rising.l0, if_pos (by omega), if_pos (by omega), hw1, if_pos (by omega), if_pos (by omega), e1, e2, if_neg c, wrap_nat i (by omega), hs, if_neg c]
        exact q
    · exact evs0 (fun k => by rw [arboristref01_Rising.l0, if_neg (by omega), rising_end l (i - 1) (by omega)])
theorem rris_ev (l : List Int) (hl : l.length ≤ 9223372036854775807) : Ev (fun k => arboristref01_Rising.f k l) (risingB l) := by
  by_cases h : l.length = 0
  · have e : l = [] := List.eq_nil_of_length_eq_zero h
    subst e
    exact evs0 (fun k => by rfl)
  · exact evu1 (rris_l0 l hl l.length 1 (by omega) (by omega)) (fun k q => by rw [arboristref01_Rising.f]; exact q)
def Tells (f : Nat → Option Bool) (P : Prop) : Prop := ∃ b, Ev f b ∧ (b = true → P)
theorem Tells.no {f : Nat → Option Bool} {P : Prop} (h : ∀ k, f (k + 1) = some false) : Tells f P := ⟨false, evs0 h, fun e => by cases e⟩
theorem Tells.s1 {f g : Nat → Option Bool} {P Q : Prop} (h : Tells g Q) (hq : Q → P) (H : ∀ k b, g k = some b → f (k + 1) = some b) : Tells f P := by
  obtain ⟨b, h1, h2⟩ := h
  exact ⟨b, evs1 h1 (fun k e => H k b e), fun e => hq (h2 e)⟩
theorem Tells.s2 {α : Type} {f g : Nat → Option Bool} {e : Nat → Option α} {a : α} {P Q : Prop} (he : Ev e a) (h : Tells g Q) (hq : Q → P) (H : ∀ k b, e k = some a → g k = some b → f (k + 1) = some b) : Tells f P := by
  obtain ⟨b, h1, h2⟩ := h
  exact ⟨b, evs2 he h1 (fun k q1 q2 => H k b q1 q2), fun e => hq (h2 e)⟩
theorem Tells.e0 {α : Type} {f : Nat → Option Bool} {e : Nat → Option α} {a : α} {P : Prop} (he : Ev e a) (H : ∀ k, e k = some a → f (k + 1) = some false) : Tells f P := ⟨false, evs1 he H, fun e => by cases e⟩
theorem Tells.u1 {f g : Nat → Option Bool} {P Q : Prop} (h : Tells g Q) (hq : Q → P) (H : ∀ k b, g k = some b → f k = some b) : Tells f P := by
  obtain ⟨b, h1, h2⟩ := h
  exact ⟨b, evu1 h1 (fun k e => H k b e), fun e => hq (h2 e)⟩
theorem small_any (a m : Int) : ∃ b, arboristref06_small.f a m = some b := by
  unfold arboristref06_small.f
  split
  · exact ⟨_, rfl⟩
  · exact ⟨_, rfl⟩
def ScopeOk (n : Nat) (l : List Int) : Prop := 1 ≤ l.length ∧ l.length ≤ 6 ∧ l.Pairwise (· < ·) ∧ ∀ v ∈ l, 0 ≤ v ∧ v < (n : Int)
section
variable (D : List (List Int)) (H : List S69) (F : List S73)
theorem scope_t (l : List Int) (hl : l.length ≤ 9223372036854775807) : Tells (fun k => arboristref06_scope.f k D H F l) (ScopeOk D.length l) := by
  by_cases c1 : l.length < 1
  · exact ⟨false, evu0 (fun k => by rw [arboristref06_scope.f, if_pos (by omega)]), fun e => by cases e⟩
  by_cases c2 : l.length > 6
  · exact ⟨false, evu0 (fun k => by rw [arboristref06_scope.f, if_neg (by omega), if_pos (by omega)]), fun e => by cases e⟩
  have hr := rris_ev l hl
  have hw : wrap64 ((l.length : Int) - 1) = ((l.length - 1 : Nat) : Int) := by rw [wrap_id (by omega) (by omega)]; omega
  cases hb : risingB l with
  | false =>
    rw [hb] at hr
    refine ⟨false, evu1 hr (fun k q => ?_), fun e => by cases e⟩
    rw [arboristref06_scope.f, if_neg (by omega), if_neg (by omega), q, Option.bind_some, if_neg (fun h => Bool.noConfusion h)]
  | true =>
    rw [hb] at hr
    by_cases c3 : rd l 0 ≥ 0
    · refine ⟨decide (rd l ((l.length - 1 : Nat) : Int) < (D.length : Int)), evu1 hr (fun k q => ?_), fun e => ?_⟩
      · rw [arboristref06_scope.f, if_neg (by omega), if_neg (by omega), q, Option.bind_some, if_pos rfl, if_pos (by omega), if_pos c3, hw, if_pos (by omega), if_pos (by omega)]
      · have hlast := of_decide_eq_true e
        have hp := (rising_iff6 l).1 hb
        have e0 : rd l 0 = l[0]'(by omega) := rd_at6 l 0 (by omega)
        rw [rd_at6 l (l.length - 1) (by omega)] at hlast
        rw [e0] at c3
        refine ⟨by omega, by omega, hp, fun v hv => ?_⟩
        obtain ⟨j, hj, rfl⟩ := List.getElem_of_mem hv
        have hp2 := List.pairwise_iff_getElem.1 hp
        constructor
        · by_cases h0 : j = 0
          · subst h0; omega
          · have := hp2 0 j (by omega) hj (by omega); omega
        · by_cases h0 : j = l.length - 1
          · subst h0; omega
          · have := hp2 j (l.length - 1) hj (by omega) (by omega); omega
    · refine ⟨false, evu1 hr (fun k q => ?_), fun e => by cases e⟩
      rw [arboristref06_scope.f, if_neg (by omega), if_neg (by omega), q, Option.bind_some, if_pos rfl, if_pos (by omega), if_neg c3]
def RowsOk (l : List Int) (R : List (List Int)) (i : Nat) : Prop := ∀ j (h : j < R.length), i ≤ j → R[j].length = l.length ∧ (∀ h0 : 0 < j, cmpL R[j - 1] R[j] < 0)
variable (hD : ∀ d ∈ D, d.length ≤ 9223372036854775807)
include hD
theorem rows_l1 (l : List Int) (hs : ScopeOk D.length l) (R : List (List Int)) (i : Nat) (hi : i < R.length) (hiw : i < 9223372036854775807) (hlen : R[i].length = l.length) (P : Prop) (hn : Tells (fun k => arboristref06_rows.l0 k l R ((i + 1 : Nat) : Int) D H F) P) : ∀ (d j : Nat), j + d = l.length → Tells (fun k => arboristref06_rows.l1 k l R (i : Int) (j : Int) D H F) P
  | 0, j, h => by
    refine hn.s1 id (fun k b q => ?_)
    rw [arboristref06_rows.l1, if_neg (by omega), wrap_nat i hiw]
    exact q
  | d + 1, j, h => by
    have hj : j < l.length := by omega
    have h6 := hs.2.1
    obtain ⟨v0, v1⟩ := hs.2.2.2 _ (List.getElem_mem hj)
    obtain ⟨v, hv⟩ := Int.eq_ofNat_of_zero_le v0
    have hvd : v < D.length := by omega
    have e := In_ev D[v] (hD _ (List.getElem_mem hvd)) (rd R[i] (j : Int))
    have hrd : rd l (j : Int) = (v : Int) := by rw [rd_at6 l j hj]; exact hv
    have ih := rows_l1 l hs R i hi hiw hlen P hn d (j + 1) (by omega)
    cases hb : inB D[v] (rd R[i] (j : Int)) with
    | true =>
      rw [hb] at e
      refine Tells.s2 e ih id (fun k b q1 q2 => ?_)
      rw [arboristref06_rows.l1, if_pos (by omega), if_pos (by omega), hrd, if_pos (by omega), if_pos (by omega), if_pos (by omega), if_pos (by omega), rdI_at6 R i hi, if_pos (by omega), rdI_at6 D v hvd, q1, Option.bind_some, if_pos rfl, wrap_nat j (by omega)]
      exact q2
    | false =>
      rw [hb] at e
      refine Tells.e0 e (fun k q1 => ?_)
      rw [arboristref06_rows.l1, if_pos (by omega), if_pos (by omega), hrd, if_pos (by omega), if_pos (by omega), if_pos (by omega), if_pos (by omega), rdI_at6 R i hi, if_pos (by omega), rdI_at6 D v hvd, q1, Option.bind_some, if_neg (fun h => Bool.noConfusion h)]
theorem rows_l0 (l : List Int) (hs : ScopeOk D.length l) (R : List (List Int)) (hR : R.length ≤ 9223372036854775807) (hRl : ∀ x ∈ R, x.length ≤ 9223372036854775807) : ∀ (d i : Nat), i + d = R.length → Tells (fun k => arboristref06_rows.l0 k l R (i : Int) D H F) (RowsOk l R i)
  | 0, i, h => ⟨true, evs0 (fun k => by rw [arboristref06_rows.l0, if_neg (by omega)]), fun _ j hj hij => by omega⟩
  | d + 1, i, h => by
    have hi : i < R.length := by omega
    have ih := rows_l0 l hs R hR hRl d (i + 1) (by omega)
    have hyes : ∀ k, arboristref06_rows.j1 (k + 1) l R (i : Int) true D H F = some false := fun k => by rw [arboristref06_rows.j1, if_pos rfl]
    by_cases c : R[i].length = l.length
    · have hstep : (∀ h0 : 0 < i, cmpL R[i - 1] R[i] < 0) → Tells (fun k => arboristref06_rows.j1 k l R (i : Int) false D H F) (RowsOk l R i) := fun hc => by
        refine (rows_l1 D H F hD l hs R i hi (by omega) c _ ih l.length 0 (by omega)).s1 (fun hP j hj hij => ?_) (fun k b q => ?_)
        · rcases Nat.lt_or_eq_of_le hij with h' | h'
          · exact hP j hj h'
          · subst h'; exact ⟨c, hc⟩
        · rw [arboristref06_rows.j1, if_neg (by decide)]
          exact q
      by_cases c0 : i > 0
      · have hw : wrap64 ((i : Int) - 1) = ((i - 1 : Nat) : Int) := by rw [wrap_id (by omega) (by omega)]; omega
        have e := Compare_ev R[i - 1] R[i] (hRl _ (List.getElem_mem _)) (hRl _ (List.getElem_mem _))
        by_cases cc : cmpL R[i - 1] R[i] ≥ 0
        · refine Tells.s2 e (⟨false, evs0 hyes, fun e => by cases e⟩ : Tells (fun k => arboristref06_rows.j1 k l R (i : Int) true D H F) False) (fun h => h.elim) (fun k b q1 q2 => ?_)
          rw [arboristref06_rows.l0, if_pos (by omega), if_pos (by omega), rdI_at6 R i hi, if_pos (by omega), if_pos (by omega), hw, if_pos (by omega), if_pos (by omega), rdI_at6 R (i - 1) (by omega), q1, Option.bind_some, decide_eq_true cc]
          exact q2
        · refine Tells.s2 e (hstep (fun _ => by omega)) id (fun k b q1 q2 => ?_)
          rw [arboristref06_rows.l0, if_pos (by omega), if_pos (by omega), rdI_at6 R i hi, if_pos (by omega), if_pos (by omega), hw, if_pos (by omega), if_pos (by omega), rdI_at6 R (i - 1) (by omega), q1, Option.bind_some, decide_eq_false cc]
          exact q2
      · refine (hstep (fun h0 => by omega)).s1 id (fun k b q => ?_)
        rw [arboristref06_rows.l0, if_pos (by omega), if_pos (by omega), rdI_at6 R i hi, if_pos (by omega), if_neg (by omega)]
        exact q
    · refine Tells.s1 (g := fun k => arboristref06_rows.j1 k l R (i : Int) true D H F) (Q := False) ⟨false, evs0 hyes, fun e => by cases e⟩ (fun h => h.elim) (fun k b q => ?_)
      rw [arboristref06_rows.l0, if_pos (by omega), if_pos (by omega), rdI_at6 R i hi, if_neg (by omega)]
      exact q
theorem rows_f (l : List Int) (hs : ScopeOk D.length l) (R : List (List Int)) (hR : R.length ≤ 9223372036854775807) (hRl : ∀ x ∈ R, x.length ≤ 9223372036854775807) : Tells (fun k => arboristref06_rows.f k D H F l R) (RowsOk l R 0) :=
  (rows_l0 D H F hD l hs R hR hRl R.length 0 (by omega)).u1 id (fun k b q => by rw [arboristref06_rows.f]; exact q)
theorem hard_l0 (kind : Int) (l : List Int) (R : List (List Int)) (args : List Int) (hs : ScopeOk D.length l) (hR : R.length ≤ 9223372036854775807) (hRl : ∀ x ∈ R, x.length ≤ 9223372036854775807) (ha : args.length = l.length + 2) : ∀ (d i : Nat), i + d = l.length → Tells (fun k => arboristref06_hard.l0 k (l.length : Int) (i : Int) D H F kind l R args) (RowsOk l R 0)
  | 0, i, h => by
    refine (rows_f D H F hD l hs R hR hRl).s1 id (fun k b q => ?_)
    rw [arboristref06_hard.l0, if_neg (by omega), q, Option.bind_some]
  | d + 1, i, h => by
    have h6 := hs.2.1
    have ih := hard_l0 kind l R args hs hR hRl ha d (i + 1) (by omega)
    obtain ⟨sb, hsb⟩ := small_any (rd args (i : Int)) 1000000
    by_cases c : rd args (i : Int) = 0
    · exact Tells.no (fun k => by rw [arboristref06_hard.l0, if_pos (by omega), if_pos (by omega), if_pos (by omega), if_pos c])
    · cases sb with
      | true =>
        refine ih.s1 id (fun k b q => ?_)
        rw [arboristref06_hard.l0, if_pos (by omega), if_pos (by omega), if_pos (by omega), if_neg c, hsb, Option.bind_some, if_pos rfl, wrap_nat i (by omega)]
        exact q
      | false => exact Tells.no (fun k => by rw [arboristref06_hard.l0, if_pos (by omega), if_pos (by omega), if_pos (by omega), if_neg c, hsb, Option.bind_some, if_neg (fun h => Bool.noConfusion h)])
theorem hard_j1 (kind : Int) (l : List Int) (R : List (List Int)) (args : List Int) (hs : ScopeOk D.length l) (hR : R.length ≤ 9223372036854775807) (hRl : ∀ x ∈ R, x.length ≤ 9223372036854775807) (ha : args.length = l.length + 2) (x : Bool) : Tells (fun k => arboristref06_hard.j1 k (l.length : Int) x D H F kind l R args) (RowsOk l R 0) := by
  cases x with
  | true => exact Tells.no (fun k => by rw [arboristref06_hard.j1, if_pos rfl])
  | false =>
    refine (hard_l0 D H F hD kind l R args hs hR hRl ha l.length 0 (by omega)).s1 id (fun k b q => ?_)
    rw [arboristref06_hard.j1, if_neg (fun h => Bool.noConfusion h)]
    exact q
theorem hard_j0 (kind : Int) (l : List Int) (R : List (List Int)) (args : List Int) (hs : ScopeOk D.length l) (hR : R.length ≤ 9223372036854775807) (hRl : ∀ x ∈ R, x.length ≤ 9223372036854775807) (x : Bool) : Tells (fun k => arboristref06_hard.j0 k x D H F kind l R args) (RowsOk l R 0) := by
  have h6 := hs.2.1
  have hw2 : wrap64 ((l.length : Int) + 2) = ((l.length + 2 : Nat) : Int) := by rw [wrap_id (by omega) (by omega)]; omega
  have hw1 : wrap64 ((l.length : Int) + 1) = ((l.length + 1 : Nat) : Int) := by rw [wrap_id (by omega) (by omega)]; omega
  cases x with
  | true => exact Tells.no (fun k => by rw [arboristref06_hard.j0, if_pos rfl])
  | false =>
    by_cases c6 : kind = 6
    · by_cases ca : args.length = l.length + 2
      · have hj := hard_j1 D H F hD kind l R args hs hR hRl ca
        by_cases c0 : rd args (l.length : Int) < 0
        · refine (hj true).s1 id (fun k b q => ?_)
          rw [arboristref06_hard.j0, if_neg (fun h => Bool.noConfusion h), if_pos c6, hw2, if_pos (by omega), if_pos (by omega), if_pos (by omega), if_pos c0]
          exact q
        · by_cases c2 : rd args (l.length : Int) > 2
          · refine (hj true).s1 id (fun k b q => ?_)
            rw [arboristref06_hard.j0, if_neg (fun h => Bool.noConfusion h), if_pos c6, hw2, if_pos (by omega), if_pos (by omega), if_pos (by omega), if_neg c0, if_pos c2]
            exact q
          · obtain ⟨sb, hsb⟩ := small_any (rd args ((l.length + 1 : Nat) : Int)) 1000000
            refine (hj (!sb)).s1 id (fun k b q => ?_)
            rw [arboristref06_hard.j0, if_neg (fun h => Bool.noConfusion h), if_pos c6, hw2, if_pos (by omega), if_pos (by omega), if_pos (by omega), if_neg c0, if_neg c2, hw1, if_pos (by omega), if_pos (by omega), hsb, Option.bind_some]
            exact q
      · refine Tells.s1 (g := fun k => arboristref06_hard.j1 k (l.length : Int) true D H F kind l R args) (Q := False) ⟨false, evs0 (fun k => by rw [arboristref06_hard.j1, if_pos rfl]), fun e => by cases e⟩ (fun h => h.elim) (fun k b q => ?_)
        rw [arboristref06_hard.j0, if_neg (fun h => Bool.noConfusion h), if_pos c6, hw2, if_neg (by omega)]
        exact q
    · refine (rows_f D H F hD l hs R hR hRl).s1 id (fun k b q => ?_)
      rw [arboristref06_hard.j0, if_neg (fun h => Bool.noConfusion h), if_neg c6, q, Option.bind_some]
theorem hard_t (kind : Int) (l : List Int) (R : List (List Int)) (args : List Int) (hl : l.length ≤ 9223372036854775807) (hR : R.length ≤ 9223372036854775807) (hRl : ∀ x ∈ R, x.length ≤ 9223372036854775807) : Tells (fun k => arboristref06_hard.f k D H F kind l R args) (ScopeOk D.length l ∧ RowsOk l R 0) := by
  obtain ⟨b, e, hb⟩ := scope_t D H F l hl
  cases b with
  | false =>
    refine ⟨false, evu2 e (evs0 (F := fun k => arboristref06_hard.j0 k true D H F kind l R args) (r := false) (fun k => by rw [arboristref06_hard.j0, if_pos rfl])) (fun k q1 q2 => ?_), fun e => by cases e⟩
    rw [arboristref06_hard.f, q1, Option.bind_some, if_neg (fun h => Bool.noConfusion h)]
    exact q2
  | true =>
    have hs := hb rfl
    have hj := hard_j0 D H F hD kind l R args hs hR hRl
    have fin : ∀ x, (∀ k, arboristref06_hard.f k D H F kind l R args = (arboristref06_scope.f k D H F l).bind fun t => if t = true then arboristref06_hard.j0 k x D H F kind l R args else arboristref06_hard.j0 k true D H F kind l R args) → Tells (fun k => arboristref06_hard.f k D H F kind l R args) (ScopeOk D.length l ∧ RowsOk l R 0) := fun x hx => by
      obtain ⟨c, h1, h2⟩ := hj x
      refine ⟨c, evu2 e h1 (fun k q1 q2 => ?_), fun e => ⟨hs, h2 e⟩⟩
      rw [hx, q1, Option.bind_some, if_pos rfl]
      exact q2
    by_cases c1 : kind < 1
    · exact fin true (fun k => by rw [arboristref06_hard.f]; simp only [if_pos c1])
    by_cases c2 : kind > 6
    · exact fin true (fun k => by rw [arboristref06_hard.f]; simp only [if_neg c1, if_pos c2])
    by_cases c3 : kind > 2
    · by_cases c4 : (R.length : Int) > 0
      · exact fin true (fun k => by rw [arboristref06_hard.f]; simp only [if_neg c1, if_neg c2, if_pos c3, if_pos c4])
      · by_cases c5 : kind = 6
        · exact fin false (fun k => by rw [arboristref06_hard.f]; simp only [if_neg c1, if_neg c2, if_pos c3, if_neg c4, if_pos c5])
        · exact fin (decide ((args.length : Int) > 0)) (fun k => by rw [arboristref06_hard.f]; simp only [if_neg c1, if_neg c2, if_pos c3, if_neg c4, if_neg c5])
    · by_cases c5 : kind = 6
      · exact fin false (fun k => by rw [arboristref06_hard.f]; simp only [if_neg c1, if_neg c2, if_neg c3, if_pos c5])
      · exact fin (decide ((args.length : Int) > 0)) (fun k => by rw [arboristref06_hard.f]; simp only [if_neg c1, if_neg c2, if_neg c3, if_neg c5])
theorem soft_l0 (l : List Int) (R : List (List Int)) (C : List Int) (z : Int) (hs : ScopeOk D.length l) (hR : R.length ≤ 9223372036854775807) (hRl : ∀ x ∈ R, x.length ≤ 9223372036854775807) (hC : C.length ≤ 9223372036854775807) : ∀ (d i : Nat), i + d = C.length → Tells (fun k => arboristref06_soft.l0 k (i : Int) D H F l R C z) (RowsOk l R 0)
  | 0, i, h => by
    refine (rows_f D H F hD l hs R hR hRl).s1 id (fun k b q => ?_)
    rw [arboristref06_soft.l0, if_neg (by omega), q, Option.bind_some]
  | d + 1, i, h => by
    have ih := soft_l0 l R C z hs hR hRl hC d (i + 1) (by omega)
    by_cases c1 : rd C (i : Int) < -1000000000000
    · exact Tells.no (fun k => by rw [arboristref06_soft.l0, if_pos (by omega), if_pos (by omega), if_pos c1])
    · by_cases c2 : rd C (i : Int) > 1000000000000
      · exact Tells.no (fun k => by rw [arboristref06_soft.l0, if_pos (by omega), if_pos (by omega), if_neg c1, if_pos c2])
      · refine ih.s1 id (fun k b q => ?_)
        rw [arboristref06_soft.l0, if_pos (by omega), if_pos (by omega), if_neg c1, if_neg c2, wrap_nat i (by omega)]
        exact q
theorem soft_t (l : List Int) (R : List (List Int)) (C : List Int) (z : Int) (hl : l.length ≤ 9223372036854775807) (hR : R.length ≤ 9223372036854775807) (hRl : ∀ x ∈ R, x.length ≤ 9223372036854775807) (hC : C.length ≤ 9223372036854775807) : Tells (fun k => arboristref06_soft.f k D H F l R C z) (ScopeOk D.length l ∧ RowsOk l R 0 ∧ C.length = R.length) := by
  obtain ⟨b, e, hb⟩ := scope_t D H F l hl
  have hyes : Ev (fun k => arboristref06_soft.j0 k true D H F l R C z) false := evs0 (fun k => by rw [arboristref06_soft.j0, if_pos rfl])
  cases b with
  | false =>
    refine ⟨false, evu2 e hyes (fun k q1 q2 => ?_), fun e => by cases e⟩
    rw [arboristref06_soft.f, q1, Option.bind_some, if_neg (fun h => Bool.noConfusion h)]
    exact q2
  | true =>
    have hs := hb rfl
    have no : (∀ k, arboristref06_soft.f k D H F l R C z = (arboristref06_scope.f k D H F l).bind fun t => if t = true then arboristref06_soft.j0 k true D H F l R C z else arboristref06_soft.j0 k true D H F l R C z) → Tells (fun k => arboristref06_soft.f k D H F l R C z) (ScopeOk D.length l ∧ RowsOk l R 0 ∧ C.length = R.length) := fun hx =>
      ⟨false, evu2 e hyes (fun k q1 q2 => by rw [hx, q1, Option.bind_some, if_pos rfl]; exact q2), fun e => by cases e⟩
    by_cases c0 : (C.length : Int) = (R.length : Int)
    · by_cases c1 : z < -1000000000000
      · exact no (fun k => by rw [arboristref06_soft.f]; simp only [if_pos c0, if_pos c1])
      · by_cases c2 : z > 1000000000000
        · exact no (fun k => by rw [arboristref06_soft.f]; simp only [if_pos c0, if_neg c1, decide_eq_true c2])
        · obtain ⟨c, h1, h2⟩ := soft_l0 D H F hD l R C z hs hR hRl hC C.length 0 (by omega)
          have hj : Ev (fun k => arboristref06_soft.j0 k false D H F l R C z) c := evs1 h1 (fun k q => by
            rw [arboristref06_soft.j0, if_neg (fun h => Bool.noConfusion h)]
            exact q)
          refine ⟨c, evu2 e hj (fun k q1 q2 => ?_), fun e => ⟨hs, h2 e, by omega⟩⟩
          rw [arboristref06_soft.f, q1, Option.bind_some, if_pos rfl, if_pos c0, if_neg c1, decide_eq_false c2]
          exact q2
    · exact no (fun k => by rw [arboristref06_soft.f]; simp only [if_neg c0])
end
structure RightX (D : List (List Int)) (H : List S69) (F : List S73) : Prop where
  small : D.length ≤ 40 ∧ H.length ≤ 200 ∧ F.length ≤ 200
  hard : ∀ c ∈ H, ScopeOk D.length c.f1 ∧ RowsOk c.f1 c.f2 0
  soft : ∀ s ∈ F, ScopeOk D.length s.f0 ∧ RowsOk s.f0 s.f1 0 ∧ s.f2.length = s.f1.length
  dom : ∀ d ∈ D, 1 ≤ d.length ∧ d.length ≤ 16 ∧ d.Pairwise (· < ·)
section
variable {D : List (List Int)} {H : List S69} {F : List S73}
theorem rdH_at (i : Nat) (h : i < H.length) : rd_T69 H (i : Int) = H[i] := by
  unfold rd_T69
  rw [Int.toNat_natCast]
  simp [h]
theorem rdF_at (i : Nat) (h : i < F.length) : rd_T73 F (i : Int) = F[i] := by
  unfold rd_T73
  rw [Int.toNat_natCast]
  simp [h]
structure LensX (D : List (List Int)) (H : List S69) (F : List S73) : Prop where
  d : ∀ x ∈ D, x.length ≤ 9223372036854775807
  h : ∀ c ∈ H, c.f1.length ≤ 9223372036854775807 ∧ c.f2.length ≤ 9223372036854775807 ∧ ∀ x ∈ c.f2, x.length ≤ 9223372036854775807
  f : ∀ s ∈ F, s.f0.length ≤ 9223372036854775807 ∧ s.f1.length ≤ 9223372036854775807 ∧ (∀ x ∈ s.f1, x.length ≤ 9223372036854775807) ∧ s.f2.length ≤ 9223372036854775807
theorem rt6_l2 (L : LensX D H F) (hF : F.length ≤ 200) (P : Prop) : ∀ (d i : Nat) (x : Bool), i + d = F.length → (x = true → P ∧ ∀ j (h : j < F.length), j < i → ScopeOk D.length F[j].f0 ∧ RowsOk F[j].f0 F[j].f1 0 ∧ F[j].f2.length = F[j].f1.length) → Tells (fun k => arboristref06_Right.l2 k x (i : Int) D H F) (P ∧ ∀ s ∈ F, ScopeOk D.length s.f0 ∧ RowsOk s.f0 s.f1 0 ∧ s.f2.length = s.f1.length)
  | 0, i, x, h, hx => ⟨x, evs0 (fun k => by rw [arboristref06_Right.l2, if_neg (by omega)]), fun e => ⟨(hx e).1, fun s hs => by
      obtain ⟨j, hj, rfl⟩ := List.getElem_of_mem hs
      exact (hx e).2 j hj (by omega)⟩⟩
  | d + 1, i, x, h, hx => by
    have hi : i < F.length := by omega
    have l := L.f _ (List.getElem_mem hi)
    obtain ⟨b, ev, hb⟩ := soft_t D H F (fun d hd => by have := L.d d hd; omega) F[i].f0 F[i].f1 F[i].f2 F[i].f3 l.1 l.2.1 l.2.2.1 l.2.2.2
    have ih := rt6_l2 L hF P d (i + 1) (x && b) (by omega) (fun e => by
      rw [Bool.and_eq_true] at e
      refine ⟨(hx e.1).1, fun j hj hj2 => ?_⟩
      rcases Nat.lt_succ_iff_lt_or_eq.1 hj2 with h' | h'
      · exact (hx e.1).2 j hj h'
      · subst h'; exact hb e.2)
    refine Tells.s2 ev ih id (fun k c q1 q2 => ?_)
    rw [arboristref06_Right.l2, if_pos (by omega), if_pos (by omega), rdF_at i hi, q1, Option.bind_some, wrap_nat i (by omega)]
    cases x
    · exact q2
    · exact q2
theorem rt6_l1 (L : LensX D H F) (hH : H.length ≤ 200) (hF : F.length ≤ 200) : ∀ (d i : Nat) (x : Bool), i + d = H.length → (x = true → ∀ j (h : j < H.length), j < i → ScopeOk D.length H[j].f1 ∧ RowsOk H[j].f1 H[j].f2 0) → Tells (fun k => arboristref06_Right.l1 k x (i : Int) D H F) ((∀ c ∈ H, ScopeOk D.length c.f1 ∧ RowsOk c.f1 c.f2 0) ∧ ∀ s ∈ F, ScopeOk D.length s.f0 ∧ RowsOk s.f0 s.f1 0 ∧ s.f2.length = s.f1.length)
  | 0, i, x, h, hx => by
    refine (rt6_l2 L hF (∀ c ∈ H, ScopeOk D.length c.f1 ∧ RowsOk c.f1 c.f2 0) F.length 0 x (by omega) (fun e => ⟨fun c hc => by
      obtain ⟨j, hj, rfl⟩ := List.getElem_of_mem hc
      exact hx e j hj (by omega), fun j hj h0 => by omega⟩)).s1 id (fun k b q => ?_)
    rw [arboristref06_Right.l1, if_neg (by omega)]
    exact q
  | d + 1, i, x, h, hx => by
    have hi : i < H.length := by omega
    have l := L.h _ (List.getElem_mem hi)
    obtain ⟨b, ev, hb⟩ := hard_t D H F (fun d hd => by have := L.d d hd; omega) H[i].f0 H[i].f1 H[i].f2 H[i].f3 l.1 l.2.1 l.2.2
    have ih := rt6_l1 L hH hF d (i + 1) (x && b) (by omega) (fun e j hj hj2 => by
      rw [Bool.and_eq_true] at e
      rcases Nat.lt_succ_iff_lt_or_eq.1 hj2 with h' | h'
      · exact hx e.1 j hj h'
      · subst h'; exact hb e.2)
    refine Tells.s2 ev ih id (fun k c q1 q2 => ?_)
    rw [arboristref06_Right.l1, if_pos (by omega), if_pos (by omega), rdH_at i hi, q1, Option.bind_some, wrap_nat i (by omega)]
    cases x
    · exact q2
    · exact q2
theorem rt6_l0 (L : LensX D H F) (hn : D.length ≤ 40) (hH : H.length ≤ 200) (hF : F.length ≤ 200) : ∀ (d i : Nat), i + d = D.length → (∀ j (h : j < D.length), j < i → 1 ≤ D[j].length ∧ D[j].length ≤ 16 ∧ D[j].Pairwise (· < ·)) → Tells (fun k => arboristref06_Right.l0 k (i : Int) D H F) (RightX D H F)
  | 0, i, h, hx => by
    refine (rt6_l1 L hH hF H.length 0 true (by omega) (fun _ j hj h0 => by omega)).s1 (fun hp => ⟨⟨hn, hH, hF⟩, hp.1, hp.2, fun x hx' => by
      obtain ⟨j, hj, rfl⟩ := List.getElem_of_mem hx'
      exact hx j hj (by omega)⟩) (fun k b q => ?_)
    rw [arboristref06_Right.l0, if_neg (by omega)]
    exact q
  | d + 1, i, h, hx => by
    have hi : i < D.length := by omega
    have l := L.d _ (List.getElem_mem hi)
    have e := rris_ev D[i] l
    by_cases c1 : D[i].length < 1
    · exact Tells.no (fun k => by rw [arboristref06_Right.l0, if_pos (by omega), if_pos (by omega), rdI_at6 D i hi, if_pos (by omega)])
    by_cases c2 : D[i].length > 16
    · exact Tells.no (fun k => by rw [arboristref06_Right.l0, if_pos (by omega), if_pos (by omega), rdI_at6 D i hi, if_neg (by omega), if_pos (by omega)])
    have hw : wrap64 ((D[i].length : Int) - 1) = ((D[i].length - 1 : Nat) : Int) := by rw [wrap_id (by omega) (by omega)]; omega
    obtain ⟨s1, hs1⟩ := small_any (rd D[i] 0) 1000000
    obtain ⟨s2, hs2⟩ := small_any (rd D[i] ((D[i].length - 1 : Nat) : Int)) 1000000
    cases hb : risingB D[i] with
    | false =>
      rw [hb] at e
      refine Tells.e0 e (fun k q => ?_)
      rw [arboristref06_Right.l0, if_pos (by omega), if_pos (by omega), rdI_at6 D i hi, if_neg (by omega), if_neg (by omega), q, Option.bind_some, if_neg (fun h => Bool.noConfusion h)]
    | true =>
      rw [hb] at e
      cases s1 with
      | false =>
        refine Tells.e0 e (fun k q => ?_)
        rw [arboristref06_Right.l0, if_pos (by omega), if_pos (by omega), rdI_at6 D i hi, if_neg (by omega), if_neg (by omega), q, Option.bind_some, if_pos rfl, if_pos (by omega), hs1, Option.bind_some, if_neg (fun h => Bool.noConfusion h)]
      | true =>
        cases s2 with
        | false =>
          refine Tells.e0 e (fun k q => ?_)
          rw [arboristref06_Right.l0, if_pos (by omega), if_pos (by omega), rdI_at6 D i hi, if_neg (by omega), if_neg (by omega), q, Option.bind_some, if_pos rfl, if_pos (by omega), hs1, Option.bind_some, if_pos rfl, hw, if_pos (by omega), if_pos (by omega), hs2, Option.bind_some, if_neg (fun h => Bool.noConfusion h)]
        | true =>
          have ih := rt6_l0 L hn hH hF d (i + 1) (by omega) (fun j hj hj2 => by
            rcases Nat.lt_succ_iff_lt_or_eq.1 hj2 with h' | h'
            · exact hx j hj h'
            · subst h'; exact ⟨by omega, by omega, (rising_iff6 _).1 hb⟩)
          refine Tells.s2 e ih id (fun k c q q2 => ?_)
          rw [arboristref06_Right.l0, if_pos (by omega), if_pos (by omega), rdI_at6 D i hi, if_neg (by omega), if_neg (by omega), q, Option.bind_some, if_pos rfl, if_pos (by omega), hs1, Option.bind_some, if_pos rfl, hw, if_pos (by omega), if_pos (by omega), hs2, Option.bind_some, if_pos rfl, wrap_nat i (by omega)]
          exact q2
theorem right_t (L : LensX D H F) : Tells (fun k => arboristref06_Right.f k D H F) (RightX D H F) := by
  have hyes : Ev (fun k => arboristref06_Right.j0 k true D H F) false := evs0 (fun k => by rw [arboristref06_Right.j0, if_pos rfl])
  by_cases c1 : (D.length : Int) > 40
  · exact ⟨false, evu1 hyes (fun k q => by rw [arboristref06_Right.f, if_pos c1]; exact q), fun e => by cases e⟩
  by_cases c2 : (H.length : Int) > 200
  · exact ⟨false, evu1 hyes (fun k q => by rw [arboristref06_Right.f, if_neg c1, if_pos c2]; exact q), fun e => by cases e⟩
  by_cases c3 : (F.length : Int) > 200
  · exact ⟨false, evu1 hyes (fun k q => by rw [arboristref06_Right.f, if_neg c1, if_neg c2, decide_eq_true c3]; exact q), fun e => by cases e⟩
  obtain ⟨b, e, hb⟩ := rt6_l0 L (by omega) (by omega) (by omega) D.length 0 (by omega) (fun j hj h0 => by omega)
  have hj : Ev (fun k => arboristref06_Right.j0 k false D H F) b := evs1 e (fun k q => by
    rw [arboristref06_Right.j0, if_neg (fun h => Bool.noConfusion h)]
    exact q)
  exact ⟨b, evu1 hj (fun k q => by rw [arboristref06_Right.f, if_neg c1, if_neg c2, decide_eq_false c3]; exact q), hb⟩
end
end Go.Proofs.Ytpmfdggbccbfaaa.Pure
set_option linter.unusedVariables false
set_option linter.unusedSimpArgs false
namespace Go.Proofs.Ytpmfdggbccbfaaa.Pr
open Go.RowKit Go.Proofs.YtpmfdggbccbfaaaW.PrintWords Go.Proofs.YtpmfdggbccbfaaaW.PrintLast
def ownL : List (List Int) → List (List Int) → List (List Int)
  | _, [] => []
  | seen, b :: r => if seen.any (withinB b) = true then ownL (seen ++ [b]) r else b :: ownL (seen ++ [b]) r
def meetN (B : List (List Int)) (i k : Nat) : Int := ((mergeL false true false (B.getD i []) (B.getD k [])).length : Int)
def updL (B : List (List Int)) (k i : Nat) (l : Int × Int) : Int × Int := if meetN B i k > l.1 ∨ (meetN B i k = l.1 ∧ (k : Int) < l.2) then (meetN B i k, (k : Int)) else l
def comesL (B : List (List Int)) (k : Nat) (L : Nat → Option (Int × Int)) : Nat → Option (Int × Int) := fun i => if i = k then none else (L i).map (updL B k i)
def bestGo (L : Nat → Option (Int × Int)) : Nat → Nat → Int → Int
  | 0, _, b => b
  | d + 1, i, b => bestGo L d (i + 1) (match L i with
    | some l => if b = -1 ∨ l.1 > ((L b.toNat).getD (0, 0)).1 then (i : Int) else b
    | none => b)
def primGo (B : List (List Int)) : Nat → (Nat → Option (Int × Int)) → Int → List Int → List Int
  | 0, _, _, par => par
  | d + 1, L, nx, par => primGo B d (comesL B nx.toNat L) (bestGo (comesL B nx.toNat L) B.length 0 (-1)) (par.set nx.toNat ((L nx.toNat).getD (0, 0)).2)
def initL (m : Nat) : Nat → Option (Int × Int) := fun i => if i < m then some (-1, -1) else none
def primL (B : List (List Int)) : List Int := primGo B B.length (initL B.length) 0 (List.replicate B.length (-1))
theorem ownL_sub : ∀ (l seen : List (List Int)), ∀ b ∈ ownL seen l, b ∈ l
  | [], _, b, hb => by cases hb
  | c :: l, seen, b, hb => by
    unfold ownL at hb
    split at hb
    · exact List.mem_cons_of_mem _ (ownL_sub l _ b hb)
    · rcases List.mem_cons.1 hb with rfl | hb
      · exact List.mem_cons_self
      · exact List.mem_cons_of_mem _ (ownL_sub l _ b hb)
def okL (L : Nat → Option (Int × Int)) (b : Int) : Prop := 0 ≤ b ∧ (L b.toNat).isSome = true
def stepB (L : Nat → Option (Int × Int)) (i : Nat) (b : Int) : Int := match L i with
  | some l => if b = -1 ∨ l.1 > ((L b.toNat).getD (0, 0)).1 then (i : Int) else b
  | none => b
theorem bestGo_step (L : Nat → Option (Int × Int)) (d i : Nat) (b : Int) : bestGo L (d + 1) i b = bestGo L d (i + 1) (stepB L i b) := rfl
theorem stepB_ok {L : Nat → Option (Int × Int)} {i : Nat} {b : Int} (h : okL L b) : okL L (stepB L i b) := by
  unfold stepB
  cases hi : L i with
  | none => exact h
  | some l =>
    simp only
    split
    · exact ⟨by omega, by rw [Int.toNat_natCast, hi]; rfl⟩
    · exact h
theorem bestGo_ok {L : Nat → Option (Int × Int)} : ∀ (d i : Nat) (b : Int), (okL L b ∨ (b = -1 ∧ ∃ j, i ≤ j ∧ j < i + d ∧ (L j).isSome = true)) → okL L (bestGo L d i b)
  | 0, i, b, h => by
    rcases h with h | ⟨_, j, h1, h2, _⟩
    · exact h
    · omega
  | d + 1, i, b, h => by
    rw [bestGo_step]
    refine bestGo_ok d (i + 1) _ ?_
    rcases h with h | ⟨rfl, j, h1, h2, h3⟩
    · exact .inl (stepB_ok h)
    · by_cases c : j = i
      · subst c
        obtain ⟨l, hl⟩ := Option.isSome_iff_exists.1 h3
        refine .inl ?_
        unfold stepB
        rw [hl]
        simp only [true_or, if_true]
        exact ⟨by omega, by rw [Int.toNat_natCast, hl]; rfl⟩
      · cases hi : L i with
        | none =>
          refine .inr ⟨by unfold stepB; rw [hi], j, by omega, by omega, h3⟩
        | some l =>
          refine .inl ?_
          unfold stepB
          rw [hi]
          simp only [true_or, if_true]
          exact ⟨by omega, by rw [Int.toNat_natCast, hi]; rfl⟩
end Go.Proofs.Ytpmfdggbccbfaaa.Pr
set_option linter.unusedVariables false
set_option linter.unusedSimpArgs false
namespace Go.Proofs.Ytpmfdggbccbfaaa.Pr
open Go.RowKit Go.Proofs.YtpmfdggbccbfaaaW.PrintWords Go.Proofs.YtpmfdggbccbfaaaW.PrintLast Go.Proofs.YtpmfdggbccbfaaaW.PrintMore
def ofT (n : Nat) (f : Nat → Bool) : List Int := ((List.range n).filter f).map fun (i : Nat) => (i : Int)
def gI (ws : List Nat) : List Int := ws.map fun (x : Nat) => (x : Int)
def wAt (ws : List Nat) (i : Nat) : Nat := ws.getD i 0
theorem gI_len (ws : List Nat) : (gI ws).length = ws.length := by simp [gI]
theorem gI_rd (ws : List Nat) (i : Nat) : rd (gI ws) (i : Int) = ((wAt ws i : Nat) : Int) := by
  unfold rd gI wAt
  rw [Int.toNat_natCast, List.getD_eq_getElem?_getD, List.getD_eq_getElem?_getD, List.getElem?_map]
  cases ws[i]? <;> rfl
theorem wAt_get (ws : List Nat) (i : Nat) (h : i < ws.length) : wAt ws i = ws[i] := by
  unfold wAt
  rw [List.getD_eq_getElem?_getD, List.getElem?_eq_getElem h]
  rfl
def isP (n : Nat) (a : Int) : Bool := decide (0 ≤ a ∧ a < (n : Int))
def rowT (n : Nat) (f : Nat → Bool) : List Bool := (List.range n).map f
def mat (n : Nat) (f : Nat → Nat → Bool) : List (List Bool) := (List.range n).map fun i => rowT n (f i)
theorem rowT_len (n : Nat) (f : Nat → Bool) : (rowT n f).length = n := by simp [rowT]
theorem mat_len (n : Nat) (f : Nat → Nat → Bool) : (mat n f).length = n := by simp [mat]
theorem rowT_rd (n : Nat) (f : Nat → Bool) (k : Nat) (h : k < n) : rdOf false (rowT n f) (k : Int) = f k := by
  unfold rdOf rowT
  rw [Int.toNat_natCast, List.getD_eq_getElem?_getD, List.getElem?_map, List.getElem?_range h]
  rfl
theorem mat_rd (n : Nat) (f : Nat → Nat → Bool) (i : Nat) (h : i < n) : rd_L8 (mat n f) (i : Int) = rowT n (f i) := by
  unfold rd_L8 mat
  rw [Int.toNat_natCast, List.getD_eq_getElem?_getD, List.getElem?_map, List.getElem?_range h]
  rfl
theorem rowT_set (n : Nat) (f : Nat → Bool) (k : Nat) (b : Bool) : (rowT n f).set k b = rowT n fun j => if j = k then b else f j := by
  unfold rowT
  apply List.ext_getElem
  · simp
  · intro j h1 h2
    rw [List.getElem_set]
    simp only [List.getElem_map, List.getElem_range]
    by_cases e : k = j
    · rw [if_pos e, if_pos e.symm]
    · rw [if_neg e, if_neg (fun h => e h.symm)]
theorem mat_set (n : Nat) (f : Nat → Nat → Bool) (i : Nat) (g : Nat → Bool) : (mat n f).set i (rowT n g) = mat n fun j => if j = i then g else f j := by
  unfold mat
  apply List.ext_getElem
  · simp
  · intro j h1 h2
    rw [List.getElem_set]
    simp only [List.getElem_map, List.getElem_range]
    by_cases e : i = j
    · rw [if_pos e, if_pos e.symm]
    · rw [if_neg e, if_neg (fun h => e h.symm)]
theorem rowT_congr {n : Nat} {f g : Nat → Bool} (h : ∀ k, k < n → f k = g k) : rowT n f = rowT n g := List.map_congr_left (fun k hk => h k (List.mem_range.1 hk))
theorem mat_congr {n : Nat} {f g : Nat → Nat → Bool} (h : ∀ i k, i < n → k < n → f i k = g i k) : mat n f = mat n g := List.map_congr_left (fun i hi => rowT_congr (fun k hk => h i k (List.mem_range.1 hi) hk))
theorem rep_row (n : Nat) : List.replicate n false = rowT n fun _ => false := by
  unfold rowT
  apply List.ext_getElem
  · simp
  · intro j h1 h2; simp
theorem ofT_from (n : Nat) (f : Nat → Bool) (j : Nat) (h : j < n) : ((List.range' j (n - j)).filter f) = if f j = true then j :: (List.range' (j + 1) (n - (j + 1))).filter f else (List.range' (j + 1) (n - (j + 1))).filter f := by
  rw [show n - j = (n - (j + 1)) + 1 by omega, List.range'_succ, List.filter_cons]
theorem evp {ρ : Type} {F g : Nat → Option ρ} {r : ρ} (h : Ev g r) (H : ∀ k, g k = some r → F (k + 1) = some r) : Ev F r := evs1 h H
theorem neigh_l0 (n : Nat) (hn : n ≤ 1000) (f : Nat → Nat → Bool) (a : Nat) (ha : a < n) : ∀ (d j : Nat) (o : List Int), j + d = n → o.length ≤ j → Ev (fun k => arboristref08_Neighbors.l0 k (mat n f) (a : Int) o (j : Int)) (o ++ ((List.range' j (n - j)).filter (f a)).map fun (i : Nat) => (i : Int))
  | 0, j, o, h, ho => by
    rw [show n - j = 0 by omega]
    refine evs1 (evs0 (F := fun k => arboristref08_Neighbors.j1 k (mat n f) (a : Int) o (j : Int) false) (r := o ++ ((List.range' j 0).filter (f a)).map fun (i : Nat) => (i : Int)) (fun k => ?_)) (fun k e => ?_)
    · rw [arboristref08_Neighbors.j1, if_neg (by decide)]; simp
    · rw [arboristref08_Neighbors.l0, mat_len, if_neg (by omega)]; exact e
  | d + 1, j, o, h, ho => by
    rw [ofT_from n (f a) j (by omega)]
    by_cases c : f a j = true
    · rw [if_pos c]
      have hr := neigh_l0 n hn f a ha d (j + 1) (o ++ [(j : Int)]) (by omega) (by simp; omega)
      rw [List.append_assoc] at hr
      refine evp (g := fun k => arboristref08_Neighbors.j1 k (mat n f) (a : Int) o (j : Int) true) (evp hr (fun k e => ?_)) (fun k e => ?_)
      · rw [arboristref08_Neighbors.j1, if_pos rfl, if_pos (by omega), mat_len, if_pos (by omega), if_pos (by omega), mat_rd n f a ha, rowT_len, if_pos (by omega), rowT_rd n (f a) j (by omega), if_pos c, if_pos (by omega), wrap_nat j (by omega)]
        exact e
      · rw [arboristref08_Neighbors.l0, mat_len, if_pos (by omega), if_pos (by omega), decide_eq_true (by omega)]; exact e
    · rw [if_neg c]
      have hr := neigh_l0 n hn f a ha d (j + 1) o (by omega) (by omega)
      refine evp (g := fun k => arboristref08_Neighbors.j1 k (mat n f) (a : Int) o (j : Int) true) (evp hr (fun k e => ?_)) (fun k e => ?_)
      · rw [arboristref08_Neighbors.j1, if_pos rfl, if_pos (by omega), mat_len, if_pos (by omega), if_pos (by omega), mat_rd n f a ha, rowT_len, if_pos (by omega), rowT_rd n (f a) j (by omega), if_neg c, wrap_nat j (by omega)]
        exact e
      · rw [arboristref08_Neighbors.l0, mat_len, if_pos (by omega), if_pos (by omega), decide_eq_true (by omega)]; exact e
theorem neigh_ev (n : Nat) (hn : n ≤ 1000) (f : Nat → Nat → Bool) (a : Int) : Ev (fun k => arboristref08_Neighbors.f k (mat n f) a) (if isP n a = true then ofT n (f a.toNat) else []) := by
  by_cases c : isP n a = true
  · have h := of_decide_eq_true c
    obtain ⟨i, rfl⟩ := Int.eq_ofNat_of_zero_le h.1
    have hr := neigh_l0 n hn f i (by omega) n 0 [] (by omega) (by simp)
    rw [if_pos c]
    rw [List.nil_append, Nat.sub_zero, ← List.range_eq_range'] at hr
    exact hr
  · rw [if_neg c]
    have h : ¬ (0 ≤ a ∧ a < (n : Int)) := of_decide_eq_false (Bool.not_eq_true _ |>.mp c)
    have hj : Ev (fun k => arboristref08_Neighbors.j1 k (mat n f) a [] 0 false) [] := evs0 (fun k => by rw [arboristref08_Neighbors.j1, if_neg (by decide)])
    refine evs1 hj (fun k e => ?_)
    rw [arboristref08_Neighbors.f, arboristref08_Neighbors.l0, mat_len]
    by_cases c1 : (0 : Int) < (n : Int)
    · rw [if_pos c1]
      by_cases c2 : a ≥ 0
      · rw [if_pos c2, decide_eq_false (by omega)]; exact e
      · rw [if_neg c2]; exact e
    · rw [if_neg c1]; exact e
section
variable (ws : List Nat)
def bF (i k : Nat) : Bool := (wAt ws i).testBit k
end
theorem low16 (x : Int) : 0 ≤ Go.bits .and .i64 x 65535 ∧ Go.bits .and .i64 x 65535 ≤ 65535 := by
  have h2 : (BitVec.ofInt 64 (65535 : Int)).toNat = 65535 := by decide
  have h3 : (BitVec.ofInt 64 x &&& BitVec.ofInt 64 (65535 : Int)).toNat ≤ 65535 := by
    rw [BitVec.toNat_and, h2]; exact Nat.and_le_right
  have e : Go.bits .and .i64 x 65535 = IntKind.i64.wrap ((BitVec.ofInt 64 x &&& BitVec.ofInt 64 (65535 : Int)).toNat : Int) := rfl
  rw [e, IntKind.wrap_i64]
  omega
theorem kT_in {n : Nat} (h : 0 < n) (x : Int) : ∃ k : Nat, k < n ∧ Int.tmod (Go.bits .and .i64 x 65535) (n : Int) = (k : Int) := by
  obtain ⟨h1, h2⟩ := low16 x
  have a := Int.tmod_nonneg (n : Int) h1
  have b := Int.tmod_lt_of_pos (Go.bits .and .i64 x 65535) (show (0 : Int) < (n : Int) by omega)
  exact ⟨(Int.tmod (Go.bits .and .i64 x 65535) (n : Int)).toNat, by omega, by omega⟩
def Sy (n : Nat) (f : Nat → Nat → Bool) : Prop := (∀ i k, f i k = f k i) ∧ (∀ i, f i i = false) ∧ ∀ i k, f i k = true → i < n ∧ k < n
theorem Sy.no (n : Nat) : Sy n fun _ _ => false := ⟨fun _ _ => rfl, fun _ => rfl, fun _ _ h => by cases h⟩
def cliqB (n : Nat) (f : Nat → Nat → Bool) (l : List Int) : Bool := l.all (isP n) && l.all fun x => l.all fun y => x == y || f x.toNat y.toNat
theorem shown_9 : Ev (fun k => arboristlaw13_shown.f k) true := Ev.of (fun k => arboristlaw13_shown.mono k) (k := 100) (by decide +kernel)
def idI (n : Nat) : List Int := (List.range n).map fun (i : Nat) => (i : Int)
theorem idI_len (n : Nat) : (idI n).length = n := by simp [idI]
theorem idI_succ (n : Nat) : idI (n + 1) = idI n ++ [(n : Int)] := by simp [idI, List.range_succ]
theorem mem_idI {n : Nat} {x : Int} : x ∈ idI n ↔ ∃ k : Nat, k < n ∧ x = (k : Int) := by
  unfold idI
  simp only [List.mem_map, List.mem_range]
  constructor
  · rintro ⟨k, h, rfl⟩; exact ⟨k, h, rfl⟩
  · rintro ⟨k, h, rfl⟩; exact ⟨k, h, rfl⟩
theorem idI_nodup (n : Nat) : (idI n).Nodup := by
  unfold idI
  rw [List.Nodup, List.pairwise_map]
  exact List.nodup_range.imp (fun h e => h (by omega))
theorem given_step (out left : List Int) (p : Nat) (h : p < left.length) {I : List Int} (hp : (out ++ left).Perm I) : ((out ++ [rd left (p : Int)]) ++ (left.take p ++ left.drop (p + 1))).Perm I := by
  have hx : left[p]? = some (left[p]) := List.getElem?_eq_getElem h
  rw [rd_nat left p _ hx]
  have e : left = left.take p ++ left[p] :: left.drop (p + 1) := by rw [← List.drop_eq_getElem_cons h, List.take_append_drop]
  refine List.Perm.trans ?_ hp
  rw [List.append_assoc]
  refine List.Perm.append_left out ?_
  rw [List.singleton_append]
  conv => rhs; rw [e]
  exact List.perm_middle.symm
theorem given_l1 (n : Nat) (hn : n ≤ 1000) (l : List Int) (I : List Int) (d : Nat) : ∀ (i : Nat) (left out : List Int), i + d = n → left.length = d → out.length = i → (out ++ left).Perm I → ∃ o, o.Perm I ∧ Ev (fun k => arboristlaw13_given.l1 k (n : Int) l left out (i : Int)) o := by
  induction d with
  | zero =>
    intro i left out h hl ho hp
    obtain rfl := List.eq_nil_of_length_eq_zero hl
    exact ⟨out, by simpa using hp, evs0 (fun k => by rw [arboristlaw13_given.l1, if_neg (by omega)])⟩
  | succ d ih =>
    intro i left out h hl ho hp
    have next : ∀ p : Nat, p < left.length → ∃ o, o.Perm I ∧ Ev (fun k => arboristlaw13_given.l1 k (n : Int) l (left.take p ++ left.drop (p + 1)) (out ++ [rd left (p : Int)]) ((i + 1 : Nat) : Int)) o := fun p hpl =>
      ih (i + 1) _ _ (by omega) (by rw [List.length_append, List.length_take, List.length_drop]; omega) (by rw [List.length_append, ho]; rfl) (given_step out left p hpl hp)
    clear ih hp
    by_cases c : i < l.length
    · obtain ⟨p, hpl, hp2⟩ := kT_in (show 0 < left.length by omega) (rd l (i : Int))
      obtain ⟨o, ho1, ho2⟩ := next p hpl
      refine ⟨o, ho1, evp ho2 (fun k e => ?_)⟩
      have hq : wrap64 ((p : Int) + 1) = ((p + 1 : Nat) : Int) := wrap_nat p (by omega)
      have hw : wrap64 ((i : Int) + 1) = ((i + 1 : Nat) : Int) := wrap_nat i (by omega)
      have g1 : ([] : List Int).length + (left.take p).length < 17592186044416 := by rw [List.length_take]; simp; omega
      have g2 : (left.take p).length + (left.drop (p + 1)).length < 17592186044416 := by rw [List.length_take, List.length_drop]; omega
      rw [arboristlaw13_given.l1, if_pos (by omega), if_pos (by omega), if_pos (by omega), if_neg (by omega), hp2, if_pos (by omega), if_pos (by omega), if_pos (by omega)]
      rw [Option.bind_some, if_pos (by omega), Option.bind_some, Int.toNat_natCast, if_pos g1, Option.bind_some, hq, if_pos (by omega), if_pos (by omega), Option.bind_some, List.nil_append, Int.toNat_natCast, if_pos g2, hw]
      exact e
    · obtain ⟨o, ho1, ho2⟩ := next 0 (by omega)
      refine ⟨o, ho1, evp ho2 (fun k e => ?_)⟩
      have hw : wrap64 ((i : Int) + 1) = ((i + 1 : Nat) : Int) := wrap_nat i (by omega)
      have g1 : ([] : List Int).length + (left.take 0).length < 17592186044416 := by simp
      have g2 : (left.take 0).length + (left.drop 1).length < 17592186044416 := by simp; omega
      rw [arboristlaw13_given.l1, if_pos (by omega), if_neg (by omega), if_pos (by omega), if_pos (by omega)]
      rw [Option.bind_some, if_pos (by omega), Option.bind_some, if_pos g1, Option.bind_some, if_pos (by omega), Option.bind_some, List.nil_append, if_pos g2, hw]
      exact e
theorem given_l0 (n : Nat) (hn : n ≤ 1000) (l : List Int) : ∀ (d i : Nat), i + d = n → ∃ o, o.Perm (idI n) ∧ Ev (fun k => arboristlaw13_given.l0 k (n : Int) l (idI i) (i : Int)) o
  | 0, i, h => by
    obtain rfl : i = n := by omega
    obtain ⟨o, ho1, ho2⟩ := given_l1 i hn l (idI i) i 0 (idI i) [] (by omega) (idI_len i) rfl (by simp)
    refine ⟨o, ho1, evp ho2 (fun k e => ?_)⟩
    rw [arboristlaw13_given.l0, if_neg (by omega)]
    exact e
  | d + 1, i, h => by
    obtain ⟨o, ho1, ho2⟩ := given_l0 n hn l d (i + 1) (by omega)
    refine ⟨o, ho1, evp ho2 (fun k e => ?_)⟩
    rw [arboristlaw13_given.l0, if_pos (by omega), if_pos (by rw [idI_len]; omega), wrap_nat i (by omega), ← idI_succ]
    exact e
theorem given_ev (n : Nat) (hn : n ≤ 1000) (l : List Int) : ∃ o, o.Perm (idI n) ∧ Ev (fun k => arboristlaw13_given.f k (n : Int) l) o := given_l0 n hn l n 0 (by omega)
def goT (f : Nat → Nat → Bool) (v : Nat) : Nat → Nat → Bool := fun i k => !decide (i = v) && (!decide (k = v) && (f i k || (f v i && (f v k && !decide (i = k)))))
def nbN (n : Nat) (f : Nat → Nat → Bool) (v : Nat) : List Nat := (List.range n).filter (f v)
theorem mem_nbN {n : Nat} {f : Nat → Nat → Bool} {v x : Nat} : x ∈ nbN n f v ↔ x < n ∧ f v x = true := by unfold nbN; rw [List.mem_filter, List.mem_range]
theorem nbN_len (n : Nat) (f : Nat → Nat → Bool) (v : Nat) : (nbN n f v).length ≤ n := Nat.le_trans (List.length_filter_le _ _) (by simp)
theorem ofT_nbN (n : Nat) (f : Nat → Nat → Bool) (v : Nat) : ofT n (f v) = gI (nbN n f v) := rfl
theorem neigh9 (n : Nat) (hn : n ≤ 1000) (f : Nat → Nat → Bool) (v : Nat) (hv : v < n) : Ev (fun k => arboristref08_Neighbors.f k (mat n f) (v : Int)) (gI (nbN n f v)) := by
  have h := neigh_ev n hn f (v : Int)
  rw [if_pos (by unfold isP; exact decide_eq_true (by omega)), Int.toNat_natCast, ofT_nbN] at h
  exact h
theorem wAt_in {l : List Nat} {i : Nat} (h : i < l.length) : wAt l i ∈ l := by rw [wAt_get l i h]; exact List.getElem_mem h
theorem nodup_at {l : List Nat} (h : l.Nodup) {i k : Nat} (hi : i < l.length) (hk : k < l.length) (e : l[i] = l[k]) : i = k := by
  have hp := List.pairwise_iff_getElem.1 h
  rcases Nat.lt_trichotomy i k with c | c | c
  · exact absurd e (hp i k hi hk c)
  · exact c
  · exact absurd e.symm (hp k i hk hi c)
def setT (f : Nat → Nat → Bool) (p q : Nat) (b : Bool) : Nat → Nat → Bool := fun i => if i = p then (fun k => if k = q then b else f p k) else f i
theorem setT_mat (n : Nat) (f : Nat → Nat → Bool) (p q : Nat) (b : Bool) (hp : p < n) (hq : q < n) : (mat n f).set p ((rd_L8 (mat n f) (p : Int)).set q b) = mat n (setT f p q b) := by
  rw [mat_rd n f p hp, rowT_set, mat_set]
  rfl
theorem setT_true (f : Nat → Nat → Bool) (p q i k : Nat) : setT f p q true i k = true ↔ f i k = true ∨ (i = p ∧ k = q) := by
  unfold setT
  by_cases c : i = p
  · subst c
    rw [if_pos rfl]
    by_cases c2 : k = q
    · rw [if_pos c2]; exact ⟨fun _ => .inr ⟨rfl, c2⟩, fun _ => rfl⟩
    · rw [if_neg c2]; exact ⟨.inl, fun h => h.elim id (fun h => absurd h.2 c2)⟩
  · rw [if_neg c]; exact ⟨.inl, fun h => h.elim id (fun h => absurd h.1 c)⟩
theorem setT_false (f : Nat → Nat → Bool) (p q i k : Nat) : setT f p q false i k = true ↔ f i k = true ∧ ¬ (i = p ∧ k = q) := by
  unfold setT
  by_cases c : i = p
  · subst c
    rw [if_pos rfl]
    by_cases c2 : k = q
    · rw [if_pos c2]; exact ⟨fun h => (by cases h), fun h => absurd ⟨rfl, c2⟩ h.2⟩
    · rw [if_neg c2]; exact ⟨fun h => ⟨h, fun h2 => c2 h2.2⟩, fun h => h.1⟩
  · rw [if_neg c]; exact ⟨fun h => ⟨h, fun h2 => c h2.1⟩, fun h => h.1⟩
theorem goT_iff {n : Nat} {f : Nat → Nat → Bool} (hf : Sy n f) (v p q : Nat) : goT f v p q = true ↔ ((f p q = true ∨ (f v p = true ∧ f v q = true ∧ p ≠ q)) ∧ ¬ ((p = v ∧ f v q = true) ∨ (f v p = true ∧ q = v))) := by
  unfold goT
  have hvv := hf.2.1 v
  by_cases c1 : p = v
  · subst c1
    simp [hvv]
  · by_cases c2 : q = v
    · subst c2
      rw [hf.1 p q]
      simp [c1, hvv]
    · simp [c1, c2]
theorem go_l2 (n : Nat) (hn : n ≤ 1000) (f F : Nat → Nat → Bool) (v : Nat) (hv : v < n) (l : List Nat) (hl : ∀ x ∈ l, x < n) (hll : l.length ≤ 1000)
    (hF : ∀ g : Nat → Nat → Bool, (∀ p q, g p q = true ↔ f p q = true ∧ ¬ ∃ j, j < l.length ∧ ((p = v ∧ q = wAt l j) ∨ (p = wAt l j ∧ q = v))) → mat n g = mat n F) (d : Nat) :
    ∀ j (g : Nat → Nat → Bool), j + d = l.length → (∀ p q, g p q = true ↔ f p q = true ∧ ¬ ∃ j', j' < j ∧ ((p = v ∧ q = wAt l j') ∨ (p = wAt l j' ∧ q = v))) → Ev (fun k => arboristref09_Go.l2 k (mat n g) (v : Int) (gI l) (j : Int)) (mat n F) := by
  induction d with
  | zero =>
    intro j g h hg
    obtain rfl : j = l.length := by omega
    exact evs0 (fun k => by rw [arboristref09_Go.l2, gI_len, if_neg (by omega), hF g hg])
  | succ d ih =>
    intro j g h hg
    have h2 := hl _ (wAt_in (show j < l.length by omega))
    have h3 := ih (j + 1) (setT (setT g v (wAt l j) false) (wAt l j) v false) (by omega) (fun p q => by
      rw [setT_false, setT_false, hg]
      constructor
      · rintro ⟨⟨⟨a, b⟩, c⟩, e⟩
        refine ⟨a, fun ⟨j', hj', hh⟩ => ?_⟩
        by_cases cj : j' = j
        · subst cj
          rcases hh with hh | hh
          · exact c hh
          · exact e hh
        · exact b ⟨j', by omega, hh⟩
      · rintro ⟨a, b⟩
        exact ⟨⟨⟨a, fun ⟨j', hj', hh⟩ => b ⟨j', by omega, hh⟩⟩, fun hh => b ⟨j, by omega, .inl hh⟩⟩, fun hh => b ⟨j, by omega, .inr hh⟩⟩)
    refine evp h3 (fun k e => ?_)
    rw [arboristref09_Go.l2, gI_len, if_pos (by omega), if_pos (by omega), mat_len, if_pos (by omega), if_pos (by omega), gI_rd, if_pos (by omega), mat_rd n g v hv, rowT_len, if_pos (by omega)]
    rw [Option.bind_some, if_pos (by omega)]
    have e1 := setT_mat n g v (wAt l j) false hv h2
    rw [mat_rd n g v hv] at e1
    rw [Int.toNat_natCast, Int.toNat_natCast, e1, mat_rd n _ _ h2, rowT_len, if_pos (by omega)]
    have e2 := setT_mat n (setT g v (wAt l j) false) (wAt l j) v false h2 hv
    rw [mat_rd n _ _ h2] at e2
    rw [e2, wrap_nat j (by omega)]
    exact e
def Did (f : Nat → Nat → Bool) (l : List Nat) (i k : Nat) (g : Nat → Nat → Bool) : Prop := ∀ p q, g p q = true ↔ f p q = true ∨ ∃ i' k', i' < l.length ∧ k' < l.length ∧ i' ≠ k' ∧ (i' < i ∨ (i' = i ∧ k' < k)) ∧ wAt l i' = p ∧ wAt l k' = q
theorem go_l1 (n : Nat) (hn : n ≤ 1000) (f : Nat → Nat → Bool) (v : Nat) (l : List Nat) (hl : ∀ x ∈ l, x < n) (hll : l.length ≤ 1000) (R : List (List Bool)) (i : Nat) (hi : i < l.length)
    (H : ∀ g, Did f l (i + 1) 0 g → Ev (fun k => arboristref09_Go.l0 k (mat n g) (v : Int) (gI l) ((i + 1 : Nat) : Int)) R) (d : Nat) : ∀ j g, j + d = l.length → Did f l i j g → Ev (fun k => arboristref09_Go.l1 k (mat n g) (v : Int) (gI l) (i : Int) (j : Int)) R := by
  induction d with
  | zero =>
    intro j g h hg
    obtain rfl : j = l.length := by omega
    refine evp (H g (fun p q => by
      rw [hg]
      constructor
      · rintro (a | ⟨i', k', h1, h2, h3, h4, h5⟩)
        · exact .inl a
        · exact .inr ⟨i', k', h1, h2, h3, .inl (by omega), h5⟩
      · rintro (a | ⟨i', k', h1, h2, h3, h4, h5⟩)
        · exact .inl a
        · exact .inr ⟨i', k', h1, h2, h3, by omega, h5⟩)) (fun k e => ?_)
    rw [arboristref09_Go.l1, gI_len, if_neg (by omega), wrap_nat i (by omega)]
    exact e
  | succ d ih =>
    intro j g h hg
    have h1 := hl _ (wAt_in hi)
    have h2 := hl _ (wAt_in (show j < l.length by omega))
    by_cases c : i = j
    · subst c
      refine evp (ih (i + 1) g (by omega) (fun p q => by
        rw [hg]
        constructor
        · rintro (a | ⟨i', k', q1, q2, q3, q4, q5⟩)
          · exact .inl a
          · exact .inr ⟨i', k', q1, q2, q3, by omega, q5⟩
        · rintro (a | ⟨i', k', q1, q2, q3, q4, q5⟩)
          · exact .inl a
          · exact .inr ⟨i', k', q1, q2, q3, by omega, q5⟩)) (fun k e => ?_)
      rw [arboristref09_Go.l1, gI_len, if_pos (by omega), if_pos rfl, wrap_nat i (by omega)]
      exact e
    · refine evp (ih (j + 1) (setT g (wAt l i) (wAt l j) true) (by omega) (fun p q => by
        rw [setT_true, hg]
        constructor
        · rintro ((a | ⟨i', k', q1, q2, q3, q4, q5⟩) | ⟨e1, e2⟩)
          · exact .inl a
          · exact .inr ⟨i', k', q1, q2, q3, by omega, q5⟩
          · exact .inr ⟨i, j, hi, by omega, c, .inr ⟨rfl, by omega⟩, e1.symm, e2.symm⟩
        · rintro (a | ⟨i', k', q1, q2, q3, q4, q5, q6⟩)
          · exact .inl (.inl a)
          · by_cases cc : i' = i ∧ k' = j
            · rw [cc.1] at q5; rw [cc.2] at q6; exact .inr ⟨q5.symm, q6.symm⟩
            · exact .inl (.inr ⟨i', k', q1, q2, q3, by omega, q5, q6⟩))) (fun k e => ?_)
      have e1 := setT_mat n g (wAt l i) (wAt l j) true h1 h2
      rw [mat_rd n g _ h1] at e1
      rw [arboristref09_Go.l1, gI_len, if_pos (by omega), if_neg (by omega), if_pos (by omega), if_pos (by omega), gI_rd, gI_rd, if_pos (by omega), mat_len, if_pos (by omega), if_pos (by omega), if_pos (by omega), mat_rd n g _ h1, rowT_len, if_pos (by omega), Int.toNat_natCast, Int.toNat_natCast, e1, wrap_nat j (by omega)]
      exact e
theorem go_l0 (n : Nat) (hn : n ≤ 1000) (f : Nat → Nat → Bool) (v : Nat) (l : List Nat) (hl : ∀ x ∈ l, x < n) (hll : l.length ≤ 1000) (R : List (List Bool))
    (H : ∀ g, Did f l l.length 0 g → Ev (fun k => arboristref09_Go.l2 k (mat n g) (v : Int) (gI l) 0) R) (d : Nat) : ∀ i g, i + d = l.length → Did f l i 0 g → Ev (fun k => arboristref09_Go.l0 k (mat n g) (v : Int) (gI l) (i : Int)) R := by
  induction d with
  | zero =>
    intro i g h hg
    obtain rfl : i = l.length := by omega
    refine evp (H g hg) (fun k e => ?_)
    rw [arboristref09_Go.l0, gI_len, if_neg (by omega)]
    exact e
  | succ d ih =>
    intro i g h hg
    refine evp (go_l1 n hn f v l hl hll R i (by omega) (fun g' hg' => ih (i + 1) g' (by omega) hg') l.length 0 g (by omega) hg) (fun k e => ?_)
    rw [arboristref09_Go.l0, gI_len, if_pos (by omega)]
    exact e
theorem go_ev (n : Nat) (hn : n ≤ 1000) (f : Nat → Nat → Bool) (hf : Sy n f) (v : Nat) (hv : v < n) : Ev (fun k => arboristref09_Go.f k (mat n f) (v : Int)) (mat n (goT f v)) := by
  have hln := nbN_len n f v
  have hin : ∀ x ∈ nbN n f v, x < n := fun x hx => (mem_nbN.1 hx).1
  have hat : ∀ x, (∃ j, j < (nbN n f v).length ∧ wAt (nbN n f v) j = x) ↔ f v x = true := fun x => by
    constructor
    · rintro ⟨j, hj, rfl⟩; exact (mem_nbN.1 (wAt_in hj)).2
    · intro h
      obtain ⟨j, hj, e⟩ := List.getElem_of_mem (mem_nbN.2 ⟨(hf.2.2 _ _ h).2, h⟩)
      exact ⟨j, hj, by rw [wAt_get _ _ hj, e]⟩
  refine evu2 (neigh9 n hn f v hv) (go_l0 n hn f v (nbN n f v) hin (by omega) (mat n (goT f v)) (fun g hg => ?_) (nbN n f v).length 0 f (by omega) (fun p q => ⟨.inl, fun h => h.elim id (fun ⟨i', k', _, _, _, h4, _⟩ => by omega)⟩)) (fun k e1 e2 => ?_)
  · refine go_l2 n hn g (goT f v) v hv (nbN n f v) hin (by omega) (fun g2 hg2 => mat_congr (fun p q hp hq => ?_)) (nbN n f v).length 0 g (by omega) (fun p q => ⟨fun h => ⟨h, fun ⟨j', hj', _⟩ => by omega⟩, fun h => h.1⟩)
    have e : g2 p q = true ↔ goT f v p q = true := by
      rw [hg2, hg, goT_iff hf]
      have m1 : (∃ i' k', i' < (nbN n f v).length ∧ k' < (nbN n f v).length ∧ i' ≠ k' ∧ (i' < (nbN n f v).length ∨ (i' = (nbN n f v).length ∧ k' < 0)) ∧ wAt (nbN n f v) i' = p ∧ wAt (nbN n f v) k' = q) ↔ (f v p = true ∧ f v q = true ∧ p ≠ q) := by
        constructor
        · rintro ⟨i', k', h1, h2, h3, _, h5, h6⟩
          refine ⟨(hat p).1 ⟨i', h1, h5⟩, (hat q).1 ⟨k', h2, h6⟩, fun e => h3 ?_⟩
          have hnd : (nbN n f v).Nodup := List.Nodup.sublist List.filter_sublist List.nodup_range
          rw [wAt_get _ _ h1] at h5
          rw [wAt_get _ _ h2] at h6
          exact nodup_at hnd h1 h2 (by rw [h5, h6, e])
        · rintro ⟨h1, h2, h3⟩
          obtain ⟨i', a1, a2⟩ := (hat p).2 h1
          obtain ⟨k', b1, b2⟩ := (hat q).2 h2
          exact ⟨i', k', a1, b1, fun e => h3 (by rw [← a2, ← b2, e]), .inl a1, a2, b2⟩
      have m2 : (∃ j, j < (nbN n f v).length ∧ ((p = v ∧ q = wAt (nbN n f v) j) ∨ (p = wAt (nbN n f v) j ∧ q = v))) ↔ ((p = v ∧ f v q = true) ∨ (f v p = true ∧ q = v)) := by
        constructor
        · rintro ⟨j, h1, (⟨h2, h3⟩ | ⟨h2, h3⟩)⟩
          · exact .inl ⟨h2, (hat q).1 ⟨j, h1, h3.symm⟩⟩
          · exact .inr ⟨(hat p).1 ⟨j, h1, h2.symm⟩, h3⟩
        · rintro (⟨h2, h3⟩ | ⟨h2, h3⟩)
          · obtain ⟨j, a1, a2⟩ := (hat q).2 h3; exact ⟨j, a1, .inl ⟨h2, a2.symm⟩⟩
          · obtain ⟨j, a1, a2⟩ := (hat p).2 h2; exact ⟨j, a1, .inr ⟨a2.symm, h3⟩⟩
      rw [m1, m2]
    cases h1 : g2 p q <;> cases h2 : goT f v p q <;> simp_all
  · rw [arboristref09_Go.f, e1, Option.bind_some]
    exact e2
theorem copy_l0 (n : Nat) (hn : n ≤ 1000) (f : Nat → Nat → Bool) (d : Nat) : ∀ i, i + d = n → Ev (fun k => arboristref09_Copy.l0 k (mat n f) ((List.range i).map fun j => rowT n (f j)) (i : Int)) (mat n f) := by
  induction d with
  | zero =>
    intro i h
    obtain rfl : i = n := by omega
    exact evs0 (fun k => by rw [arboristref09_Copy.l0, mat_len, if_neg (by omega)]; rfl)
  | succ d ih =>
    intro i h
    refine evp (ih (i + 1) (by omega)) (fun k e => ?_)
    rw [arboristref09_Copy.l0, mat_len, if_pos (by omega), Option.bind_some, if_pos (by omega), mat_rd n f i (by omega), rowT_len, if_pos (by simp; omega), List.length_map, List.length_range, if_pos (by omega), List.nil_append, wrap_nat i (by omega)]
    rw [List.range_succ, List.map_append] at e
    exact e
theorem copy_ev (n : Nat) (hn : n ≤ 1000) (f : Nat → Nat → Bool) : Ev (fun k => arboristref09_Copy.f k (mat n f)) (mat n f) := copy_l0 n hn f n 0 (by omega)
def without (left : Nat → Bool) (v : Nat) : Nat → Bool := fun i => left i && !decide (v = i)
theorem mem_ofT {n : Nat} {g : Nat → Bool} {x : Int} : x ∈ ofT n g ↔ ∃ i : Nat, i < n ∧ g i = true ∧ x = (i : Int) := by
  unfold ofT
  simp only [List.mem_map, List.mem_filter, List.mem_range]
  constructor
  · rintro ⟨i, ⟨h1, h2⟩, rfl⟩; exact ⟨i, h1, h2, rfl⟩
  · rintro ⟨i, h1, h2, rfl⟩; exact ⟨i, ⟨h1, h2⟩, rfl⟩
end Go.Proofs.Ytpmfdggbccbfaaa.Pr
set_option linter.unusedVariables false
set_option linter.unusedSimpArgs false
namespace Go.Proofs.Ytpmfdggbccbfaaa.Mcs
structure Gr (n : Nat) (A : Nat → Nat → Bool) : Prop where
  sym : ∀ i k, A i k = A k i
  irr : ∀ i, A i i = false
  rng : ∀ i k, A i k = true → i < n ∧ k < n
structure Way (A : Nat → Nat → Bool) (p : Nat → Nat) (m : Nat) : Prop where
  beside : ∀ i k, i ≤ m → k ≤ m → (A (p i) (p k) = true ↔ (k = i + 1 ∨ i = k + 1))
  once : ∀ i k, i ≤ m → k ≤ m → p i = p k → i = k
end Go.Proofs.Ytpmfdggbccbfaaa.Mcs
set_option linter.unusedVariables false
set_option linter.unusedSimpArgs false
namespace Go.Proofs.Ytpmfdggbccbfaaa.Pr
open Go.RowKit Go.Proofs.YtpmfdggbccbfaaaW.PrintWords Go.Proofs.YtpmfdggbccbfaaaW.PrintLast Go.Proofs.YtpmfdggbccbfaaaW.PrintMore
def rst (f : Nat → Nat → Bool) (left : Nat → Bool) : Nat → Nat → Bool := fun p q => f p q && (left p && left q)
theorem rst_all (f : Nat → Nat → Bool) : rst f (fun _ => true) = f := by funext p q; unfold rst; simp
theorem rst_iff (f : Nat → Nat → Bool) (left : Nat → Bool) (p q : Nat) : rst f left p q = true ↔ f p q = true ∧ left p = true ∧ left q = true := by unfold rst; simp
theorem Sy.rst {n : Nat} {f : Nat → Nat → Bool} (h : Sy n f) (left : Nat → Bool) : Sy n (rst f left) := by
  refine ⟨fun p q => ?_, fun p => ?_, fun p q e => h.2.2 p q ((rst_iff _ _ _ _).1 e).1⟩
  · unfold Pr.rst; rw [h.1 p q, Bool.and_comm (left p)]
  · unfold Pr.rst; rw [h.2.1 p]; rfl
theorem without_iff (left : Nat → Bool) (v k : Nat) : without left v k = true ↔ left k = true ∧ v ≠ k := by unfold without; simp
def joinBd (h : Nat → Nat → Bool) (l : List Nat) : Nat → Nat → Bool := fun i k => h i k || decide (i ∈ l ∧ k ∈ l ∧ i ≠ k)
def laterN (n : Nat) (h : Nat → Nat → Bool) (left : Nat → Bool) (v : Nat) : List Nat := (nbN n h v).filter left
def bagT (n : Nat) (h : Nat → Nat → Bool) (left : Nat → Bool) (v : Nat) : List Int := ofT n fun k => decide (k = v) || (h v k && left k)
def fillB (n : Nat) : List Nat → (Nat → Nat → Bool) → (Nat → Bool) → List (List Int) × (Nat → Nat → Bool)
  | [], h, _ => ([], h)
  | v :: l, h, left => (bagT n h left v :: (fillB n l (joinBd h (laterN n h left v)) (without left v)).1, (fillB n l (joinBd h (laterN n h left v)) (without left v)).2)
theorem joinBd_sy {n : Nat} {h : Nat → Nat → Bool} (hh : Sy n h) {l : List Nat} (hl : ∀ x ∈ l, x < n) : Sy n (joinBd h l) := by
  refine ⟨fun i k => ?_, fun i => ?_, fun i k e => ?_⟩
  · unfold joinBd
    rw [hh.1 i k]
    congr 1
    rw [Bool.eq_iff_iff, decide_eq_true_iff, decide_eq_true_iff]
    exact ⟨fun ⟨a, b, c⟩ => ⟨b, a, Ne.symm c⟩, fun ⟨a, b, c⟩ => ⟨b, a, Ne.symm c⟩⟩
  · unfold joinBd; rw [hh.2.1 i]; simp
  · unfold joinBd at e
    simp only [Bool.or_eq_true, decide_eq_true_eq] at e
    rcases e with e | e
    · exact hh.2.2 _ _ e
    · exact ⟨hl _ e.1, hl _ e.2.1⟩
theorem mem_laterN {n : Nat} {h : Nat → Nat → Bool} {left : Nat → Bool} {v x : Nat} : x ∈ laterN n h left v ↔ x < n ∧ h v x = true ∧ left x = true := by
  unfold laterN
  rw [List.mem_filter, mem_nbN]
  exact ⟨fun ⟨⟨a, b⟩, c⟩ => ⟨a, b, c⟩, fun ⟨a, b, c⟩ => ⟨⟨a, b⟩, c⟩⟩
theorem toN_of {n : Nat} {o : List Int} (h : o.Perm (idI n)) : ∃ ln : List Nat, o = gI ln ∧ ln.Nodup ∧ ∀ x ∈ ln, x < n := by
  refine ⟨o.map Int.toNat, ?_, ?_, fun x hx => ?_⟩
  · unfold gI
    rw [List.map_map]
    conv => lhs; rw [← List.map_id o]
    refine List.map_congr_left (fun x hx => ?_)
    obtain ⟨k, _, rfl⟩ := mem_idI.1 (h.mem_iff.1 hx)
    rfl
  · have hd : o.Nodup := h.nodup_iff.2 (idI_nodup n)
    rw [List.Nodup, List.pairwise_map]
    refine List.Pairwise.imp_of_mem (fun ha hb hne e => hne ?_) hd
    obtain ⟨a, _, rfl⟩ := mem_idI.1 (h.mem_iff.1 ha)
    obtain ⟨b, _, rfl⟩ := mem_idI.1 (h.mem_iff.1 hb)
    rw [Int.toNat_natCast, Int.toNat_natCast] at e
    rw [e]
  · obtain ⟨y, hy, rfl⟩ := List.mem_map.1 hx
    obtain ⟨k, hk, rfl⟩ := mem_idI.1 (h.mem_iff.1 hy)
    rw [Int.toNat_natCast]; exact hk
def allL : Nat → Bool := fun _ => true
theorem joinBd_ge {h : Nat → Nat → Bool} {l : List Nat} {i k : Nat} (e : h i k = true) : joinBd h l i k = true := by unfold joinBd; rw [e]; rfl
theorem fillB_ge {n : Nat} : ∀ (l : List Nat) (h : Nat → Nat → Bool) (left : Nat → Bool) (i k : Nat), h i k = true → (fillB n l h left).2 i k = true
  | [], h, left, i, k, e => e
  | v :: l, h, left, i, k, e => fillB_ge l _ _ i k (joinBd_ge e)
theorem in_of {n : Nat} {ln : List Nat} (ho : (gI ln).Perm (idI n)) (k : Nat) (hk : k < n) : k ∈ ln := by
  obtain ⟨y, hy, e⟩ := List.mem_map.1 (ho.mem_iff.2 (mem_idI.2 ⟨k, hk, rfl⟩))
  obtain rfl : y = k := by omega
  exact hy
theorem left_tail {n : Nat} {v : Nat} {l : List Nat} {left : Nat → Bool} (hl : ∀ x, x < n → (left x = true ↔ x ∈ v :: l)) (hd : (v :: l).Nodup) : ∀ x, x < n → (without left v x = true ↔ x ∈ l) := fun x hx => by
  rw [without_iff, hl x hx, List.mem_cons]
  constructor
  · rintro ⟨a, b⟩; exact a.resolve_left (Ne.symm b)
  · intro a; exact ⟨.inr a, fun e => (List.nodup_cons.1 hd).1 (e ▸ a)⟩
theorem mem_bagT {n : Nat} {h : Nat → Nat → Bool} {left : Nat → Bool} {v : Nat} {x : Int} : x ∈ bagT n h left v ↔ ∃ k : Nat, k < n ∧ x = (k : Int) ∧ (k = v ∨ (h v k = true ∧ left k = true)) := by
  unfold bagT
  rw [mem_ofT]
  constructor
  · rintro ⟨k, hk, e, rfl⟩
    simp only [Bool.or_eq_true, Bool.and_eq_true, decide_eq_true_eq] at e
    exact ⟨k, hk, rfl, e⟩
  · rintro ⟨k, hk, rfl, e⟩
    refine ⟨k, hk, ?_, rfl⟩
    simp only [Bool.or_eq_true, Bool.and_eq_true, decide_eq_true_eq]
    exact e
theorem bagT_len (n : Nat) (h : Nat → Nat → Bool) (left : Nat → Bool) (v : Nat) : (bagT n h left v).length ≤ n := by
  unfold bagT ofT
  rw [List.length_map]
  exact Nat.le_trans (List.length_filter_le _ _) (by simp)
theorem fillB_cliq {n : Nat} : ∀ (l : List Nat) (h : Nat → Nat → Bool) (left : Nat → Bool), Sy n h → ∀ b ∈ (fillB n l h left).1, cliqB n (fillB n l h left).2 b = true ∧ b.length ≤ n
  | [], _, _, _, b, hb => absurd hb List.not_mem_nil
  | v :: l, h, left, hh, b, hb => by
    have hh2 := joinBd_sy hh (l := laterN n h left v) (fun x hx => (mem_laterN.1 hx).1)
    rcases List.mem_cons.1 hb with rfl | hb
    · refine ⟨?_, bagT_len _ _ _ _⟩
      unfold cliqB
      rw [Bool.and_eq_true, List.all_eq_true, List.all_eq_true]
      refine ⟨fun x hx => ?_, fun x hx => List.all_eq_true.2 (fun y hy => ?_)⟩
      · obtain ⟨k, hk, rfl, _⟩ := mem_bagT.1 hx
        unfold isP; exact decide_eq_true (by omega)
      · obtain ⟨i, hi, rfl, h1⟩ := mem_bagT.1 hx
        obtain ⟨k, hk, rfl, h2⟩ := mem_bagT.1 hy
        rw [Bool.or_eq_true, beq_iff_eq, Int.toNat_natCast, Int.toNat_natCast]
        by_cases c : i = k
        · exact .inl (by rw [c])
        · refine .inr ?_
          show (fillB n l (joinBd h (laterN n h left v)) (without left v)).2 i k = true
          refine fillB_ge l _ _ i k ?_
          rcases h1 with rfl | h1
          · rcases h2 with rfl | h2
            · exact absurd rfl c
            · exact joinBd_ge h2.1
          · rcases h2 with rfl | h2
            · exact joinBd_ge (by rw [hh.1]; exact h1.1)
            · unfold joinBd
              rw [decide_eq_true (show i ∈ laterN n h left v ∧ k ∈ laterN n h left v ∧ i ≠ k from ⟨mem_laterN.2 ⟨hi, h1.1, h1.2⟩, mem_laterN.2 ⟨hk, h2.1, h2.2⟩, c⟩), Bool.or_true]
    · exact fillB_cliq l _ _ hh2 b hb
theorem fillB_len {n : Nat} : ∀ (l : List Nat) (h : Nat → Nat → Bool) (left : Nat → Bool), (fillB n l h left).1.length = l.length
  | [], _, _ => rfl
  | v :: l, h, left => by
    show (fillB n l _ _).1.length + 1 = l.length + 1
    rw [fillB_len l]
end Go.Proofs.Ytpmfdggbccbfaaa.Pr
set_option linter.unusedVariables false
set_option linter.unusedSimpArgs false
namespace Go.Proofs.Ytpmfdggbccbfaaa.Pure
open Go.RowKit Go.Proofs.Ytpmfdggbccbfaaa.Pr Go.Proofs.YtpmfdggbccbfaaaW.PrintWords Go.Proofs.YtpmfdggbccbfaaaW.PrintLast Go.Proofs.YtpmfdggbccbfaaaW.PrintMore
theorem later_sy {n : Nat} {h : Nat → Nat → Bool} (hh : Sy n h) (left : Nat → Bool) (v : Nat) : Sy n (joinBd h (laterN n h left v)) := joinBd_sy hh (fun x hx => (mem_laterN.1 hx).1)
theorem clique_bag {n : Nat} : ∀ (l : List Nat) (h : Nat → Nat → Bool) (left : Nat → Bool) (C : List Nat), Sy n h → (∀ x, x < n → (left x = true ↔ x ∈ l)) → (∀ v ∈ l, v < n) → l.Nodup → (∃ x, x ∈ C) → (∀ x ∈ C, x ∈ l) → (∀ x ∈ C, ∀ y ∈ C, x ≠ y → h x y = true) → ∃ b ∈ (fillB n l h left).1, ∀ x ∈ C, (x : Int) ∈ b
  | [], _, _, C, _, _, _, _, ⟨x, hx⟩, hC, _ => absurd (hC x hx) List.not_mem_nil
  | v :: l, h, left, C, hh, hl, hv, hd, hC0, hC, hq => by
    by_cases c : v ∈ C
    · refine ⟨bagT n h left v, List.mem_cons_self, fun x hx => mem_bagT.2 ⟨x, hv x (hC x hx), rfl, ?_⟩⟩
      by_cases e : x = v
      · exact .inl e
      · exact .inr ⟨hq v c x hx (Ne.symm e), (hl x (hv x (hC x hx))).2 (hC x hx)⟩
    · obtain ⟨b, hb, hx⟩ := clique_bag l (joinBd h (laterN n h left v)) (without left v) C (later_sy hh left v) (left_tail hl hd) (fun x hx => hv x (List.mem_cons_of_mem _ hx)) (List.nodup_cons.1 hd).2 hC0 (fun x hx => (List.mem_cons.1 (hC x hx)).resolve_left (fun e => c (e ▸ hx))) (fun x hx y hy e => joinBd_ge (hq x hx y hy e))
      exact ⟨b, List.mem_cons_of_mem _ hb, hx⟩
end Go.Proofs.Ytpmfdggbccbfaaa.Pure
set_option linter.unusedVariables false
set_option linter.unusedSimpArgs false
namespace Go.Proofs.Ytpmfdggbccbfaaa.Pr
open Go.RowKit Go.Proofs.YtpmfdggbccbfaaaW.PrintWords Go.Proofs.YtpmfdggbccbfaaaW.PrintLast
theorem inB_cons (z : Int) (m : List Int) (x : Int) : inB (z :: m) x = (z == x || inB m x) := rfl
theorem merge_meet : ∀ (n : Nat) (a b : List Int), a.length + b.length = n → a.Pairwise (· < ·) → b.Pairwise (· < ·) → mergeL false true false a b = meetL a b := by
  intro n
  induction n using Nat.strongRecOn with
  | _ n ih =>
    intro a b h ha hb
    match a, b with
    | [], [] => simp [mergeL_nn, meetL]
    | y :: l, [] =>
      rw [mergeL_cn]
      have := ih l.length (by simp at h; omega) l [] (by simp) (List.pairwise_cons.1 ha).2 hb
      simpa [keepL, meetL, inB] using this
    | [], z :: m =>
      rw [mergeL_nc]
      have := ih m.length (by simp at h; omega) [] m (by simp) ha (List.pairwise_cons.1 hb).2
      simpa [keepL, meetL] using this
    | y :: l, z :: m =>
      rw [mergeL_cc]
      obtain ⟨ha1, ha2⟩ := List.pairwise_cons.1 ha
      obtain ⟨hb1, hb2⟩ := List.pairwise_cons.1 hb
      have not_in : ∀ (r : List Int) (x : Int), (∀ w ∈ r, x < w) → inB r x = false := by
        intro r x hr
        unfold inB
        rw [List.any_eq_false]
        intro w hw e
        have e2 : w = x := by simpa using e
        have := hr w hw
        omega
      by_cases h1 : y < z
      · rw [if_pos h1]
        have := ih (l.length + (m.length + 1)) (by simp at h; omega) l (z :: m) (by simp) ha2 hb
        have e : inB (z :: m) y = false := not_in _ _ (by
          intro w hw
          rcases List.mem_cons.1 hw with rfl | hw
          · exact h1
          · have := hb1 w hw; omega)
        simp only [keepL, meetL, List.filter_cons, e] at this ⊢
        simpa using this
      · rw [if_neg h1]
        by_cases h2 : z < y
        · rw [if_pos h2]
          have := ih (l.length + 1 + m.length) (by simp at h; omega) (y :: l) m (by simp) ha hb2
          have e : meetL (y :: l) (z :: m) = meetL (y :: l) m := by
            unfold meetL
            apply List.filter_congr
            intro w hw
            rw [inB_cons]
            have : (z == w) = false := by
              rcases List.mem_cons.1 hw with rfl | hw
              · simpa using (by omega : ¬ z = w)
              · have := ha1 w hw
                simpa using (by omega : ¬ z = w)
            rw [this, Bool.false_or]
          rw [e]
          simpa [keepL] using this
        · rw [if_neg h2]
          have e : y = z := by omega
          subst e
          have := ih (l.length + m.length) (by simp at h; omega) l m rfl ha2 hb2
          have e2 : meetL (y :: l) (y :: m) = y :: meetL l m := by
            unfold meetL
            rw [List.filter_cons, if_pos (by rw [inB_cons]; simp)]
            congr 1
            apply List.filter_congr
            intro w hw
            rw [inB_cons]
            have h3 := ha1 w hw
            have : (y == w) = false := by simpa using (by omega : ¬ y = w)
            rw [this, Bool.false_or]
          rw [e2]
          simpa [keepL] using this
theorem merge_without : ∀ (n : Nat) (a b : List Int), a.length + b.length = n → a.Pairwise (· < ·) → b.Pairwise (· < ·) → mergeL true false false a b = withoutL a b := by
  intro n
  induction n using Nat.strongRecOn with
  | _ n ih =>
    intro a b h ha hb
    match a, b with
    | [], [] => simp [mergeL_nn, withoutL]
    | y :: l, [] =>
      rw [mergeL_cn]
      have := ih l.length (by simp at h; omega) l [] (by simp) (List.pairwise_cons.1 ha).2 hb
      simpa [keepL, withoutL, inB] using this
    | [], z :: m =>
      rw [mergeL_nc]
      have := ih m.length (by simp at h; omega) [] m (by simp) ha (List.pairwise_cons.1 hb).2
      simpa [keepL, withoutL] using this
    | y :: l, z :: m =>
      rw [mergeL_cc]
      obtain ⟨ha1, ha2⟩ := List.pairwise_cons.1 ha
      obtain ⟨hb1, hb2⟩ := List.pairwise_cons.1 hb
      have not_in : ∀ (r : List Int) (x : Int), (∀ w ∈ r, x < w) → inB r x = false := by
        intro r x hr
        unfold inB
        rw [List.any_eq_false]
        intro w hw e
        have e2 : w = x := by simpa using e
        have := hr w hw
        omega
      by_cases h1 : y < z
      · rw [if_pos h1]
        have := ih (l.length + (m.length + 1)) (by simp at h; omega) l (z :: m) (by simp) ha2 hb
        have e : inB (z :: m) y = false := not_in _ _ (by
          intro w hw
          rcases List.mem_cons.1 hw with rfl | hw
          · exact h1
          · have := hb1 w hw; omega)
        simp only [keepL, withoutL, List.filter_cons, e] at this ⊢
        simpa using this
      · rw [if_neg h1]
        by_cases h2 : z < y
        · rw [if_pos h2]
          have := ih (l.length + 1 + m.length) (by simp at h; omega) (y :: l) m (by simp) ha hb2
          have e : withoutL (y :: l) (z :: m) = withoutL (y :: l) m := by
            unfold withoutL
            apply List.filter_congr
            intro w hw
            rw [inB_cons]
            have : (z == w) = false := by
              rcases List.mem_cons.1 hw with rfl | hw
              · simpa using (by omega : ¬ z = w)
              · have := ha1 w hw
                simpa using (by omega : ¬ z = w)
            rw [this, Bool.false_or]
          rw [e]
          simpa [keepL] using this
        · rw [if_neg h2]
          have e : y = z := by omega
          subst e
          have := ih (l.length + m.length) (by simp at h; omega) l m rfl ha2 hb2
          have e2 : withoutL (y :: l) (y :: m) = withoutL l m := by
            unfold withoutL
            rw [List.filter_cons, if_neg (by rw [inB_cons]; simp)]
            apply List.filter_congr
            intro w hw
            rw [inB_cons]
            have h3 := ha1 w hw
            have : (y == w) = false := by simpa using (by omega : ¬ y = w)
            rw [this, Bool.false_or]
          rw [e2]
          simpa [keepL] using this
end Go.Proofs.Ytpmfdggbccbfaaa.Pr
set_option linter.unusedVariables false
set_option linter.unusedSimpArgs false
namespace Go.Proofs.Ytpmfdggbccbfaaa.Pure
open Go.RowKit Go.Proofs.Ytpmfdggbccbfaaa.Pr Go.Proofs.YtpmfdggbccbfaaaW.PrintWords Go.Proofs.YtpmfdggbccbfaaaW.PrintLast Go.Proofs.YtpmfdggbccbfaaaW.PrintMore
theorem ofT_rise (n : Nat) (g : Nat → Bool) : (ofT n g).Pairwise (· < ·) := by
  unfold ofT
  rw [List.pairwise_map]
  refine List.Pairwise.imp (fun h => ?_) (List.Pairwise.sublist List.filter_sublist List.pairwise_lt_range)
  omega
end Go.Proofs.Ytpmfdggbccbfaaa.Pure
set_option linter.unusedVariables false
set_option linter.unusedSimpArgs false
namespace Go.Proofs.Ytpmfdggbccbfaaa.Pure
open Go.RowKit Go.Proofs.Ytpmfdggbccbfaaa.Pr Go.Proofs.YtpmfdggbccbfaaaW.PrintWords Go.Proofs.YtpmfdggbccbfaaaW.PrintLast Go.Proofs.YtpmfdggbccbfaaaW.PrintMore
theorem within_iff {a b : List Int} (ha : a.Pairwise (· < ·)) (hb : b.Pairwise (· < ·)) : withinB a b = true ↔ ∀ x ∈ a, x ∈ b := by
  unfold withinB
  rw [merge_without _ a b rfl ha hb]
  exact withinR_iff a b
theorem meetN_eq (B : List (List Int)) (hr : ∀ b ∈ B, b.Pairwise (· < ·)) {i k : Nat} (hi : i < B.length) (hk : k < B.length) : meetN B i k = ((meetL B[i] B[k]).length : Int) := by
  unfold meetN
  rw [List.getD_eq_getElem?_getD, List.getD_eq_getElem?_getD, List.getElem?_eq_getElem hi, List.getElem?_eq_getElem hk, Option.getD_some, Option.getD_some, merge_meet _ B[i] B[k] rfl (hr _ (List.getElem_mem hi)) (hr _ (List.getElem_mem hk))]
theorem meetN_ge (B : List (List Int)) (i k : Nat) : 0 ≤ meetN B i k := by unfold meetN; omega
theorem fillB_rise {n : Nat} : ∀ (l : List Nat) (h : Nat → Nat → Bool) (left : Nat → Bool), ∀ b ∈ (fillB n l h left).1, b.Pairwise (· < ·)
  | [], _, _, b, hb => by cases hb
  | v :: l, h, left, b, hb => by
    rcases List.mem_cons.1 (show b ∈ bagT n h left v :: (fillB n l (joinBd h (laterN n h left v)) (without left v)).1 from hb) with rfl | hb
    · exact ofT_rise n _
    · exact fillB_rise l _ _ b hb
theorem own_len : ∀ (l seen : List (List Int)), (ownL seen l).length ≤ l.length
  | [], _ => Nat.le_refl _
  | b :: l, seen => by
    unfold ownL
    have := own_len l (seen ++ [b])
    split
    · exact Nat.le_trans this (Nat.le_succ _)
    · exact Nat.succ_le_succ this
theorem own_cover (own0 : List (List Int)) : ∀ (l seen : List (List Int)), (∀ b ∈ l, b.Pairwise (· < ·)) → (∀ b ∈ seen, b.Pairwise (· < ·)) → (∀ s ∈ seen, ∃ c ∈ own0, ∀ x ∈ s, x ∈ c) → (∀ c ∈ ownL seen l, c ∈ own0) → ∀ b ∈ l, ∃ c ∈ own0, ∀ x ∈ b, x ∈ c
  | [], _, _, _, _, _, b, hb => by cases hb
  | a :: l, seen, hr, hrs, hs, ho, b, hb => by
    have ha : ∃ c ∈ own0, ∀ x ∈ a, x ∈ c := by
      by_cases c : seen.any (withinB a) = true
      · obtain ⟨s, hs1, hs2⟩ := List.any_eq_true.1 c
        obtain ⟨c, hc, hx⟩ := hs s hs1
        exact ⟨c, hc, fun x hxa => hx x ((within_iff (hr a List.mem_cons_self) (hrs s hs1)).1 hs2 x hxa)⟩
      · refine ⟨a, ho a ?_, fun x hx => hx⟩
        unfold ownL
        rw [if_neg c]
        exact List.mem_cons_self
    rcases List.mem_cons.1 hb with rfl | hb
    · exact ha
    · refine own_cover own0 l (seen ++ [a]) (fun b hb => hr b (List.mem_cons_of_mem _ hb)) (fun b hb => ?_) (fun s hs' => ?_) (fun c hc => ho c ?_) b hb
      · rcases List.mem_append.1 hb with hb | hb
        · exact hrs b hb
        · rw [List.mem_singleton.1 hb]; exact hr a List.mem_cons_self
      · rcases List.mem_append.1 hs' with hs' | hs'
        · exact hs s hs'
        · rw [List.mem_singleton.1 hs']; exact ha
      · unfold ownL
        split
        · exact hc
        · exact List.mem_cons_of_mem _ hc
def inT (L : Nat → Option (Int × Int)) (m s : Nat) : Prop := s < m ∧ L s = none
structure PInv (B : List (List Int)) (L : Nat → Option (Int × Int)) (par : List Int) : Prop where
  len : par.length = B.length
  dom : ∀ i, (L i).isSome = true → i < B.length
  lnk : ∀ i c t, L i = some (c, t) → ((∀ s, ¬ inT L B.length s) ∧ c = -1 ∧ t = -1) ∨ ∃ p : Nat, t = (p : Int) ∧ inT L B.length p ∧ c = meetN B i p ∧ ∀ s, inT L B.length s → meetN B i s ≤ c ∧ (meetN B i s = c → p ≤ s)
  root : (∃ s, inT L B.length s) → inT L B.length 0
  top : inT L B.length 0 → rd par 0 = -1
  par_ : ∀ s, inT L B.length s → s ≠ 0 → ∃ p : Nat, rd par (s : Int) = (p : Int) ∧ p < B.length ∧ p ≠ s ∧ meetN B s 0 ≤ meetN B s p ∧ (meetN B s 0 = meetN B s p → p = 0)
theorem rd_set (l : List Int) (i k : Nat) (x : Int) (hk : k < l.length) : rd (l.set i x) (k : Int) = if i = k then x else rd l (k : Int) := by
  have h1 : (l.set i x)[k]? = some ((l.set i x)[k]'(by simpa using hk)) := List.getElem?_eq_getElem (by simpa using hk)
  rw [rd_nat _ k _ h1, rd_nat l k _ (List.getElem?_eq_getElem hk), List.getElem_set]
theorem comes_none {B : List (List Int)} {k : Nat} {L : Nat → Option (Int × Int)} {i : Nat} : comesL B k L i = none ↔ i = k ∨ L i = none := by
  unfold comesL
  by_cases c : i = k
  · rw [if_pos c]; simp [c]
  · rw [if_neg c]; simp [c]
theorem prim_step {B : List (List Int)} {L : Nat → Option (Int × Int)} {par : List Int} (h : PInv B L par) {k : Nat} {c t : Int} (hk : L k = some (c, t)) (h0 : (∀ s, ¬ inT L B.length s) → k = 0) : PInv B (comesL B k L) (par.set k t) := by
  have hkm := h.dom k (by rw [hk]; rfl)
  have hin : ∀ s, inT (comesL B k L) B.length s ↔ s = k ∨ inT L B.length s := fun s => by
    unfold inT
    rw [comes_none]
    constructor
    · rintro ⟨h1, rfl | h2⟩
      · exact .inl rfl
      · exact .inr ⟨h1, h2⟩
    · rintro (rfl | ⟨h1, h2⟩)
      · exact ⟨hkm, .inl rfl⟩
      · exact ⟨h1, .inr h2⟩
  have hkn : ¬ inT L B.length k := fun h => by rw [h.2] at hk; cases hk
  refine ⟨by rw [List.length_set]; exact h.len, fun i hi => ?_, fun i c' t' hi => ?_, fun _ => ?_, fun _ => ?_, fun s hs hs0 => ?_⟩
  · unfold comesL at hi
    split at hi
    · cases hi
    · exact h.dom i (by rw [Option.isSome_map] at hi; exact hi)
  · refine .inr ?_
    unfold comesL at hi
    by_cases cik : i = k
    · rw [if_pos cik] at hi; cases hi
    · rw [if_neg cik] at hi
      obtain ⟨⟨c0, t0⟩, hl, hu⟩ := Option.map_eq_some_iff.1 hi
      unfold updL at hu
      simp only at hu
      rcases h.lnk i c0 t0 hl with ⟨hno, rfl, rfl⟩ | ⟨p, rfl, hp, hc, hmax⟩
      · rw [if_pos (.inl (by have := meetN_ge B i k; omega))] at hu
        obtain ⟨rfl, rfl⟩ := Prod.mk.inj hu
        refine ⟨k, rfl, (hin k).2 (.inl rfl), rfl, fun s hs => ?_⟩
        rcases (hin s).1 hs with rfl | hs
        · exact ⟨Int.le_refl _, fun _ => Nat.le_refl _⟩
        · exact absurd hs (hno s)
      · by_cases cc : meetN B i k > c0 ∨ (meetN B i k = c0 ∧ (k : Int) < (p : Int))
        · rw [if_pos cc] at hu
          obtain ⟨rfl, rfl⟩ := Prod.mk.inj hu
          refine ⟨k, rfl, (hin k).2 (.inl rfl), rfl, fun s hs => ?_⟩
          rcases (hin s).1 hs with rfl | hs
          · exact ⟨Int.le_refl _, fun _ => Nat.le_refl _⟩
          · have := hmax s hs
            exact ⟨by omega, fun e => by have := this.2 (by omega); omega⟩
        · rw [if_neg cc] at hu
          obtain ⟨rfl, rfl⟩ := Prod.mk.inj hu
          refine ⟨p, rfl, (hin p).2 (.inr hp), hc, fun s hs => ?_⟩
          rcases (hin s).1 hs with rfl | hs
          · exact ⟨by omega, fun e => by omega⟩
          · exact hmax s hs
  · by_cases c1 : ∃ s, inT L B.length s
    · exact (hin 0).2 (.inr (h.root c1))
    · exact (hin 0).2 (.inl (h0 (fun s hs => c1 ⟨s, hs⟩)).symm)
  · have hl := h.len
    rcases h.lnk k c t hk with ⟨hno, _, rfl⟩ | ⟨p, rfl, hp, hc, hmax⟩
    · have := h0 hno
      subst this
      have := rd_set par 0 0 (-1) (by omega)
      rw [if_pos rfl] at this
      exact this
    · have hr := h.root ⟨p, hp⟩
      have hne : k ≠ 0 := fun e => hkn (e ▸ hr)
      have := rd_set par k 0 (p : Int) (by omega)
      rw [if_neg hne] at this
      exact this.trans (h.top hr)
  · have hl := h.len
    rcases (hin s).1 hs with rfl | hs
    · rcases h.lnk s c t hk with ⟨hno, _, rfl⟩ | ⟨p, rfl, hp, hc, hmax⟩
      · exact absurd (h0 hno) hs0
      · have hr := h.root ⟨p, hp⟩
        have h2 := hmax 0 hr
        refine ⟨p, by rw [rd_set par s s _ (by omega), if_pos rfl], hp.1, fun e => hkn (e ▸ hp), by omega, fun e => by have := h2.2 (by omega); omega⟩
    · obtain ⟨p, h1, h2⟩ := h.par_ s hs hs0
      have hne : k ≠ s := fun e => hkn (e ▸ hs)
      exact ⟨p, by rw [rd_set par k s _ (by have := hs.1; omega), if_neg hne]; exact h1, h2⟩
def cntL (L : Nat → Option (Int × Int)) (m : Nat) : Nat := (List.range m).countP fun i => (L i).isSome
theorem cnt_comes {B : List (List Int)} {k : Nat} {L : Nat → Option (Int × Int)} (hk : (L k).isSome = true) : ∀ m, cntL (comesL B k L) m + (if k < m then 1 else 0) = cntL L m
  | 0 => rfl
  | m + 1 => by
    have ih := cnt_comes (B := B) hk m
    unfold cntL at ih ⊢
    rw [List.range_succ, List.countP_append, List.countP_append, List.countP_singleton, List.countP_singleton]
    by_cases c : m = k
    · subst c
      rw [hk, if_pos rfl]
      have : (comesL B m L m).isSome = false := by unfold comesL; rw [if_pos rfl]; rfl
      rw [this, if_neg (by decide), if_pos (show m < m + 1 by omega)]
      rw [if_neg (Nat.lt_irrefl m)] at ih
      omega
    · have : (comesL B k L m).isSome = (L m).isSome := by unfold comesL; rw [if_neg c, Option.isSome_map]
      rw [this]
      by_cases c2 : k < m
      · rw [if_pos c2] at ih; rw [if_pos (show k < m + 1 by omega)]; omega
      · rw [if_neg c2] at ih; rw [if_neg (show ¬ k < m + 1 by omega)]; omega
theorem cnt_pos {L : Nat → Option (Int × Int)} {m : Nat} (h : 0 < cntL L m) : ∃ j, j < m ∧ (L j).isSome = true := by
  obtain ⟨j, hj, hs⟩ := List.countP_pos_iff.1 h
  exact ⟨j, List.mem_range.1 hj, hs⟩
theorem init_some (m i : Nat) : (initL m i).isSome = decide (i < m) := by
  unfold initL
  by_cases c : i < m
  · rw [if_pos c, decide_eq_true c]; rfl
  · rw [if_neg c, decide_eq_false c]; rfl
theorem rst_join {n : Nat} {h : Nat → Nat → Bool} (hh : Sy n h) (left : Nat → Bool) (v : Nat) (hlv : left v = true) : goT (rst h left) v = rst (joinBd h (laterN n h left v)) (without left v) := by
  funext p q
  rw [Bool.eq_iff_iff, rst_iff, without_iff, without_iff]
  unfold goT joinBd
  simp only [Bool.and_eq_true, Bool.not_eq_true', decide_eq_false_iff_not, Bool.or_eq_true, rst_iff, decide_eq_true_eq, mem_laterN]
  constructor
  · rintro ⟨h1, h2, h3 | ⟨⟨a1, _, a2⟩, ⟨b1, _, b2⟩, h4⟩⟩
    · exact ⟨.inl h3.1, ⟨h3.2.1, Ne.symm h1⟩, h3.2.2, Ne.symm h2⟩
    · exact ⟨.inr ⟨⟨(hh.2.2 _ _ a1).2, a1, a2⟩, ⟨(hh.2.2 _ _ b1).2, b1, b2⟩, h4⟩, ⟨a2, Ne.symm h1⟩, b2, Ne.symm h2⟩
  · rintro ⟨h1 | ⟨⟨_, a1, a2⟩, ⟨_, b1, b2⟩, h4⟩, ⟨c1, c2⟩, d1, d2⟩
    · exact ⟨Ne.symm c2, Ne.symm d2, .inl ⟨h1, c1, d1⟩⟩
    · exact ⟨Ne.symm c2, Ne.symm d2, .inr ⟨⟨a1, hlv, a2⟩, ⟨b1, hlv, b2⟩, h4⟩⟩
theorem rbag_eq {n : Nat} {h : Nat → Nat → Bool} (hh : Sy n h) (left : Nat → Bool) (v : Nat) (hv : v < n) (hlv : left v = true) : uniteL (ofT n (rst h left v)) (withoutL [(v : Int)] (ofT n (rst h left v))) = bagT n h left v := by
  have hno : (v : Int) ∉ ofT n (rst h left v) := fun hx => by
    obtain ⟨k, hk, e, ek⟩ := mem_ofT.1 hx
    obtain rfl : v = k := by omega
    have := (rst_iff h left v v).1 e
    rw [hh.2.1] at this
    cases this.1
  have hw : withoutL [(v : Int)] (ofT n (rst h left v)) = [(v : Int)] := by
    unfold withoutL
    rw [List.filter_cons_of_pos (by simp [inB]; exact fun x hx e => hno (e ▸ hx))]
    rfl
  rw [hw]
  refine rise_eq _ _ (uniteL_rise _ _ (ofT_rise n _) (List.pairwise_singleton _ _) (fun x hx => by rw [List.mem_singleton.1 hx]; exact hno)) (ofT_rise n _) (fun x => ?_)
  rw [uniteL_mem, List.mem_singleton, mem_bagT, mem_ofT]
  constructor
  · rintro (⟨k, hk, e, rfl⟩ | rfl)
    · have := (rst_iff h left v k).1 e
      exact ⟨k, hk, rfl, .inr ⟨this.1, this.2.2⟩⟩
    · exact ⟨v, hv, rfl, .inl rfl⟩
  · rintro ⟨k, hk, rfl, rfl | e⟩
    · exact .inr rfl
    · exact .inl ⟨k, hk, (rst_iff h left v k).2 ⟨e.1, hlv, e.2⟩, rfl⟩
theorem rbags_l0 {n : Nat} (hn : n ≤ 40) (ln : List Nat) (hl : ∀ x ∈ ln, x < n) (hll : ln.length ≤ 1000) : ∀ (d i : Nat) (h : Nat → Nat → Bool) (left : Nat → Bool) (out : List (List Int)), i + d = ln.length → Sy n h → (∀ v ∈ ln.drop i, left v = true) → (ln.drop i).Nodup → out.length = i → Ev (fun k => arboristref10_Bags.l0 k (mat n (rst h left)) (gI ln) out (i : Int)) (out ++ (fillB n (ln.drop i) h left).1)
  | 0, i, h, left, out, hd, _, _, _, ho => by
    rw [List.drop_eq_nil_of_le (show ln.length ≤ i by omega)]
    refine evs0 (fun k => ?_)
    rw [arboristref10_Bags.l0, if_neg (by rw [gI_len]; omega)]
    exact congrArg some (List.append_nil out).symm
  | d + 1, i, h, left, out, hd, hh, hv, hnd, ho => by
    have hi : i < ln.length := by omega
    have hdr := List.drop_eq_getElem_cons hi
    rw [hdr] at hv hnd
    have hvn : ln[i] < n := hl _ (List.getElem_mem hi)
    have hlv := hv ln[i] List.mem_cons_self
    have e1 := neigh9 n (by omega) (rst h left) ln[i] hvn
    have e2 := Unite_ev (gI (nbN n (rst h left) ln[i])) [((ln[i] : Nat) : Int)] (by have := nbN_len n (rst h left) ln[i]; rw [gI_len]; simp; omega)
    rw [← ofT_nbN, rbag_eq hh left ln[i] hvn hlv, ofT_nbN] at e2
    have e3 := go_ev n (by omega) (rst h left) (hh.rst left) ln[i] hvn
    rw [rst_join hh left ln[i] hlv] at e3
    have e4 := rbags_l0 hn ln hl hll d (i + 1) (joinBd h (laterN n h left ln[i])) (without left ln[i]) (out ++ [bagT n h left ln[i]]) (by omega) (joinBd_sy hh (fun x hx => (mem_laterN.1 hx).1)) (fun v hv' => (without_iff _ _ _).2 ⟨hv v (List.mem_cons_of_mem _ hv'), fun e => (List.nodup_cons.1 hnd).1 (e ▸ hv')⟩) (List.nodup_cons.1 hnd).2 (by simp [ho])
    have hr : out ++ (fillB n (ln.drop i) h left).1 = (out ++ [bagT n h left ln[i]]) ++ (fillB n (ln.drop (i + 1)) (joinBd h (laterN n h left ln[i])) (without left ln[i])).1 := by
      rw [hdr, List.append_assoc]
      rfl
    rw [hr]
    refine evs4 e1 e2 e3 e4 (fun k p1 p2 p3 p4 => ?_)
    rw [arboristref10_Bags.l0, if_pos (by rw [gI_len]; omega), if_pos (by omega), gI_rd, wAt_get ln i hi, p1, Option.bind_some, p2, Option.bind_some, if_pos (by omega), p3, Option.bind_some, wrap_nat i (by omega)]
    exact p4
theorem rbags_ev {n : Nat} (hn : n ≤ 40) {F : Nat → Nat → Bool} (hF : Sy n F) {ln : List Nat} (ho : (gI ln).Perm (idI n)) (hd : ln.Nodup) (hl : ∀ x ∈ ln, x < n) : Ev (fun k => arboristref10_Bags.f k (mat n F) (gI ln)) (fillB n ln F allL).1 := by
  have e := rbags_l0 hn ln hl (by have := ho.length_eq; rw [gI_len, idI_len] at this; omega) ln.length 0 F allL [] (by omega) hF (fun _ _ => rfl) (by rw [List.drop_zero]; exact hd) rfl
  rw [show rst F allL = F from rst_all F, List.drop_zero, List.nil_append] at e
  refine evu2 (copy_ev n (by omega) F) e (fun k p1 p2 => ?_)
  rw [arboristref10_Bags.f, p1, Option.bind_some]
  exact p2
section
variable {n : Nat} (hn : n ≤ 40) (B : List (List Int)) (hB : B.length ≤ 1000)
include hn hB
end
theorem rdI_is (B : List (List Int)) (i : Nat) (h : i < B.length) : rd_L1 B (i : Int) = B[i] := by
  unfold rd_L1
  rw [Int.toNat_natCast]
  simp [h]
theorem within_eq {a b : List Int} (ha : a.Pairwise (· < ·)) (hb : b.Pairwise (· < ·)) : withinB a b = withinR a b := by
  unfold withinB withinR
  rw [merge_without _ a b rfl ha hb]
theorem prim_init (B : List (List Int)) : PInv B (initL B.length) (List.replicate B.length (-1)) := by
  have hno : ∀ s, ¬ inT (initL B.length) B.length s := fun s h => by
    have := init_some B.length s
    rw [h.2, decide_eq_true h.1] at this
    cases this
  exact ⟨by simp, fun i hi => by rw [init_some] at hi; exact of_decide_eq_true hi, fun i c t hi => (by
    refine .inl ⟨hno, ?_⟩
    unfold initL at hi
    split at hi
    · obtain ⟨rfl, rfl⟩ := Prod.mk.inj (Option.some.inj hi)
      exact ⟨rfl, rfl⟩
    · cases hi), fun ⟨s, hs⟩ => absurd hs (hno s), fun h => absurd h (hno 0), fun s hs => absurd hs (hno s)⟩
theorem cnt_init (m : Nat) : cntL (initL m) m = m := by
  unfold cntL
  rw [List.countP_eq_length.2 (fun i hi => by rw [init_some]; exact decide_eq_true (List.mem_range.1 hi)), List.length_range]
def inR (m : Nat) (L : Nat → Option (Int × Int)) : List Bool := rowT m fun s => (L s).isNone
def Lnk (B : List (List Int)) (L : Nat → Option (Int × Int)) (i : Nat) (c : Int) (p : Nat) : Prop := inT L B.length p ∧ c = meetN B i p ∧ ∀ s, inT L B.length s → meetN B i s ≤ c ∧ (meetN B i s = c → p ≤ s)
theorem rb_l4n (B : List (List Int)) (L : Nat → Option (Int × Int)) (par : List Int) (turn best tz most : Int) (i : Nat) (hi : i < B.length) (hB : B.length ≤ 1000) (hL : L i = none) (R : List (List Int) × List Int)
    (H : Ev (fun k => arboristref11_Build.l3 k (inR B.length L) turn best tz most ((i + 1 : Nat) : Int) B par) R) : ∀ (d K : Nat), K + d = B.length → Ev (fun k => arboristref11_Build.l4 k (inR B.length L) turn best tz most (i : Int) (K : Int) B par) R
  | 0, K, h => evp H (fun k e => by rw [arboristref11_Build.l4, if_neg (by omega), wrap_nat i (by omega)]; exact e)
  | d + 1, K, h => by
    have hj : Ev (fun k => arboristref11_Build.j5 k (inR B.length L) turn best tz most (i : Int) (K : Int) true B par) R := evp (rb_l4n B L par turn best tz most i hi hB hL R H d (K + 1) (by omega)) (fun k e => by
      rw [arboristref11_Build.j5, if_pos rfl, wrap_nat K (by omega)]; exact e)
    refine evp hj (fun k e => ?_)
    have hr : rdOf false (inR B.length L) (i : Int) = true := by unfold inR; rw [rowT_rd B.length _ i hi, hL]; rfl
    rw [arboristref11_Build.l4, if_pos (by omega), if_pos (by omega), if_pos (by unfold inR; rw [rowT_len]; omega), hr, if_pos rfl]
    exact e
theorem rb_l4 (B : List (List Int)) (L : Nat → Option (Int × Int)) (par : List Int) (turn : Int) (i : Nat) (hi : i < B.length) (hB : B.length ≤ 1000) (hl : ∀ b ∈ B, b.length ≤ 1000) (hr : ∀ b ∈ B, b.Pairwise (· < ·)) (c : Int) (p : Nat) (hL : L i = some (c, (p : Int))) (hp : Lnk B L i c p) (R : List (List Int) × List Int) (fb ft fm : Int)
    (H : Ev (fun k => arboristref11_Build.l3 k (inR B.length L) turn fb ft fm ((i + 1 : Nat) : Int) B par) R) : ∀ (d K : Nat) (best tz most : Int), K + d = B.length → ((c ≤ most ∧ fb = best ∧ ft = tz ∧ fm = most) ∨ (most < c ∧ K ≤ p ∧ fb = (i : Int) ∧ ft = (p : Int) ∧ fm = c)) →
      Ev (fun k => arboristref11_Build.l4 k (inR B.length L) turn best tz most (i : Int) (K : Int) B par) R
  | 0, K, best, tz, most, h, hs => by
    rcases hs with ⟨_, rfl, rfl, rfl⟩ | ⟨_, h2, _⟩
    · exact evp H (fun k e => by rw [arboristref11_Build.l4, if_neg (by omega), wrap_nat i (by omega)]; exact e)
    · have := hp.1.1
      omega
  | d + 1, K, best, tz, most, h, hs => by
    have hK : K < B.length := by omega
    have hri : rdOf false (inR B.length L) (i : Int) = false := by unfold inR; rw [rowT_rd B.length _ i hi, hL]; rfl
    have hrK : rdOf false (inR B.length L) (K : Int) = (L K).isNone := by unfold inR; rw [rowT_rd B.length _ K hK]
    have hgo : ∀ fl : Bool, fl = !(L K).isNone → Ev (fun k => arboristref11_Build.j5 k (inR B.length L) turn best tz most (i : Int) (K : Int) fl B par) R → Ev (fun k => arboristref11_Build.l4 k (inR B.length L) turn best tz most (i : Int) (K : Int) B par) R := fun fl hfl hj => evp hj (fun k e => by
      rw [arboristref11_Build.l4, if_pos (by omega), if_pos (by omega), if_pos (by unfold inR; rw [rowT_len]; omega), hri, if_neg (by decide), if_pos (by omega), if_pos (by unfold inR; rw [rowT_len]; omega), hrK, ← hfl]
      exact e)
    cases hLK : L K with
    | some q =>
      refine hgo true (by rw [hLK]; rfl) (evp (rb_l4 B L par turn i hi hB hl hr c p hL hp R fb ft fm H d (K + 1) best tz most (by omega) ?_) (fun k e => ?_))
      · rcases hs with hs | ⟨h1, h2, h3⟩
        · exact .inl hs
        · refine .inr ⟨h1, ?_, h3⟩
          have : K ≠ p := fun e => by have := hp.1.2; rw [← e, hLK] at this; cases this
          omega
      · rw [arboristref11_Build.j5, if_pos rfl, wrap_nat K (by omega)]; exact e
    | none =>
      have hin : inT L B.length K := ⟨hK, hLK⟩
      have hm := hp.2.2 K hin
      have e1 := Meet_ev B[i] B[K] (by have := hl _ (List.getElem_mem hi); omega) (by have := hl _ (List.getElem_mem hK); omega)
      have e2 := meetN_eq B hr hi hK
      have hstep : ∀ (b' t' m' : Int), ((meetN B i K > most ∧ b' = (i : Int) ∧ t' = (K : Int) ∧ m' = meetN B i K) ∨ (¬ meetN B i K > most ∧ b' = best ∧ t' = tz ∧ m' = most)) → Ev (fun k => arboristref11_Build.l4 k (inR B.length L) turn b' t' m' (i : Int) ((K + 1 : Nat) : Int) B par) R → Ev (fun k => arboristref11_Build.j5 k (inR B.length L) turn best tz most (i : Int) (K : Int) false B par) R := fun b' t' m' hc hn => by
        refine evs2 e1 hn (fun k q1 q2 => ?_)
        rw [arboristref11_Build.j5, if_neg (by decide), if_pos (by omega), if_pos (by omega), if_pos (by omega), if_pos (by omega), rdI_is B i hi, rdI_is B K hK, q1, Option.bind_some, ← e2]
        rcases hc with ⟨c1, rfl, rfl, rfl⟩ | ⟨c1, rfl, rfl, rfl⟩
        · rw [if_pos c1, wrap_nat K (by omega)]; exact q2
        · rw [if_neg c1, wrap_nat K (by omega)]; exact q2
      refine hgo false (by rw [hLK]; rfl) ?_
      by_cases cm : meetN B i K > most
      · refine hstep _ _ _ (.inl ⟨cm, rfl, rfl, rfl⟩) (rb_l4 B L par turn i hi hB hl hr c p hL hp R fb ft fm H d (K + 1) _ _ _ (by omega) ?_)
        rcases hs with ⟨h1, _⟩ | ⟨h1, h2, h3, h4, h5⟩
        · omega
        · by_cases ce : meetN B i K = c
          · have h6 := hm.2 ce
            have h7 : K = p := by omega
            subst h7
            exact .inl ⟨by omega, h3, h4, by omega⟩
          · refine .inr ⟨by omega, ?_, h3, h4, h5⟩
            have : K ≠ p := fun e => ce (by rw [e]; exact hp.2.1.symm)
            omega
      · refine hstep _ _ _ (.inr ⟨cm, rfl, rfl, rfl⟩) (rb_l4 B L par turn i hi hB hl hr c p hL hp R fb ft fm H d (K + 1) _ _ _ (by omega) ?_)
        rcases hs with h1 | ⟨h1, h2, h3⟩
        · exact .inl h1
        · refine .inr ⟨h1, ?_, h3⟩
          have : K ≠ p := fun e => by
            have h4 := hp.2.1
            rw [← e] at h4
            omega
          omega
def InvS (L : Nat → Option (Int × Int)) (b best tz most : Int) : Prop := (b = -1 ∧ best = -1 ∧ tz = -1 ∧ most = -1) ∨ (0 ≤ b ∧ best = b ∧ L b.toNat = some (most, tz))
theorem rb_l3 (B : List (List Int)) (L : Nat → Option (Int × Int)) (par : List Int) (hI : PInv B L par) (hne : ∃ s, inT L B.length s) (turn : Int) (hB : B.length ≤ 1000) (hl : ∀ b ∈ B, b.length ≤ 1000) (hr : ∀ b ∈ B, b.Pairwise (· < ·)) (R : List (List Int) × List Int) (bF : Int)
    (H : ∀ best tz most, InvS L bF best tz most → Ev (fun k => arboristref11_Build.l3 k (inR B.length L) turn best tz most (B.length : Int) B par) R) : ∀ (d i : Nat) (b best tz most : Int), i + d = B.length → InvS L b best tz most → bestGo L d i b = bF →
      Ev (fun k => arboristref11_Build.l3 k (inR B.length L) turn best tz most (i : Int) B par) R
  | 0, i, b, best, tz, most, h, hs, hF => by
    obtain rfl : i = B.length := by omega
    exact H best tz most (by rw [← show b = bF from hF]; exact hs)
  | d + 1, i, b, best, tz, most, h, hs, hF => by
    have hi : i < B.length := by omega
    rw [bestGo_step] at hF
    have hin : Ev (fun k => arboristref11_Build.l4 k (inR B.length L) turn best tz most (i : Int) ((0 : Nat) : Int) B par) R := by
      cases hLi : L i with
      | none =>
        have hb : stepB L i b = b := by unfold stepB; rw [hLi]
        rw [hb] at hF
        exact rb_l4n B L par turn best tz most i hi hB hLi R (rb_l3 B L par hI hne turn hB hl hr R bF H d (i + 1) b best tz most (by omega) hs hF) B.length 0 (by omega)
      | some q =>
        obtain ⟨c, t⟩ := q
        rcases hI.lnk i c t hLi with ⟨hno, _⟩ | ⟨p, rfl, hp⟩
        · obtain ⟨s, hs'⟩ := hne
          exact absurd hs' (hno s)
        · have hc0 : 0 ≤ c := by rw [hp.2.1]; exact meetN_ge B i p
          by_cases cu : most < c
          · have hb : stepB L i b = (i : Int) := by
              unfold stepB
              rw [hLi]
              refine if_pos ?_
              rcases hs with ⟨h1, _⟩ | ⟨h1, h2, h3⟩
              · exact .inl h1
              · refine .inr ?_
                rw [h3]
                show c > most
                omega
            rw [hb] at hF
            exact rb_l4 B L par turn i hi hB hl hr c p hLi hp R _ _ _ (rb_l3 B L par hI hne turn hB hl hr R bF H d (i + 1) _ (i : Int) (p : Int) c (by omega) (.inr ⟨by omega, rfl, by rw [Int.toNat_natCast]; exact hLi⟩) hF) B.length 0 best tz most (by omega) (.inr ⟨cu, Nat.zero_le _, rfl, rfl, rfl⟩)
          · have hb : stepB L i b = b := by
              unfold stepB
              rw [hLi]
              refine if_neg ?_
              rcases hs with ⟨h1, _, _, h2⟩ | ⟨h1, h2, h3⟩
              · omega
              · rw [h3]
                show ¬ (b = -1 ∨ c > most)
                omega
            rw [hb] at hF
            exact rb_l4 B L par turn i hi hB hl hr c p hLi hp R _ _ _ (rb_l3 B L par hI hne turn hB hl hr R bF H d (i + 1) b best tz most (by omega) hs hF) B.length 0 best tz most (by omega) (.inl ⟨by omega, rfl, rfl, rfl⟩)
    exact evp hin (fun k e => by rw [arboristref11_Build.l3, if_pos (by omega)]; exact e)
theorem rb_l2 (B : List (List Int)) (hB : B.length ≤ 1000) (hl : ∀ b ∈ B, b.length ≤ 1000) (hr : ∀ b ∈ B, b.Pairwise (· < ·)) : ∀ (d : Nat) (L : Nat → Option (Int × Int)) (par : List Int) (turn : Nat), PInv B L par → cntL L B.length = d → (∃ s, inT L B.length s) → turn + d = B.length → 1 ≤ turn →
    Ev (fun k => arboristref11_Build.l2 k (inR B.length L) (turn : Int) B par) (B, primGo B d L (bestGo L B.length 0 (-1)) par)
  | 0, L, par, turn, hI, hc, hne, h, h1 => evs0 (fun k => by rw [arboristref11_Build.l2, if_neg (by omega)]; rfl)
  | d + 1, L, par, turn, hI, hc, hne, h, h1 => by
    obtain ⟨j, hj, hj2⟩ := cnt_pos (L := L) (m := B.length) (by omega)
    obtain ⟨b0, b1⟩ := bestGo_ok (L := L) B.length 0 (-1) (.inr ⟨rfl, j, Nat.zero_le _, by omega, hj2⟩)
    generalize hbF : bestGo L B.length 0 (-1) = bF at *
    obtain ⟨b, rfl⟩ := Int.eq_ofNat_of_zero_le b0
    rw [Int.toNat_natCast] at b1
    obtain ⟨⟨c, t⟩, hb⟩ := Option.isSome_iff_exists.1 b1
    have hbm := hI.dom b b1
    have hs := prim_step hI hb (fun hno => by obtain ⟨s, hs⟩ := hne; exact absurd hs (hno s))
    have hcc := cnt_comes (B := B) b1 B.length
    rw [if_pos hbm] at hcc
    have hkin : inT (comesL B b L) B.length b := ⟨hbm, comes_none.2 (.inl rfl)⟩
    have ih := rb_l2 B hB hl hr d (comesL B b L) (par.set b t) (turn + 1) hs (by omega) ⟨b, hkin⟩ (by omega) (by omega)
    have e0 : primGo B (d + 1) L ((b : Nat) : Int) par = primGo B d (comesL B b L) (bestGo (comesL B b L) B.length 0 (-1)) (par.set b t) := by
      rw [primGo, Int.toNat_natCast, hb]
      rfl
    rw [e0]
    have h3 := rb_l3 B L par hI hne (turn : Int) hB hl hr (B, primGo B d (comesL B b L) (bestGo (comesL B b L) B.length 0 (-1)) (par.set b t)) (b : Int) (fun best tz most hv => by
      rcases hv with ⟨h2, _⟩ | ⟨_, rfl, h4⟩
      · omega
      · rw [Int.toNat_natCast, hb] at h4
        obtain ⟨rfl, rfl⟩ := Prod.mk.inj (Option.some.inj h4)
        refine evp ih (fun k e => ?_)
        have hset : (inR B.length L).set b true = inR B.length (comesL B b L) := by
          unfold inR
          rw [rowT_set]
          refine rowT_congr (fun s hs' => ?_)
          unfold comesL
          by_cases cs : s = b
          · rw [if_pos cs, if_pos cs]; rfl
          · rw [if_neg cs, if_neg cs, Option.isNone_map]
        rw [arboristref11_Build.l3, if_neg (by omega), if_pos (by omega), if_pos (by unfold inR; rw [rowT_len]; omega), if_pos (by rw [hI.len]; omega), Int.toNat_natCast, hset, wrap_nat turn (by omega)]
        exact e) B.length 0 (-1) (-1) (-1) (-1) (by omega) (.inl ⟨rfl, rfl, rfl, rfl⟩) hbF
    refine evp h3 (fun k e => ?_)
    rw [arboristref11_Build.l2, if_pos (by omega), if_neg (by omega)]
    exact e
theorem rb_tree (B : List (List Int)) (hB : B.length ≤ 1000) (hl : ∀ b ∈ B, b.length ≤ 1000) (hr : ∀ b ∈ B, b.Pairwise (· < ·)) : Ev (fun k => arboristref11_Build.l2 k (List.replicate B.length false) 0 B (List.replicate B.length (-1))) (B, primL B) := by
  have hrow : List.replicate B.length false = inR B.length (initL B.length) := by
    rw [rep_row]
    unfold inR
    refine rowT_congr (fun s hs => ?_)
    unfold initL
    rw [if_pos hs]
    rfl
  rw [hrow]
  unfold primL
  have hm := cnt_init B.length
  rcases Nat.eq_zero_or_pos B.length with h | h
  · refine evs0 (fun k => ?_)
    rw [arboristref11_Build.l2, if_neg (by omega), h]
    rfl
  · obtain ⟨m, hm1⟩ : ∃ m, B.length = m + 1 := ⟨B.length - 1, by omega⟩
    have hI := prim_init B
    have h0 : initL B.length 0 = some (-1, -1) := by unfold initL; rw [if_pos h]
    have hs := prim_step hI h0 (fun _ => rfl)
    have hset : (List.replicate B.length (-1 : Int)).set 0 (-1) = List.replicate B.length (-1) := by
      rw [hm1]
      rfl
    rw [hset] at hs
    have hcc := cnt_comes (B := B) (k := 0) (L := initL B.length) (by rw [h0]; rfl) B.length
    rw [if_pos h, hm] at hcc
    have ih := rb_l2 B hB hl hr m (comesL B 0 (initL B.length)) (List.replicate B.length (-1)) 1 hs (by omega) ⟨0, h, comes_none.2 (.inl rfl)⟩ (by omega) (Nat.le_refl _)
    have e0 : primGo B B.length (initL B.length) 0 (List.replicate B.length (-1)) = primGo B m (comesL B 0 (initL B.length)) (bestGo (comesL B 0 (initL B.length)) B.length 0 (-1)) (List.replicate B.length (-1)) := by
      conv => lhs; rw [show primGo B B.length = primGo B (m + 1) by rw [hm1]]
      rw [primGo, show (0 : Int).toNat = 0 from rfl, h0]
      show primGo B m _ _ ((List.replicate B.length (-1 : Int)).set 0 (-1)) = _
      rw [hset]
    rw [e0]
    refine evp ih (fun k e => ?_)
    have hset2 : (inR B.length (initL B.length)).set 0 true = inR B.length (comesL B 0 (initL B.length)) := by
      unfold inR
      rw [rowT_set]
      refine rowT_congr (fun s hs' => ?_)
      unfold comesL
      by_cases cs : s = 0
      · rw [if_pos cs, if_pos cs]; rfl
      · rw [if_neg cs, if_neg cs, Option.isNone_map]
    rw [arboristref11_Build.l2, if_pos (by omega), if_pos rfl, if_pos (by unfold inR; rw [rowT_len]; omega), show (0 : Int).toNat = 0 from rfl, hset2, show wrap64 (0 + 1) = ((1 : Nat) : Int) from wrap_nat 0 (by omega)]
    exact e
theorem take_drop_step (A : List (List Int)) (i j : Nat) (hi : i ≤ A.length) (hj : j < i) : (A.take i).drop j = A[j]'(by omega) :: (A.take i).drop (j + 1) := by
  rw [List.drop_eq_getElem_cons (by rw [List.length_take]; omega), List.getElem_take]
theorem rb_l1 (A : List (List Int)) (hA : A.length ≤ 1000) (hl : ∀ b ∈ A, b.length ≤ 1000) (hr : ∀ b ∈ A, b.Pairwise (· < ·)) (i : Nat) (hi : i < A.length) (ob : List (List Int)) (op : List Int) (R : List (List Int) × List Int) (fl : Bool)
    (H : Ev (fun k => arboristref11_Build.l1 k A (i : Int) fl (i : Int) ob op) R) : ∀ (d j : Nat) (x : Bool), j + d = i → fl = (x && !(((A.take i).drop j).any (withinB A[i]))) → Ev (fun k => arboristref11_Build.l1 k A (i : Int) x (j : Int) ob op) R
  | 0, j, x, h, hx => by
    obtain rfl : j = i := by omega
    have e : (A.take j).drop j = [] := List.drop_eq_nil_of_le (by rw [List.length_take]; omega)
    rw [e, List.any_nil, Bool.not_false, Bool.and_true] at hx
    rw [← hx]
    exact H
  | d + 1, j, x, h, hx => by
    have hj : j < A.length := by omega
    have e1 := Within_ev A[i] A[j] (by have := hl _ (List.getElem_mem hi); omega) (by have := hl _ (List.getElem_mem hj); omega)
    rw [← within_eq (hr _ (List.getElem_mem hi)) (hr _ (List.getElem_mem hj))] at e1
    rw [take_drop_step A i j (by omega) (by omega), List.any_cons] at hx
    have ih := rb_l1 A hA hl hr i hi ob op R fl H d (j + 1) (x && !(withinB A[i] A[j])) (by omega) (by rw [hx]; cases x <;> cases withinB A[i] A[j] <;> simp)
    refine evs2 e1 ih (fun k q1 q2 => ?_)
    rw [arboristref11_Build.l1, if_pos (by omega), if_pos (by omega), if_pos (by omega), if_pos (by omega), if_pos (by omega), rdI_is A i hi, rdI_is A j hj, q1, Option.bind_some, wrap_nat j (by omega)]
    cases x with
    | true => rw [if_pos rfl]; exact q2
    | false => rw [if_neg (by decide)]; exact q2
theorem rb_l0 (A : List (List Int)) (hA : A.length ≤ 1000) (hl : ∀ b ∈ A, b.length ≤ 1000) (hr : ∀ b ∈ A, b.Pairwise (· < ·)) : ∀ (d i : Nat) (out : List (List Int)), i + d = A.length → out.length ≤ i → (∀ b ∈ out, b ∈ A) →
    Ev (fun k => arboristref11_Build.l0 k A (i : Int) out (List.replicate out.length (-1))) (out ++ ownL (A.take i) (A.drop i), primL (out ++ ownL (A.take i) (A.drop i)))
  | 0, i, out, h, ho, hs => by
    obtain rfl : i = A.length := by omega
    rw [List.drop_length, show ownL (A.take A.length) [] = [] from rfl, List.append_nil]
    refine evp (rb_tree out (by omega) (fun b hb => hl b (hs b hb)) (fun b hb => hr b (hs b hb))) (fun k e => ?_)
    rw [arboristref11_Build.l0, if_neg (by omega), if_pos (by omega), if_pos (by omega), Int.toNat_natCast]
    exact e
  | d + 1, i, out, h, ho, hs => by
    have hi : i < A.length := by omega
    have hd : A.drop i = A[i] :: A.drop (i + 1) := List.drop_eq_getElem_cons hi
    have ht : A.take (i + 1) = A.take i ++ [A[i]] := by rw [List.take_add_one, List.getElem?_eq_getElem hi]; rfl
    rw [hd, ownL, ← ht]
    have hin : ∀ R fl, fl = !((A.take i).any (withinB A[i])) → Ev (fun k => arboristref11_Build.l1 k A (i : Int) fl (i : Int) out (List.replicate out.length (-1))) R → Ev (fun k => arboristref11_Build.l0 k A (i : Int) out (List.replicate out.length (-1))) R := fun R fl hfl H => by
      refine evp (rb_l1 A hA hl hr i hi out _ R fl H i 0 true (by omega) (by rw [List.drop_zero, Bool.true_and]; exact hfl)) (fun k e => ?_)
      rw [arboristref11_Build.l0, if_pos (by omega)]
      exact e
    by_cases c : (A.take i).any (withinB A[i]) = true
    · rw [if_pos c]
      have ih := rb_l0 A hA hl hr d (i + 1) out (by omega) (by omega) hs
      refine hin _ false (by rw [c]; rfl) (evp ih (fun k e => ?_))
      rw [arboristref11_Build.l1, if_neg (by omega), if_neg (by decide), wrap_nat i (by omega)]
      exact e
    · rw [if_neg c]
      have ih := rb_l0 A hA hl hr d (i + 1) (out ++ [A[i]]) (by omega) (by simp; omega) (fun b hb => by
        rcases List.mem_append.1 hb with hb | hb
        · exact hs b hb
        · rw [List.mem_singleton.1 hb]; exact List.getElem_mem hi)
      rw [List.append_assoc, List.singleton_append] at ih
      refine hin _ true (by rw [Bool.eq_false_iff.2 c]; rfl) (evp ih (fun k e => ?_))
      rw [arboristref11_Build.l1, if_neg (by omega), if_pos rfl, if_pos (by omega), if_pos (by omega), if_pos (by omega), if_pos (by rw [List.length_replicate]; omega), rdI_is A i hi, wrap_nat i (by omega)]
      have hrep : List.replicate out.length (-1 : Int) ++ [-1] = List.replicate (out ++ [A[i]]).length (-1) := by
        rw [List.length_append, show [A[i]].length = 1 from rfl, List.replicate_succ']
      rw [hrep]
      exact e
theorem rbuild_ev {n : Nat} (hn : n ≤ 40) {F : Nat → Nat → Bool} (hF : Sy n F) {ln : List Nat} (hop : (gI ln).Perm (idI n)) (hd : ln.Nodup) (hl : ∀ x ∈ ln, x < n) : Ev (fun k => arboristref11_Build.f k (mat n F) (gI ln)) (ownL [] (fillB n ln F allL).1, primL (ownL [] (fillB n ln F allL).1)) := by
  have hlen := fillB_len (n := n) ln F allL
  have hg : ln.length = n := by have := hop.length_eq; rw [gI_len, idI_len] at this; exact this
  have hcl := fillB_cliq (n := n) ln F allL hF
  have h0 := rb_l0 (fillB n ln F allL).1 (by omega) (fun b hb => by have := (hcl b hb).2; omega) (fillB_rise (n := n) ln F allL) (fillB n ln F allL).1.length 0 [] (by omega) (Nat.le_refl _) (fun b hb => by cases hb)
  rw [List.take_zero, List.drop_zero, List.nil_append] at h0
  refine evu2 (rbags_ev hn hF hop hd hl) h0 (fun k p1 p2 => ?_)
  rw [arboristref11_Build.f, p1, Option.bind_some]
  exact p2
theorem scope_nat {n : Nat} {l : List Int} (h : ScopeOk n l) : ∃ ln : List Nat, l = gI ln ∧ ln.Nodup ∧ (∀ x ∈ ln, x < n) ∧ 1 ≤ ln.length ∧ ln.length ≤ 6 := by
  obtain ⟨h1, h2, h3, h4⟩ := h
  have e : gI (l.map Int.toNat) = l := by
    unfold gI
    rw [List.map_map]
    have : ∀ m : List Int, (∀ v ∈ m, 0 ≤ v) → m.map ((fun (x : Nat) => (x : Int)) ∘ Int.toNat) = m := fun m => by
      induction m with
      | nil => intro _; rfl
      | cons a m ih =>
        intro hm
        rw [List.map_cons, ih (fun v hv => hm v (List.mem_cons_of_mem _ hv))]
        have := hm a List.mem_cons_self
        simp only [Function.comp]
        rw [Int.toNat_of_nonneg this]
    exact this l (fun v hv => (h4 v hv).1)
  refine ⟨l.map Int.toNat, e.symm, ?_, ?_, by rw [List.length_map]; exact h1, by rw [List.length_map]; exact h2⟩
  · have hp : (gI (l.map Int.toNat)).Pairwise (· < ·) := by rw [e]; exact h3
    unfold gI at hp
    rw [List.pairwise_map] at hp
    exact hp.imp (fun {a b} hab e => by subst e; exact absurd hab (Int.lt_irrefl _))
  · intro x hx
    obtain ⟨v, hv, rfl⟩ := List.mem_map.1 hx
    have := h4 v hv
    omega
theorem mem_gI8 {ln : List Nat} {x : Nat} : (x : Int) ∈ gI ln ↔ x ∈ ln := by
  unfold gI
  rw [List.mem_map]
  constructor
  · rintro ⟨y, hy, e⟩
    have : y = x := by omega
    rw [← this]; exact hy
  · exact fun h => ⟨x, h, rfl⟩
theorem mat_one (n : Nat) (f : Nat → Nat → Bool) (a b : Nat) (ha : a < n) : (mat n f).set a ((rd_L8 (mat n f) (a : Int)).set b true) = mat n fun x y => f x y || decide (x = a ∧ y = b) := by
  rw [mat_rd n f a ha, rowT_set, mat_set]
  refine mat_congr (fun i k hi hk => ?_)
  by_cases c : i = a
  · subst c
    rw [if_pos rfl]
    by_cases c2 : k = b
    · rw [if_pos c2, decide_eq_true ⟨rfl, c2⟩, Bool.or_true]
    · rw [if_neg c2, decide_eq_false (fun h => c2 h.2), Bool.or_false]
  · rw [if_neg c, decide_eq_false (fun h => c h.1), Bool.or_false]
def rowJ (f : Nat → Nat → Bool) (a : Nat) (L : List Nat) : Nat → Nat → Bool := fun x y => f x y || decide (x = a ∧ y ≠ a ∧ y ∈ L)
def colJ (f : Nat → Nat → Bool) (A L : List Nat) : Nat → Nat → Bool := fun x y => f x y || decide (x ∈ A ∧ y ∈ L ∧ x ≠ y)
theorem pj_l1 {n : Nat} (ln : List Nat) (hd : ln.Nodup) (hl : ∀ x ∈ ln, x < n) (hll : ln.length ≤ 1000) (i : Nat) (hi : i < ln.length) (R : List (List Bool)) : ∀ (d j : Nat) (f : Nat → Nat → Bool), j + d = ln.length →
    Ev (fun k => arboristref08_join.l0 k (mat n (rowJ f ln[i] (ln.drop j))) (gI ln) ((i + 1 : Nat) : Int)) R → Ev (fun k => arboristref08_join.l1 k (mat n f) (gI ln) (i : Int) (j : Int)) R
  | 0, j, f, h, H => by
    have e : rowJ f ln[i] (ln.drop j) = f := by
      funext x y
      unfold rowJ
      rw [List.drop_eq_nil_of_le (by omega), decide_eq_false (fun h => by cases h.2.2), Bool.or_false]
    rw [e] at H
    refine evs1 H (fun k q => ?_)
    rw [arboristref08_join.l1, if_neg (by rw [gI_len]; omega), wrap_nat i (by omega)]
    exact q
  | d + 1, j, f, h, H => by
    have hj : j < ln.length := by omega
    have hdr : ln.drop j = ln[j] :: ln.drop (j + 1) := List.drop_eq_getElem_cons hj
    by_cases c : i = j
    · subst c
      have e : rowJ f ln[i] (ln.drop i) = rowJ f ln[i] (ln.drop (i + 1)) := by
        funext x y
        unfold rowJ
        congr 1
        rw [decide_eq_decide, hdr, List.mem_cons]
        constructor
        · rintro ⟨h1, h2, h3 | h3⟩
          · exact absurd h3 h2
          · exact ⟨h1, h2, h3⟩
        · rintro ⟨h1, h2, h3⟩
          exact ⟨h1, h2, .inr h3⟩
      rw [e] at H
      refine evs1 (pj_l1 ln hd hl hll i hi R d (i + 1) f (by omega) H) (fun k q => ?_)
      rw [arboristref08_join.l1, if_pos (by rw [gI_len]; omega), if_pos rfl, wrap_nat i (by omega)]
      exact q
    · have hne : ln[j] ≠ ln[i] := fun e => c (List.getElem_inj hd |>.1 e).symm
      have ha := hl _ (List.getElem_mem hi)
      have hb := hl _ (List.getElem_mem hj)
      have e : rowJ f ln[i] (ln.drop j) = rowJ (fun x y => f x y || decide (x = ln[i] ∧ y = ln[j])) ln[i] (ln.drop (j + 1)) := by
        funext x y
        unfold rowJ
        rw [Bool.or_assoc]
        congr 1
        rw [← Bool.decide_or, decide_eq_decide, hdr, List.mem_cons]
        constructor
        · rintro ⟨h1, h2, h3 | h3⟩
          · exact .inl ⟨h1, h3⟩
          · exact .inr ⟨h1, h2, h3⟩
        · rintro (⟨h1, h3⟩ | ⟨h1, h2, h3⟩)
          · exact ⟨h1, by rw [h3]; exact hne, .inl h3⟩
          · exact ⟨h1, h2, .inr h3⟩
      rw [e] at H
      have r1 : rd (gI ln) (i : Int) = ((ln[i] : Nat) : Int) := by rw [gI_rd, wAt_get ln i hi]
      have r2 : rd (gI ln) (j : Int) = ((ln[j] : Nat) : Int) := by rw [gI_rd, wAt_get ln j hj]
      refine evs1 (pj_l1 ln hd hl hll i hi R d (j + 1) _ (by omega) H) (fun k q => ?_)
      rw [arboristref08_join.l1, if_pos (by rw [gI_len]; omega), if_neg (by omega), if_pos (by omega), if_pos (by rw [gI_len]; omega), r1, r2, if_pos (by omega), if_pos (by rw [mat_len]; omega), if_pos (by omega), if_pos (by omega), if_pos (by rw [mat_rd n f _ ha, rowT_len]; omega), Int.toNat_natCast, Int.toNat_natCast, mat_one n f _ _ ha, wrap_nat j (by omega)]
      exact q
theorem pj_l0 {n : Nat} (ln : List Nat) (hd : ln.Nodup) (hl : ∀ x ∈ ln, x < n) (hll : ln.length ≤ 1000) : ∀ (d i : Nat) (f : Nat → Nat → Bool), i + d = ln.length → Ev (fun k => arboristref08_join.l0 k (mat n f) (gI ln) (i : Int)) (mat n (colJ f (ln.drop i) ln))
  | 0, i, f, h => by
    have e : colJ f (ln.drop i) ln = f := by
      funext x y
      unfold colJ
      rw [List.drop_eq_nil_of_le (by omega), decide_eq_false (fun h => by cases h.1), Bool.or_false]
    rw [e]
    exact evs0 (fun k => by rw [arboristref08_join.l0, if_neg (by rw [gI_len]; omega)])
  | d + 1, i, f, h => by
    have hi : i < ln.length := by omega
    have hdr : ln.drop i = ln[i] :: ln.drop (i + 1) := List.drop_eq_getElem_cons hi
    have e : colJ f (ln.drop i) ln = colJ (rowJ f ln[i] ln) (ln.drop (i + 1)) ln := by
      funext x y
      unfold colJ rowJ
      rw [Bool.or_assoc]
      congr 1
      rw [← Bool.decide_or, decide_eq_decide, hdr, List.mem_cons]
      constructor
      · rintro ⟨h1 | h1, h2, h3⟩
        · exact .inl ⟨h1, fun e => h3 (h1.trans e.symm), h2⟩
        · exact .inr ⟨h1, h2, h3⟩
      · rintro (⟨h1, h2, h3⟩ | ⟨h1, h2, h3⟩)
        · exact ⟨.inl h1, h3, fun e => h2 (e.symm.trans h1)⟩
        · exact ⟨.inr h1, h2, h3⟩
    rw [e]
    refine evs1 (pj_l1 ln hd hl hll i hi _ ln.length 0 f (by omega) (pj_l0 ln hd hl hll d (i + 1) (rowJ f ln[i] (ln.drop 0)) (by omega))) (fun k q => ?_)
    rw [arboristref08_join.l0, if_pos (by rw [gI_len]; omega)]
    exact q
theorem pj_ev {n : Nat} (ln : List Nat) (hd : ln.Nodup) (hl : ∀ x ∈ ln, x < n) (hll : ln.length ≤ 1000) (f : Nat → Nat → Bool) : Ev (fun k => arboristref08_join.f k (mat n f) (gI ln)) (mat n (joinBd f ln)) :=
  pj_l0 ln hd hl hll ln.length 0 f (by omega)
theorem pe_l0 (n : Nat) (hn : n ≤ 1000) : ∀ (d i : Nat), i + d = n → Ev (fun k => arboristref08_Empty.l0 k (n : Int) ((List.range i).map fun _ => rowT n fun _ => false) (i : Int)) (mat n fun _ _ => false)
  | 0, i, h => by
    obtain rfl : i = n := by omega
    exact evs0 (fun k => by rw [arboristref08_Empty.l0, if_neg (by omega)]; rfl)
  | d + 1, i, h => by
    refine evs1 (pe_l0 n hn d (i + 1) (by omega)) (fun k q => ?_)
    have e : List.replicate n false = rowT n fun _ => false := by unfold rowT; rw [List.map_const', List.length_range]
    rw [arboristref08_Empty.l0, if_pos (by omega), if_pos (by omega), if_pos (by omega), if_pos (by rw [List.length_map, List.length_range]; omega), Int.toNat_natCast, e, wrap_nat i (by omega)]
    rw [List.range_succ, List.map_append] at q
    exact q
theorem joinBd_iff {f : Nat → Nat → Bool} {ln : List Nat} {x y : Nat} : joinBd f ln x y = true ↔ f x y = true ∨ ((x : Int) ∈ gI ln ∧ (y : Int) ∈ gI ln ∧ x ≠ y) := by
  unfold joinBd
  rw [Bool.or_eq_true, decide_eq_true_iff, mem_gI8, mem_gI8]
section
variable {D : List (List Int)} {H : List S69} {F : List S73}
def Beside (S : List (List Int)) (x y : Nat) : Prop := ∃ s ∈ S, (x : Int) ∈ s ∧ (y : Int) ∈ s ∧ x ≠ y
theorem beside_cons {s : List Int} {S : List (List Int)} {x y : Nat} : Beside (s :: S) x y ↔ ((x : Int) ∈ s ∧ (y : Int) ∈ s ∧ x ≠ y) ∨ Beside S x y := by
  unfold Beside
  constructor
  · rintro ⟨t, ht, h⟩
    rcases List.mem_cons.1 ht with rfl | ht
    · exact .inl h
    · exact .inr ⟨t, ht, h⟩
  · rintro (h | ⟨t, ht, h⟩)
    · exact ⟨s, List.mem_cons_self, h⟩
    · exact ⟨t, List.mem_cons_of_mem _ ht, h⟩
theorem pm_l1 {n : Nat} (hF : F.length ≤ 200) (hs : ∀ s ∈ F, ScopeOk n s.f0) : ∀ (d i : Nat) (f : Nat → Nat → Bool), i + d = F.length → Sy n f → ∃ G, Sy n G ∧ Ev (fun k => arboristref08_Primal.l1 k (mat n f) (i : Int) D H F) (mat n G) ∧ ∀ x y, G x y = true ↔ f x y = true ∨ Beside ((F.drop i).map fun s => s.f0) x y
  | 0, i, f, h, hf => by
    refine ⟨f, hf, evs0 (fun k => by rw [arboristref08_Primal.l1, if_neg (by omega)]), fun x y => ?_⟩
    rw [List.drop_eq_nil_of_le (by omega)]
    exact ⟨.inl, fun h => h.resolve_right (fun ⟨_, h, _⟩ => by cases h)⟩
  | d + 1, i, f, h, hf => by
    have hi : i < F.length := by omega
    obtain ⟨ln, e, h1, h2, h3, h4⟩ := scope_nat (hs _ (List.getElem_mem hi))
    obtain ⟨G, g1, g2, g3⟩ := pm_l1 hF hs d (i + 1) (joinBd f ln) (by omega) (joinBd_sy hf h2)
    refine ⟨G, g1, evs2 (pj_ev ln h1 h2 (by omega) f) g2 (fun k q1 q2 => ?_), fun x y => ?_⟩
    · rw [arboristref08_Primal.l1, if_pos (by omega), if_pos (by omega), rdF_at i hi, e, q1, Option.bind_some, wrap_nat i (by omega)]
      exact q2
    · rw [g3, joinBd_iff, List.drop_eq_getElem_cons hi, List.map_cons, beside_cons, e, or_assoc]
theorem pm_l0 {n : Nat} (hH : H.length ≤ 200) (hF : F.length ≤ 200) (hc : ∀ c ∈ H, ScopeOk n c.f1) (hs : ∀ s ∈ F, ScopeOk n s.f0) : ∀ (d i : Nat) (f : Nat → Nat → Bool), i + d = H.length → Sy n f → ∃ G, Sy n G ∧ Ev (fun k => arboristref08_Primal.l0 k (mat n f) (i : Int) D H F) (mat n G) ∧ ∀ x y, G x y = true ↔ f x y = true ∨ Beside (((H.drop i).map fun c => c.f1) ++ F.map fun s => s.f0) x y
  | 0, i, f, h, hf => by
    obtain ⟨G, g1, g2, g3⟩ := pm_l1 (D := D) (H := H) hF hs F.length 0 f (by omega) hf
    refine ⟨G, g1, evs1 g2 (fun k q => by rw [arboristref08_Primal.l0, if_neg (by omega)]; exact q), fun x y => ?_⟩
    rw [g3, List.drop_eq_nil_of_le (show H.length ≤ i by omega), List.map_nil, List.nil_append, List.drop_zero]
  | d + 1, i, f, h, hf => by
    have hi : i < H.length := by omega
    obtain ⟨ln, e, h1, h2, h3, h4⟩ := scope_nat (hc _ (List.getElem_mem hi))
    obtain ⟨G, g1, g2, g3⟩ := pm_l0 hH hF hc hs d (i + 1) (joinBd f ln) (by omega) (joinBd_sy hf h2)
    refine ⟨G, g1, evs2 (pj_ev ln h1 h2 (by omega) f) g2 (fun k q1 q2 => ?_), fun x y => ?_⟩
    · rw [arboristref08_Primal.l0, if_pos (by omega), if_pos (by omega), rdH_at i hi, e, q1, Option.bind_some, wrap_nat i (by omega)]
      exact q2
    · rw [g3, joinBd_iff, List.drop_eq_getElem_cons hi, List.map_cons, List.cons_append, beside_cons, e, or_assoc]
def scopesX (H : List S69) (F : List S73) : List (List Int) := (H.map fun c => c.f1) ++ F.map fun s => s.f0
theorem primal_ev (R : RightX D H F) : ∃ G, Sy D.length G ∧ Ev (fun k => arboristref08_Primal.f k D H F) (mat D.length G) ∧ ∀ x y, G x y = true ↔ Beside (scopesX H F) x y := by
  obtain ⟨G, g1, g2, g3⟩ := pm_l0 (D := D) R.small.2.1 R.small.2.2 (fun c hc => (R.hard c hc).1) (fun s hs => (R.soft s hs).1) H.length 0 (fun _ _ => false) (by omega) (Sy.no D.length)
  refine ⟨G, g1, evu2 (pe_l0 D.length (by have := R.small.1; omega) D.length 0 (by omega)) g2 (fun k q1 q2 => ?_), fun x y => ?_⟩
  · rw [arboristref08_Primal.f, arboristref08_Empty.f]
    rw [show (arboristref08_Empty.l0 k (D.length : Int) [] 0) = some (mat D.length fun _ _ => false) from q1, Option.bind_some]
    exact q2
  · rw [g3, List.drop_zero]
    exact ⟨fun h => h.resolve_left (fun h => by cases h), .inr⟩
end
section
variable {D : List (List Int)} {H : List S69} {F : List S73}
theorem sc_l1 (hF : F.length ≤ 200) (hl : ∀ s ∈ F, s.f0.length ≤ 6) : ∀ (d i : Nat) (out : List (List Int)), i + d = F.length → out.length ≤ 200 + i → Ev (fun k => place_Scopes.l1 k out F (F.length : Int) (i : Int)) (out ++ (F.drop i).map fun s => s.f0)
  | 0, i, out, h, ho => by
    rw [List.drop_eq_nil_of_le (by omega), List.map_nil, List.append_nil]
    exact evs0 (fun k => by rw [place_Scopes.l1, if_neg (by omega)])
  | d + 1, i, out, h, ho => by
    have hi : i < F.length := by omega
    have hs := hl _ (List.getElem_mem hi)
    have ih := sc_l1 hF hl d (i + 1) (out ++ [F[i].f0]) (by omega) (by rw [List.length_append, List.length_singleton]; omega)
    rw [List.drop_eq_getElem_cons hi, List.map_cons, ← List.append_cons] at *
    refine evs1 ih (fun k q => ?_)
    rw [place_Scopes.l1, if_pos (by omega), if_pos (by omega), if_pos (by omega), rdF_at i hi, slices_Clone_int_int.f, if_pos (by omega), Option.bind_some, if_pos (by omega), wrap_nat i (by omega)]
    exact q
theorem sc_l0 (hH : H.length ≤ 200) (hF : F.length ≤ 200) (hc : ∀ c ∈ H, c.f1.length ≤ 6) (hl : ∀ s ∈ F, s.f0.length ≤ 6) : ∀ (d i : Nat) (out : List (List Int)), i + d = H.length → out.length ≤ i → Ev (fun k => place_Scopes.l0 k out H (H.length : Int) (i : Int) D H F) (out ++ (((H.drop i).map fun c => c.f1) ++ F.map fun s => s.f0))
  | 0, i, out, h, ho => by
    rw [List.drop_eq_nil_of_le (by omega), List.map_nil, List.nil_append]
    refine evs1 (sc_l1 hF hl F.length 0 out (by omega) (by omega)) (fun k q => ?_)
    rw [place_Scopes.l0, if_neg (by omega)]
    exact q
  | d + 1, i, out, h, ho => by
    have hi : i < H.length := by omega
    have hs := hc _ (List.getElem_mem hi)
    have ih := sc_l0 hH hF hc hl d (i + 1) (out ++ [H[i].f1]) (by omega) (by rw [List.length_append, List.length_singleton]; omega)
    rw [List.drop_eq_getElem_cons hi, List.map_cons, List.cons_append, ← List.append_cons] at *
    refine evs1 ih (fun k q => ?_)
    rw [place_Scopes.l0, if_pos (by omega), if_pos (by omega), if_pos (by omega), rdH_at i hi, slices_Clone_int_int.f, if_pos (by omega), Option.bind_some, if_pos (by omega), wrap_nat i (by omega)]
    exact q
theorem rs_l1 (hF : F.length ≤ 200) : ∀ (d i : Nat) (out : List (List Int)), i + d = F.length → out.length ≤ 200 + i → Ev (fun k => arboristref12_Scopes.l1 k out (i : Int) D H F) (out ++ (F.drop i).map fun s => s.f0)
  | 0, i, out, h, ho => by
    rw [List.drop_eq_nil_of_le (by omega), List.map_nil, List.append_nil]
    exact evs0 (fun k => by rw [arboristref12_Scopes.l1, if_neg (by omega)])
  | d + 1, i, out, h, ho => by
    have hi : i < F.length := by omega
    have ih := rs_l1 hF d (i + 1) (out ++ [F[i].f0]) (by omega) (by rw [List.length_append, List.length_singleton]; omega)
    rw [List.drop_eq_getElem_cons hi, List.map_cons, ← List.append_cons] at *
    refine evs1 ih (fun k q => ?_)
    rw [arboristref12_Scopes.l1, if_pos (by omega), if_pos (by omega), if_pos (by omega), rdF_at i hi, wrap_nat i (by omega)]
    exact q
theorem rs_l0 (hH : H.length ≤ 200) (hF : F.length ≤ 200) : ∀ (d i : Nat) (out : List (List Int)), i + d = H.length → out.length ≤ i → Ev (fun k => arboristref12_Scopes.l0 k out (i : Int) D H F) (out ++ (((H.drop i).map fun c => c.f1) ++ F.map fun s => s.f0))
  | 0, i, out, h, ho => by
    rw [List.drop_eq_nil_of_le (by omega), List.map_nil, List.nil_append]
    refine evs1 (rs_l1 (D := D) (H := H) hF F.length 0 out (by omega) (by omega)) (fun k q => ?_)
    rw [arboristref12_Scopes.l0, if_neg (by omega)]
    exact q
  | d + 1, i, out, h, ho => by
    have hi : i < H.length := by omega
    have ih := rs_l0 hH hF d (i + 1) (out ++ [H[i].f1]) (by omega) (by rw [List.length_append, List.length_singleton]; omega)
    rw [List.drop_eq_getElem_cons hi, List.map_cons, List.cons_append, ← List.append_cons] at *
    refine evs1 ih (fun k q => ?_)
    rw [arboristref12_Scopes.l0, if_pos (by omega), if_pos (by omega), if_pos (by omega), rdH_at i hi, wrap_nat i (by omega)]
    exact q
theorem few_any (a : Int) : ∀ (d i : Nat) (x : Int), i + d = D.length → i ≤ 40 → D.length ≤ 40 → ∃ b, Ev (fun k => arboristref07_Few.l0 k a x (i : Int) D H F) b
  | 0, i, x, h, h1, h2 => ⟨true, evs0 (fun k => by rw [arboristref07_Few.l0, if_neg (by omega)])⟩
  | d + 1, i, x, h, h1, h2 => by
    by_cases c : wrap64 (x * ((rd_L1 D (i : Int)).length : Int)) > a
    · exact ⟨false, evs0 (fun k => by rw [arboristref07_Few.l0, if_pos (by omega), if_pos (by omega), if_pos c])⟩
    · obtain ⟨b, hb⟩ := few_any a d (i + 1) (wrap64 (x * ((rd_L1 D (i : Int)).length : Int))) (by omega) (by omega) h2
      refine ⟨b, evs1 hb (fun k q => ?_)⟩
      rw [arboristref07_Few.l0, if_pos (by omega), if_pos (by omega), if_neg c, wrap_nat i (by omega)]
      exact q
theorem few_t (L : LensX D H F) : Tells (fun k => arboristlaw13_few.f k D H F) (RightX D H F) := by
  obtain ⟨b, hb, hr⟩ := right_t L
  cases b with
  | false => exact ⟨false, evu1 hb (fun k q => by rw [arboristlaw13_few.f, q]; rfl), fun e => by cases e⟩
  | true =>
    have R := hr rfl
    obtain ⟨c, hc⟩ := few_any (H := H) (F := F) 1000 D.length 0 1 (by omega) (by omega) R.small.1
    refine ⟨c, evu2 hb hc (fun k q1 q2 => ?_), fun _ => R⟩
    rw [arboristlaw13_few.f, q1, Option.bind_some, if_pos rfl, arboristref07_Few.f]
    rw [show arboristref07_Few.l0 k 1000 1 0 D H F = some c from q2]
    rfl
theorem idx_found {α : Type} (p : α → Bool) : ∀ (l : List α) (i : Int), (∃ b ∈ l, p b = true) → ∃ (j : Nat) (h : j < l.length), idxOf p l i = i + (j : Int) ∧ p l[j] = true
  | [], i, ⟨b, hb, _⟩ => by cases hb
  | a :: l, i, ⟨b, hb, e⟩ => by
    unfold idxOf
    by_cases c : p a = true
    · exact ⟨0, by simp, by rw [if_pos c]; omega, c⟩
    · rcases List.mem_cons.1 hb with rfl | hb
      · exact absurd e c
      · obtain ⟨j, h1, h2, h3⟩ := idx_found p l (i + 1) ⟨b, hb, e⟩
        exact ⟨j + 1, by rw [List.length_cons]; omega, by rw [if_neg c, h2]; omega, by rw [List.getElem_cons_succ]; exact h3⟩
theorem placeL_ok (B : List (List Int)) : ∀ (S : List (List Int)) (out : List Int), (∀ s ∈ S, ∃ b ∈ B, withinB s b = true) → placeL B S out = (out ++ S.map fun s => idxOf (withinB s) B 0, 0)
  | [], out, _ => by simp [placeL]
  | s :: S, out, h => by
    obtain ⟨j, h1, h2, _⟩ := idx_found (withinB s) B 0 (h s List.mem_cons_self)
    unfold placeL
    rw [if_neg (by omega), placeL_ok B S _ (fun t ht => h t (List.mem_cons_of_mem _ ht)), List.map_cons, ← List.append_cons]
theorem ps_l1 (B S : List (List Int)) (par : List Int) (hS : S.length ≤ 400) (hB : B.length ≤ 1000) (hbl : ∀ b ∈ B, b.length ≤ 1000) (hsl : ∀ s ∈ S, s.length ≤ 6) (hrB : ∀ b ∈ B, b.Pairwise (· < ·)) (hrS : ∀ s ∈ S, s.Pairwise (· < ·)) (hw : ∀ s ∈ S, ∃ b ∈ B, withinB s b = true) : ∀ (d i : Nat), i + d = S.length → Ev (fun k => arboristlaw13_PlaceScopes.l1 k true S (S.map fun s => idxOf (withinB s) B 0) (i : Int) B par) true
  | 0, i, h => evs0 (fun k => by rw [arboristlaw13_PlaceScopes.l1, if_neg (by rw [List.length_map]; omega)])
  | d + 1, i, h => by
    have hi : i < S.length := by omega
    have hm := List.getElem_mem hi
    obtain ⟨j, h1, h2, h3⟩ := idx_found (withinB S[i]) B 0 (hw _ hm)
    have hj := List.getElem_mem h1
    have e : rd (S.map fun s => idxOf (withinB s) B 0) (i : Int) = (j : Int) := by
      rw [rd_nat _ i _ (by rw [List.getElem?_map, List.getElem?_eq_getElem hi, Option.map_some]), h2]; omega
    have hwi := Within_ev S[i] B[j] (by have := hsl _ hm; omega) (by have := hbl _ hj; omega)
    rw [← within_eq (hrS _ hm) (hrB _ hj), h3] at hwi
    have ih := ps_l1 B S par hS hB hbl hsl hrB hrS hw d (i + 1) (by omega)
    have hj3 : Ev (fun k => arboristlaw13_PlaceScopes.j3 k true S (S.map fun s => idxOf (withinB s) B 0) (i : Int) false B par) true := evs2 hwi ih (fun k q1 q2 => by
      rw [arboristlaw13_PlaceScopes.j3, if_neg (fun h => Bool.noConfusion h), if_pos (by omega), if_pos (by omega), if_pos (by rw [List.length_map]; omega), e, if_pos (by omega), if_pos (by omega), rdI_at6 S i hi, rdI_at6 B j h1, q1, Option.bind_some, if_pos rfl, wrap_nat i (by omega)]
      exact q2)
    refine evs1 hj3 (fun k q => ?_)
    rw [arboristlaw13_PlaceScopes.l1, if_pos (by rw [List.length_map]; omega), if_pos (by omega), e, if_neg (by omega), decide_eq_false (by omega)]
    exact q
theorem ps_l0 (l : List Int) (S : List (List Int)) (hS : S.length ≤ 400) (hsl : ∀ s ∈ S, s.length ≤ 6) (hend : Ev (fun k => arboristlaw13_PlaceScopes.l0 k l true S S (S.length : Int) D H F) true) : ∀ (d i : Nat), i + d = S.length → Ev (fun k => arboristlaw13_PlaceScopes.l0 k l true S S (i : Int) D H F) true
  | 0, i, h => by
    obtain rfl : i = S.length := by omega
    exact hend
  | d + 1, i, h => by
    have hi : i < S.length := by omega
    have hs := hsl _ (List.getElem_mem hi)
    have hc := Compare_ev S[i] S[i] (by omega) (by omega)
    rw [cmpL_self] at hc
    refine evs2 hc (ps_l0 l S hS hsl hend d (i + 1) (by omega)) (fun k q1 q2 => ?_)
    rw [arboristlaw13_PlaceScopes.l0, if_pos (by omega), if_pos (by omega), if_pos (by omega), rdI_at6 S i hi, q1, Option.bind_some, if_pos rfl, wrap_nat i (by omega)]
    exact q2
theorem scopes_len (R : RightX D H F) : (scopesX H F).length ≤ 400 ∧ ∀ s ∈ scopesX H F, ScopeOk D.length s := by
  refine ⟨?_, fun s hs => ?_⟩
  · unfold scopesX
    rw [List.length_append, List.length_map, List.length_map]
    have := R.small
    omega
  · rcases List.mem_append.1 hs with h | h
    · obtain ⟨c, hc, rfl⟩ := List.mem_map.1 h
      exact (R.hard c hc).1
    · obtain ⟨c, hc, rfl⟩ := List.mem_map.1 h
      exact (R.soft c hc).1
end
theorem PlaceScopes : arboristlaw13_PlaceScopes.Pure := by
  intro D H F l hD hH hF hl
  have L : LensX D H F := by
    unfold maxLen at hD hH hF
    refine ⟨fun x hx => by have := (hD.2 x hx).1; omega, fun c hc => ?_, fun s hs => ?_⟩
    · obtain ⟨_, h1, h2, h3⟩ := hH.2 c hc
      exact ⟨by omega, by omega, fun x hx => by have := (h2.2 x hx).1; omega⟩
    · obtain ⟨h1, h2, h3, h4⟩ := hF.2 s hs
      exact ⟨by omega, by omega, fun x hx => by have := (h2.2 x hx).1; omega, by omega⟩
  obtain ⟨b, hb, hr⟩ := few_t L
  cases b with
  | false =>
    refine (evu2 shown_9 hb (fun k q1 q2 => ?_)).rounds
    unfold arboristlaw13_PlaceScopes.f
    rw [q1, Option.bind_some, q2, Option.bind_some, if_neg (fun h => Bool.noConfusion h)]
  | true =>
    have R := hr rfl
    obtain ⟨hSl, hSo⟩ := scopes_len R
    have hn : D.length ≤ 40 := R.small.1
    obtain ⟨o, hop, hoe⟩ := given_ev D.length (by omega) l
    obtain ⟨ln, rfl, hd, hln⟩ := toN_of hop
    obtain ⟨G, hG, hpe, hGi⟩ := primal_ev R
    have hbe := rbuild_ev hn hG hop hd hln
    have hlen := fillB_len (n := D.length) ln G allL
    have hg : ln.length = D.length := by have := hop.length_eq; rw [gI_len, idI_len] at this; exact this
    have hcl := fillB_cliq (n := D.length) ln G allL hG
    have hri := fillB_rise (n := D.length) ln G allL
    have hol := own_len (fillB D.length ln G allL).1 []
    have hos := ownL_sub (fillB D.length ln G allL).1 []
    have hcov := own_cover (ownL [] (fillB D.length ln G allL).1) (fillB D.length ln G allL).1 [] hri (fun b hb => by cases hb) (fun b hb => by cases hb) (fun c hc => hc)
    have hcb := fun C => clique_bag (n := D.length) ln G allL C hG (fun x hx => ⟨fun _ => in_of hop x hx, fun _ => rfl⟩) hln hd
    generalize (fillB D.length ln G allL).1 = B0 at *
    generalize ownL [] B0 = B at *
    have hS : Ev (fun k => place_Scopes.f k D H F) (scopesX H F) := sc_l0 R.small.2.1 R.small.2.2 (fun c hc => (R.hard c hc).1.2.1) (fun s hs => (R.soft s hs).1.2.1) H.length 0 [] (by omega) (by simp)
    have hT : Ev (fun k => arboristref12_Scopes.f k D H F) (scopesX H F) := rs_l0 R.small.2.1 R.small.2.2 H.length 0 [] (by omega) (by simp)
    have hw : ∀ s ∈ scopesX H F, ∃ b ∈ B, withinB s b = true := fun s hs => by
      obtain ⟨sn, rfl, s1, s2, s3, s4⟩ := scope_nat (hSo s hs)
      have hrs := (hSo _ hs).2.2.1
      obtain ⟨b, hb, hx⟩ := hcb sn (by
        cases sn with
        | nil => simp at s3
        | cons x t => exact ⟨x, List.mem_cons_self⟩) (fun x hx => in_of hop x (s2 x hx)) (fun x hx y hy e => (hGi x y).2 ⟨_, hs, mem_gI8.2 hx, mem_gI8.2 hy, e⟩)
      obtain ⟨c, hc, hy⟩ := hcov b hb
      refine ⟨c, hc, (within_iff hrs (hri c (hos c hc))).2 (fun x hx' => ?_)⟩
      obtain ⟨m, hm, rfl⟩ := List.mem_map.1 (show x ∈ sn.map fun (x : Nat) => (x : Int) from hx')
      exact hy _ (hx m hm)
    have hBl : B.length ≤ 1000 := by omega
    have hbl : ∀ b ∈ B, b.length ≤ 1000 := fun b hb => by have := (hcl b (hos b hb)).2; omega
    have hend := ps_l1 B (scopesX H F) (primL B) hSl hBl hbl (fun s hs => (hSo s hs).2.1) (fun b hb => hri b (hos b hb)) (fun s hs => (hSo s hs).2.2.1) hw (scopesX H F).length 0 (by omega)
    have hpp : place_Place.f B (primL B) (scopesX H F) = some ((scopesX H F).map fun s => idxOf (withinB s) B 0, 0) := by
      unfold place_Place.f
      rw [if_pos ⟨fun s hs b hb => by have h1 := (hSo s hs).2.1; have h2 := hbl b hb; omega, by omega⟩, placeL_ok B _ _ hw, List.nil_append]
    have hj1 : Ev (fun k => arboristlaw13_PlaceScopes.j1 k true (scopesX H F) ((scopesX H F).map fun s => idxOf (withinB s) B 0) false B (primL B)) true := evs1 hend (fun k q => by
      rw [arboristlaw13_PlaceScopes.j1, if_neg (fun h => Bool.noConfusion h)]
      exact q)
    have hl0 : Ev (fun k => arboristlaw13_PlaceScopes.l0 k l true (scopesX H F) (scopesX H F) ((scopesX H F).length : Int) D H F) true := evs4 hoe hpe hbe hj1 (fun k q1 q2 q3 q4 => by
      rw [arboristlaw13_PlaceScopes.l0, if_neg (by omega), q1, Option.bind_some, arboristlaw13_tree.f, q2, Option.bind_some, q3, Option.bind_some, Option.bind_some, hpp, Option.bind_some, if_pos rfl]
      have e : ((((scopesX H F).map fun s => idxOf (withinB s) B 0).length : Int) != ((scopesX H F).length : Int)) = false := by rw [List.length_map]; simp
      show arboristlaw13_PlaceScopes.j1 k true (scopesX H F) ((scopesX H F).map fun s => idxOf (withinB s) B 0) ((((scopesX H F).map fun s => idxOf (withinB s) B 0).length : Int) != ((scopesX H F).length : Int)) B (primL B) = some true
      rw [e]
      exact q4)
    have hfin := ps_l0 l (scopesX H F) hSl (fun s hs => (hSo s hs).2.1) hl0 (scopesX H F).length 0 (by omega)
    refine (evu5 shown_9 hb hS hT hfin (fun k q1 q2 q3 q4 q5 => ?_)).rounds
    unfold arboristlaw13_PlaceScopes.f
    rw [q1, Option.bind_some, q2, Option.bind_some, if_pos rfl, q3, Option.bind_some, q4, Option.bind_some, if_pos rfl]
    exact q5
end Go.Proofs.Ytpmfdggbccbfaaa.Pure
