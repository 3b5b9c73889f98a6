/- ValidChain: bags in a row, each of the next two points, are a decomposition; not, if one of them is elsewhere: for every three numbers (reduced to 3 to 20 points, and two places). No condition. -/
-- merge
import Derived.Test.YtpmfdggbccbfaaaPr0
import Derived.Test.YtpmfdggbccbfaaaPr1
import Derived.Test.YtpmfdggbccbfaaaPr10
import Derived.Test.YtpmfdggbccbfaaaPr11
import Derived.Test.YtpmfdggbccbfaaaPr12
import Derived.Test.YtpmfdggbccbfaaaPr13
import Derived.Test.YtpmfdggbccbfaaaPr14
import Derived.Test.YtpmfdggbccbfaaaPr15
import Derived.Test.YtpmfdggbccbfaaaPr17
import Derived.Test.YtpmfdggbccbfaaaPr18
import Derived.Test.YtpmfdggbccbfaaaPr2
import Derived.Test.YtpmfdggbccbfaaaPr24
import Derived.Test.YtpmfdggbccbfaaaPr39
import Derived.Test.YtpmfdggbccbfaaaPr42
set_option linter.unusedVariables false
namespace Go.Proofs.Ytpmfdggbccbfaaa.Pr
open Go.RowKit Go.Proofs.YtpmfdggbccbfaaaW.PrintWords Go.Proofs.YtpmfdggbccbfaaaW.PrintLast

theorem drop_at (l : List Int) (i : Nat) (h : i < l.length) : l.drop i = rd l (i : Int) :: l.drop (i + 1) := by
  rw [List.drop_eq_getElem_cons h, rd_nat l i _ (List.getElem?_eq_getElem h)]
theorem wrap_nat (i : Nat) (h : i < 9223372036854775807) : wrap64 ((i : Int) + 1) = ((i + 1 : Nat) : Int) := by rw [wrap_succ (by omega) (by omega)]; rfl
def inB (l : List Int) (v : Int) : Bool := l.any (fun x => x == v)
theorem In_loop (l : List Int) (hl : l.length ≤ 9223372036854775807) (v : Int) : ∀ d i : Nat, l.length = i + d → Ev (fun k => arboristref01_In.l0 k l v (i : Int)) (inB (l.drop i) v) := by
  intro d
  induction d with
  | zero =>
    intro i h
    refine Ev.step (f := fun _ => some (inB (l.drop i) v)) (fun k => ?_) (Ev.now _)
    simp only [arboristref01_In.l0]
    rw [if_neg (by omega), List.drop_eq_nil_of_le (by omega)]
    rfl
  | succ d ih =>
    intro i h
    have hi : i < l.length := by omega
    by_cases e : rd l (i : Int) = v
    · refine Ev.step (f := fun _ => some (inB (l.drop i) v)) (fun k => ?_) (Ev.now _)
      simp only [arboristref01_In.l0]
      rw [if_pos (by omega), if_pos (by omega), if_pos e, drop_at l i hi]
      simp [inB, e]
    · refine Ev.step (f := fun k => arboristref01_In.l0 k l v ((i + 1 : Nat) : Int)) (fun k => ?_) ?_
      · simp only [arboristref01_In.l0]
        rw [if_pos (by omega), if_pos (by omega), if_neg e, wrap_nat i (by omega)]
      · have := ih (i + 1) (by omega)
        rw [drop_at l i hi]
        have e2 : (rd l (i : Int) == v) = false := by simpa using e
        simpa [inB, e2] using this
theorem In_ev (l : List Int) (hl : l.length ≤ 9223372036854775807) (v : Int) : Ev (fun k => arboristref01_In.f k l v) (inB l v) := by
  have := In_loop l hl v l.length 0 (by omega)
  simpa [arboristref01_In.f] using this
def withoutL (a b : List Int) : List Int := a.filter (fun x => !inB b x)
def meetL (a b : List Int) : List Int := a.filter (fun x => inB b x)
theorem Without_loop (a b : List Int) (ha : a.length < 17592186044416) (hb : b.length ≤ 9223372036854775807) : ∀ (d i : Nat) (out : List Int), a.length = i + d → out.length ≤ i → Ev (fun k => arboristref01_Without.l0 k a b out (i : Int)) (out ++ withoutL (a.drop i) b) := by
  intro d
  induction d with
  | zero =>
    intro i out h ho
    refine Ev.step (f := fun _ => some (out ++ withoutL (a.drop i) b)) (fun k => ?_) (Ev.now _)
    simp only [arboristref01_Without.l0]
    rw [if_neg (by omega), List.drop_eq_nil_of_le (by omega)]
    simp [withoutL]
  | succ d ih =>
    intro i out h ho
    have hi : i < a.length := by omega
    refine Ev.step (f := fun k => (arboristref01_In.f k b (rd a (i : Int))).bind fun t => if t = true then arboristref01_Without.l0 k a b out ((i + 1 : Nat) : Int) else if out.length < 17592186044416 then arboristref01_Without.l0 k a b (out ++ [rd a (i : Int)]) ((i + 1 : Nat) : Int) else none) (fun k => ?_) ?_
    · simp only [arboristref01_Without.l0]
      rw [if_pos (by omega), if_pos (by omega), wrap_nat i (by omega)]
    · refine Ev.bind (In_ev b hb _) ?_
      rw [drop_at a i hi]
      cases hc : inB b (rd a (i : Int)) with
      | true =>
        have := ih (i + 1) out (by omega) (by omega)
        simpa [withoutL, hc] using this
      | false =>
        have := ih (i + 1) (out ++ [rd a (i : Int)]) (by omega) (by simp; omega)
        have hlt : out.length < 17592186044416 := by omega
        simpa [withoutL, hc, hlt] using this
theorem Without_ev (a b : List Int) (ha : a.length < 17592186044416) (hb : b.length ≤ 9223372036854775807) : Ev (fun k => arboristref01_Without.f k a b) (withoutL a b) := by
  have := Without_loop a b ha hb a.length 0 [] (by omega) (by simp)
  simpa [arboristref01_Without.f] using this
def withinR (a b : List Int) : Bool := ((withoutL a b).length : Int) == 0
theorem Within_ev (a b : List Int) (ha : a.length < 17592186044416) (hb : b.length ≤ 9223372036854775807) : Ev (fun k => arboristref01_Within.f k a b) (withinR a b) := by
  refine Ev.congr (f := fun k => (arboristref01_Without.f k a b).bind fun t => some ((t.length : Int) == 0)) (fun k => rfl) ?_
  exact Ev.bind (f := fun _ (t : List Int) => some ((t.length : Int) == 0)) (Without_ev a b ha hb) (Ev.now _)
theorem withinR_iff (a b : List Int) : withinR a b = true ↔ ∀ x ∈ a, x ∈ b := by
  unfold withinR withoutL
  simp only [beq_iff_eq]
  constructor
  · intro h x hx
    have h2 : (a.filter (fun x => !inB b x)) = [] := List.eq_nil_of_length_eq_zero (by omega)
    have := List.filter_eq_nil_iff.1 h2 x hx
    simp [inB] at this
    exact this
  · intro h
    have : (a.filter (fun x => !inB b x)) = [] := List.filter_eq_nil_iff.2 (fun x hx => by simp [inB]; exact h x hx)
    simp [this]
def cmpL : List Int → List Int → Int
  | [], [] => 0
  | [], _ :: _ => -1
  | _ :: _, [] => 1
  | a :: l, b :: m => if a < b then -1 else if b < a then 1 else cmpL l m
theorem Compare_loop (a b : List Int) (ha : a.length ≤ 9223372036854775807) (hb : b.length ≤ 9223372036854775807) : ∀ (d i : Nat), a.length = i + d → i ≤ b.length → a.take i = b.take i → Ev (fun k => arboristref01_Compare.l0 k a b (i : Int)) (cmpL (a.drop i) (b.drop i)) := by
  intro d
  induction d with
  | zero =>
    intro i h hb2 he
    refine Ev.step (f := fun k => arboristref01_Compare.j1 k a b (i : Int) false) (fun k => ?_) ?_
    · simp only [arboristref01_Compare.l0]; rw [if_neg (by omega)]
    · refine Ev.step (f := fun _ => some (cmpL (a.drop i) (b.drop i))) (fun k => ?_) (Ev.now _)
      simp only [arboristref01_Compare.j1]
      rw [if_neg (by simp), List.drop_eq_nil_of_le (by omega)]
      by_cases hlt : i < b.length
      · rw [if_pos (by omega), drop_at b i hlt]; rfl
      · rw [if_neg (by omega), if_neg (by omega), List.drop_eq_nil_of_le (by omega)]; rfl
  | succ d ih =>
    intro i h hb2 he
    have hi : i < a.length := by omega
    by_cases hlt : i < b.length
    · refine Ev.step (f := fun k => arboristref01_Compare.j1 k a b (i : Int) true) (fun k => ?_) ?_
      · simp only [arboristref01_Compare.l0]; rw [if_pos (by omega), show decide ((i : Int) < (b.length : Int)) = true from decide_eq_true (by omega)]
      · rw [drop_at a i hi, drop_at b i hlt]
        by_cases h1 : rd a (i : Int) < rd b (i : Int)
        · refine Ev.step (f := fun _ => some (-1)) (fun k => ?_) (by simp only [cmpL, if_pos h1]; exact Ev.now _)
          simp only [arboristref01_Compare.j1]
          rw [if_pos trivial, if_pos (by omega), if_pos (by omega), if_pos (by omega), if_pos h1]
        · by_cases h2 : rd b (i : Int) < rd a (i : Int)
          · refine Ev.step (f := fun _ => some 1) (fun k => ?_) (by simp only [cmpL, if_neg h1, if_pos h2]; exact Ev.now _)
            simp only [arboristref01_Compare.j1]
            rw [if_pos trivial, if_pos (by omega), if_pos (by omega), if_pos (by omega), if_neg h1, if_pos h2]
          · refine Ev.step (f := fun k => arboristref01_Compare.l0 k a b ((i + 1 : Nat) : Int)) (fun k => ?_) ?_
            · simp only [arboristref01_Compare.j1]
              rw [if_pos trivial, if_pos (by omega), if_pos (by omega), if_pos (by omega), if_neg h1, if_neg (by omega), wrap_nat i (by omega)]
            · simp only [cmpL, if_neg h1, if_neg h2]
              refine ih (i + 1) (by omega) (by omega) ?_
              have e1 := rd_nat a i _ (List.getElem?_eq_getElem hi)
              have e2 := rd_nat b i _ (List.getElem?_eq_getElem hlt)
              rw [List.take_succ_eq_append_getElem hi, List.take_succ_eq_append_getElem hlt, he]
              have : a[i] = b[i] := by omega
              rw [this]
    · refine Ev.step (f := fun k => arboristref01_Compare.j1 k a b (i : Int) false) (fun k => ?_) ?_
      · simp only [arboristref01_Compare.l0]; rw [if_pos (by omega), show decide ((i : Int) < (b.length : Int)) = false from decide_eq_false (by omega)]
      · refine Ev.step (f := fun _ => some (cmpL (a.drop i) (b.drop i))) (fun k => ?_) (Ev.now _)
        simp only [arboristref01_Compare.j1]
        rw [if_neg (by simp), if_neg (by omega), if_pos (by omega), drop_at a i hi, show b.drop i = [] from List.drop_eq_nil_of_le (by omega)]
        rfl
theorem Compare_ev (a b : List Int) (ha : a.length ≤ 9223372036854775807) (hb : b.length ≤ 9223372036854775807) : Ev (fun k => arboristref01_Compare.f k a b) (cmpL a b) := by
  have := Compare_loop a b ha hb a.length 0 (by omega) (by omega) rfl
  simpa [arboristref01_Compare.f] using this
def uniteL : List Int → List Int → List Int
  | [], r => r
  | a :: l, [] => a :: l
  | a :: l, m :: r => if a < m then a :: uniteL l (m :: r) else m :: uniteL (a :: l) r
termination_by a b => a.length + b.length
theorem uniteL_nil (a : List Int) : uniteL a [] = a := by cases a <;> simp [uniteL]
theorem Unite_loop (a m : List Int) (hl : a.length + m.length < 17592186044416) : ∀ (d i j : Nat) (out : List Int), a.length + m.length = i + j + d → i ≤ a.length → j ≤ m.length → out.length ≤ i + j → Ev (fun k => arboristref01_Unite.l0 k a out m (i : Int) (j : Int)) (out ++ uniteL (a.drop i) (m.drop j)) := by
  intro d
  induction d with
  | zero =>
    intro i j out h hi hj ho
    refine Ev.step (f := fun k => arboristref01_Unite.j1 k a out m (i : Int) (j : Int) false) (fun k => ?_) ?_
    · simp only [arboristref01_Unite.l0]
      rw [if_neg (by omega), show decide ((j : Int) < (m.length : Int)) = false from decide_eq_false (by omega)]
    · refine Ev.step (f := fun _ => some (out ++ uniteL (a.drop i) (m.drop j))) (fun k => ?_) (Ev.now _)
      simp only [arboristref01_Unite.j1]
      rw [if_neg (by simp), show a.drop i = [] from List.drop_eq_nil_of_le (by omega), show m.drop j = [] from List.drop_eq_nil_of_le (by omega)]
      simp [uniteL]
  | succ d ih =>
    intro i j out h hi hj ho
    refine Ev.step (f := fun k => arboristref01_Unite.j1 k a out m (i : Int) (j : Int) true) (fun k => ?_) ?_
    · simp only [arboristref01_Unite.l0]
      by_cases h1 : i < a.length
      · rw [if_pos (by omega)]
      · rw [if_neg (by omega), show decide ((j : Int) < (m.length : Int)) = true from decide_eq_true (by omega)]
    · have hlt : out.length < 17592186044416 := by omega
      have left : i < a.length → (j = m.length ∨ (j < m.length ∧ rd a (i : Int) < rd m (j : Int))) → Ev (fun k => arboristref01_Unite.l0 k a (out ++ [rd a (i : Int)]) m ((i + 1 : Nat) : Int) (j : Int)) (out ++ uniteL (a.drop i) (m.drop j)) := by
        intro h1 h2
        have := ih (i + 1) j (out ++ [rd a (i : Int)]) (by omega) (by omega) hj (by simp; omega)
        rw [drop_at a i h1]
        rcases h2 with h2 | ⟨h2, h3⟩
        · rw [show m.drop j = [] from List.drop_eq_nil_of_le (by omega)] at this ⊢
          simpa [uniteL, uniteL_nil] using this
        · rw [drop_at m j h2] at this ⊢
          rw [uniteL, if_pos h3]
          simpa using this
      have right : j < m.length → (i = a.length ∨ (i < a.length ∧ ¬ rd a (i : Int) < rd m (j : Int))) → Ev (fun k => arboristref01_Unite.l0 k a (out ++ [rd m (j : Int)]) m (i : Int) ((j + 1 : Nat) : Int)) (out ++ uniteL (a.drop i) (m.drop j)) := by
        intro h1 h2
        have := ih i (j + 1) (out ++ [rd m (j : Int)]) (by omega) hi (by omega) (by simp; omega)
        rw [drop_at m j h1]
        rcases h2 with h2 | ⟨h2, h3⟩
        · rw [show a.drop i = [] from List.drop_eq_nil_of_le (by omega)] at this ⊢
          simpa [uniteL] using this
        · rw [drop_at a i h2] at this ⊢
          rw [uniteL, if_neg h3]
          simpa using this
      by_cases h1 : j = m.length
      · refine Ev.step (f := fun k => arboristref01_Unite.l0 k a (out ++ [rd a (i : Int)]) m ((i + 1 : Nat) : Int) (j : Int)) (fun k => ?_) (left (by omega) (.inl h1))
        simp only [arboristref01_Unite.j1]
        rw [if_pos trivial, if_pos (by omega), if_pos (by omega), if_pos (by omega), if_pos hlt, wrap_nat i (by omega)]
      · by_cases h2 : i < a.length
        · by_cases h3 : rd a (i : Int) < rd m (j : Int)
          · refine Ev.step (f := fun k => arboristref01_Unite.l0 k a (out ++ [rd a (i : Int)]) m ((i + 1 : Nat) : Int) (j : Int)) (fun k => ?_) (left h2 (.inr ⟨by omega, h3⟩))
            simp only [arboristref01_Unite.j1]
            rw [if_pos trivial, if_neg (by omega), if_pos (by omega), if_pos (by omega), if_pos (by omega), if_pos (by omega), if_pos h3, if_pos hlt, wrap_nat i (by omega)]
          · refine Ev.step (f := fun k => arboristref01_Unite.l0 k a (out ++ [rd m (j : Int)]) m (i : Int) ((j + 1 : Nat) : Int)) (fun k => ?_) (right (by omega) (.inr ⟨h2, h3⟩))
            simp only [arboristref01_Unite.j1]
            rw [if_pos trivial, if_neg (by omega), if_pos (by omega), if_pos (by omega), if_pos (by omega), if_pos (by omega), if_neg h3, if_pos hlt, wrap_nat j (by omega)]
        · refine Ev.step (f := fun k => arboristref01_Unite.l0 k a (out ++ [rd m (j : Int)]) m (i : Int) ((j + 1 : Nat) : Int)) (fun k => ?_) (right (by omega) (.inl (by omega)))
          simp only [arboristref01_Unite.j1]
          rw [if_pos trivial, if_neg (by omega), if_neg (by omega), if_pos (by omega), if_pos (by omega), if_pos hlt, wrap_nat j (by omega)]
theorem withoutL_len (a b : List Int) : (withoutL a b).length ≤ a.length := List.length_filter_le _ _
theorem Unite_ev (a b : List Int) (h : a.length + b.length < 17592186044416) : Ev (fun k => arboristref01_Unite.f k a b) (uniteL a (withoutL b a)) := by
  refine Ev.congr (f := fun k => (arboristref01_Without.f k b a).bind fun t => arboristref01_Unite.l0 k a ([] : List Int) t 0 0) (fun k => rfl) ?_
  have hw := withoutL_len b a
  refine Ev.bind (f := fun k (t : List Int) => arboristref01_Unite.l0 k a ([] : List Int) t 0 0) (Without_ev b a (by omega) (by omega)) ?_
  have := Unite_loop a (withoutL b a) (by omega) (a.length + (withoutL b a).length) 0 0 [] (by omega) (by omega) (by omega) (by simp)
  simpa using this
theorem cmpL_self : ∀ a : List Int, cmpL a a = 0
  | [] => rfl
  | a :: l => by simp [cmpL, cmpL_self l]
theorem cmpL_eq : ∀ a b : List Int, cmpL a b = 0 ↔ a = b
  | [], [] => by simp [cmpL]
  | [], _ :: _ => by simp [cmpL]
  | _ :: _, [] => by simp [cmpL]
  | a :: l, b :: m => by
    simp only [cmpL]
    split
    · simp; intro e; omega
    · split
      · simp; intro e; omega
      · rw [cmpL_eq l m]; simp; intro _; omega

end Go.Proofs.Ytpmfdggbccbfaaa.Pr

namespace Go.Proofs.Ytpmfdggbccbfaaa.Pr
open Go.RowKit Go.Proofs.YtpmfdggbccbfaaaW.PrintWords Go.Proofs.YtpmfdggbccbfaaaW.PrintLast
theorem evs0 {ρ : Type} {F : Nat → Option ρ} {r : ρ} (H : ∀ k, F (k + 1) = some r) : Ev F r := ⟨1, fun k hk => by obtain ⟨m, rfl⟩ : ∃ m, k = m + 1 := ⟨k - 1, by omega⟩; exact H m⟩
theorem evu0 {ρ : Type} {F : Nat → Option ρ} {r : ρ} (H : ∀ k, F k = some r) : Ev F r := ⟨0, fun k _ => H k⟩
theorem evu1 {ρ : Type} {F : Nat → Option ρ} {r : ρ} {α1 : Type} {g1 : Nat → Option α1} {a1 : α1} (h1 : Ev g1 a1) (H : ∀ k, g1 k = some a1 → F k = some r) : Ev F r := by
  obtain ⟨K1, e1⟩ := h1
  exact ⟨K1, fun k hk => H k (e1 _ (by omega))⟩
theorem evs1 {ρ : Type} {F : Nat → Option ρ} {r : ρ} {α1 : Type} {g1 : Nat → Option α1} {a1 : α1} (h1 : Ev g1 a1) (H : ∀ k, g1 k = some a1 → F (k + 1) = some r) : Ev F r := by
  obtain ⟨K1, e1⟩ := h1
  refine ⟨K1 + 1, fun k hk => ?_⟩
  obtain ⟨m, rfl⟩ : ∃ m, k = m + 1 := ⟨k - 1, by omega⟩
  exact H m (e1 _ (by omega))
theorem evu2 {ρ : Type} {F : Nat → Option ρ} {r : ρ} {α1 : Type} {g1 : Nat → Option α1} {a1 : α1} {α2 : Type} {g2 : Nat → Option α2} {a2 : α2} (h1 : Ev g1 a1) (h2 : Ev g2 a2) (H : ∀ k, g1 k = some a1 → g2 k = some a2 → F k = some r) : Ev F r := by
  obtain ⟨K1, e1⟩ := h1; obtain ⟨K2, e2⟩ := h2
  exact ⟨K1 + K2, fun k hk => H k (e1 _ (by omega)) (e2 _ (by omega))⟩
theorem evs2 {ρ : Type} {F : Nat → Option ρ} {r : ρ} {α1 : Type} {g1 : Nat → Option α1} {a1 : α1} {α2 : Type} {g2 : Nat → Option α2} {a2 : α2} (h1 : Ev g1 a1) (h2 : Ev g2 a2) (H : ∀ k, g1 k = some a1 → g2 k = some a2 → F (k + 1) = some r) : Ev F r := by
  obtain ⟨K1, e1⟩ := h1; obtain ⟨K2, e2⟩ := h2
  refine ⟨K1 + K2 + 1, fun k hk => ?_⟩
  obtain ⟨m, rfl⟩ : ∃ m, k = m + 1 := ⟨k - 1, by omega⟩
  exact H m (e1 _ (by omega)) (e2 _ (by omega))
theorem evu3 {ρ : Type} {F : Nat → Option ρ} {r : ρ} {α1 : Type} {g1 : Nat → Option α1} {a1 : α1} {α2 : Type} {g2 : Nat → Option α2} {a2 : α2} {α3 : Type} {g3 : Nat → Option α3} {a3 : α3} (h1 : Ev g1 a1) (h2 : Ev g2 a2) (h3 : Ev g3 a3) (H : ∀ k, g1 k = some a1 → g2 k = some a2 → g3 k = some a3 → F k = some r) : Ev F r := by
  obtain ⟨K1, e1⟩ := h1; obtain ⟨K2, e2⟩ := h2; obtain ⟨K3, e3⟩ := h3
  exact ⟨K1 + K2 + K3, fun k hk => H k (e1 _ (by omega)) (e2 _ (by omega)) (e3 _ (by omega))⟩
theorem evs3 {ρ : Type} {F : Nat → Option ρ} {r : ρ} {α1 : Type} {g1 : Nat → Option α1} {a1 : α1} {α2 : Type} {g2 : Nat → Option α2} {a2 : α2} {α3 : Type} {g3 : Nat → Option α3} {a3 : α3} (h1 : Ev g1 a1) (h2 : Ev g2 a2) (h3 : Ev g3 a3) (H : ∀ k, g1 k = some a1 → g2 k = some a2 → g3 k = some a3 → F (k + 1) = some r) : Ev F r := by
  obtain ⟨K1, e1⟩ := h1; obtain ⟨K2, e2⟩ := h2; obtain ⟨K3, e3⟩ := h3
  refine ⟨K1 + K2 + K3 + 1, fun k hk => ?_⟩
  obtain ⟨m, rfl⟩ : ∃ m, k = m + 1 := ⟨k - 1, by omega⟩
  exact H m (e1 _ (by omega)) (e2 _ (by omega)) (e3 _ (by omega))
theorem evu4 {ρ : Type} {F : Nat → Option ρ} {r : ρ} {α1 : Type} {g1 : Nat → Option α1} {a1 : α1} {α2 : Type} {g2 : Nat → Option α2} {a2 : α2} {α3 : Type} {g3 : Nat → Option α3} {a3 : α3} {α4 : Type} {g4 : Nat → Option α4} {a4 : α4} (h1 : Ev g1 a1) (h2 : Ev g2 a2) (h3 : Ev g3 a3) (h4 : Ev g4 a4) (H : ∀ k, g1 k = some a1 → g2 k = some a2 → g3 k = some a3 → g4 k = some a4 → F k = some r) : Ev F r := by
  obtain ⟨K1, e1⟩ := h1; obtain ⟨K2, e2⟩ := h2; obtain ⟨K3, e3⟩ := h3; obtain ⟨K4, e4⟩ := h4
  exact ⟨K1 + K2 + K3 + K4, fun k hk => H k (e1 _ (by omega)) (e2 _ (by omega)) (e3 _ (by omega)) (e4 _ (by omega))⟩
theorem evs4 {ρ : Type} {F : Nat → Option ρ} {r : ρ} {α1 : Type} {g1 : Nat → Option α1} {a1 : α1} {α2 : Type} {g2 : Nat → Option α2} {a2 : α2} {α3 : Type} {g3 : Nat → Option α3} {a3 : α3} {α4 : Type} {g4 : Nat → Option α4} {a4 : α4} (h1 : Ev g1 a1) (h2 : Ev g2 a2) (h3 : Ev g3 a3) (h4 : Ev g4 a4) (H : ∀ k, g1 k = some a1 → g2 k = some a2 → g3 k = some a3 → g4 k = some a4 → F (k + 1) = some r) : Ev F r := by
  obtain ⟨K1, e1⟩ := h1; obtain ⟨K2, e2⟩ := h2; obtain ⟨K3, e3⟩ := h3; obtain ⟨K4, e4⟩ := h4
  refine ⟨K1 + K2 + K3 + K4 + 1, fun k hk => ?_⟩
  obtain ⟨m, rfl⟩ : ∃ m, k = m + 1 := ⟨k - 1, by omega⟩
  exact H m (e1 _ (by omega)) (e2 _ (by omega)) (e3 _ (by omega)) (e4 _ (by omega))
theorem evu5 {ρ : Type} {F : Nat → Option ρ} {r : ρ} {α1 : Type} {g1 : Nat → Option α1} {a1 : α1} {α2 : Type} {g2 : Nat → Option α2} {a2 : α2} {α3 : Type} {g3 : Nat → Option α3} {a3 : α3} {α4 : Type} {g4 : Nat → Option α4} {a4 : α4} {α5 : Type} {g5 : Nat → Option α5} {a5 : α5} (h1 : Ev g1 a1) (h2 : Ev g2 a2) (h3 : Ev g3 a3) (h4 : Ev g4 a4) (h5 : Ev g5 a5) (H : ∀ k, g1 k = some a1 → g2 k = some a2 → g3 k = some a3 → g4 k = some a4 → g5 k = some a5 → F k = some r) : Ev F r := by
  obtain ⟨K1, e1⟩ := h1; obtain ⟨K2, e2⟩ := h2; obtain ⟨K3, e3⟩ := h3; obtain ⟨K4, e4⟩ := h4; obtain ⟨K5, e5⟩ := h5
  exact ⟨K1 + K2 + K3 + K4 + K5, fun k hk => H k (e1 _ (by omega)) (e2 _ (by omega)) (e3 _ (by omega)) (e4 _ (by omega)) (e5 _ (by omega))⟩
theorem evs5 {ρ : Type} {F : Nat → Option ρ} {r : ρ} {α1 : Type} {g1 : Nat → Option α1} {a1 : α1} {α2 : Type} {g2 : Nat → Option α2} {a2 : α2} {α3 : Type} {g3 : Nat → Option α3} {a3 : α3} {α4 : Type} {g4 : Nat → Option α4} {a4 : α4} {α5 : Type} {g5 : Nat → Option α5} {a5 : α5} (h1 : Ev g1 a1) (h2 : Ev g2 a2) (h3 : Ev g3 a3) (h4 : Ev g4 a4) (h5 : Ev g5 a5) (H : ∀ k, g1 k = some a1 → g2 k = some a2 → g3 k = some a3 → g4 k = some a4 → g5 k = some a5 → F (k + 1) = some r) : Ev F r := by
  obtain ⟨K1, e1⟩ := h1; obtain ⟨K2, e2⟩ := h2; obtain ⟨K3, e3⟩ := h3; obtain ⟨K4, e4⟩ := h4; obtain ⟨K5, e5⟩ := h5
  refine ⟨K1 + K2 + K3 + K4 + K5 + 1, fun k hk => ?_⟩
  obtain ⟨m, rfl⟩ : ∃ m, k = m + 1 := ⟨k - 1, by omega⟩
  exact H m (e1 _ (by omega)) (e2 _ (by omega)) (e3 _ (by omega)) (e4 _ (by omega)) (e5 _ (by omega))
theorem evu6 {ρ : Type} {F : Nat → Option ρ} {r : ρ} {α1 : Type} {g1 : Nat → Option α1} {a1 : α1} {α2 : Type} {g2 : Nat → Option α2} {a2 : α2} {α3 : Type} {g3 : Nat → Option α3} {a3 : α3} {α4 : Type} {g4 : Nat → Option α4} {a4 : α4} {α5 : Type} {g5 : Nat → Option α5} {a5 : α5} {α6 : Type} {g6 : Nat → Option α6} {a6 : α6} (h1 : Ev g1 a1) (h2 : Ev g2 a2) (h3 : Ev g3 a3) (h4 : Ev g4 a4) (h5 : Ev g5 a5) (h6 : Ev g6 a6) (H : ∀ k, g1 k = some a1 → g2 k = some a2 → g3 k = some a3 → g4 k = some a4 → g5 k = some a5 → g6 k = some a6 → F k = some r) : Ev F r := by
  obtain ⟨K1, e1⟩ := h1; obtain ⟨K2, e2⟩ := h2; obtain ⟨K3, e3⟩ := h3; obtain ⟨K4, e4⟩ := h4; obtain ⟨K5, e5⟩ := h5; obtain ⟨K6, e6⟩ := h6
  exact ⟨K1 + K2 + K3 + K4 + K5 + K6, fun k hk => H k (e1 _ (by omega)) (e2 _ (by omega)) (e3 _ (by omega)) (e4 _ (by omega)) (e5 _ (by omega)) (e6 _ (by omega))⟩
theorem evs6 {ρ : Type} {F : Nat → Option ρ} {r : ρ} {α1 : Type} {g1 : Nat → Option α1} {a1 : α1} {α2 : Type} {g2 : Nat → Option α2} {a2 : α2} {α3 : Type} {g3 : Nat → Option α3} {a3 : α3} {α4 : Type} {g4 : Nat → Option α4} {a4 : α4} {α5 : Type} {g5 : Nat → Option α5} {a5 : α5} {α6 : Type} {g6 : Nat → Option α6} {a6 : α6} (h1 : Ev g1 a1) (h2 : Ev g2 a2) (h3 : Ev g3 a3) (h4 : Ev g4 a4) (h5 : Ev g5 a5) (h6 : Ev g6 a6) (H : ∀ k, g1 k = some a1 → g2 k = some a2 → g3 k = some a3 → g4 k = some a4 → g5 k = some a5 → g6 k = some a6 → F (k + 1) = some r) : Ev F r := by
  obtain ⟨K1, e1⟩ := h1; obtain ⟨K2, e2⟩ := h2; obtain ⟨K3, e3⟩ := h3; obtain ⟨K4, e4⟩ := h4; obtain ⟨K5, e5⟩ := h5; obtain ⟨K6, e6⟩ := h6
  refine ⟨K1 + K2 + K3 + K4 + K5 + K6 + 1, fun k hk => ?_⟩
  obtain ⟨m, rfl⟩ : ∃ m, k = m + 1 := ⟨k - 1, by omega⟩
  exact H m (e1 _ (by omega)) (e2 _ (by omega)) (e3 _ (by omega)) (e4 _ (by omega)) (e5 _ (by omega)) (e6 _ (by omega))
theorem evu7 {ρ : Type} {F : Nat → Option ρ} {r : ρ} {α1 : Type} {g1 : Nat → Option α1} {a1 : α1} {α2 : Type} {g2 : Nat → Option α2} {a2 : α2} {α3 : Type} {g3 : Nat → Option α3} {a3 : α3} {α4 : Type} {g4 : Nat → Option α4} {a4 : α4} {α5 : Type} {g5 : Nat → Option α5} {a5 : α5} {α6 : Type} {g6 : Nat → Option α6} {a6 : α6} {α7 : Type} {g7 : Nat → Option α7} {a7 : α7} (h1 : Ev g1 a1) (h2 : Ev g2 a2) (h3 : Ev g3 a3) (h4 : Ev g4 a4) (h5 : Ev g5 a5) (h6 : Ev g6 a6) (h7 : Ev g7 a7) (H : ∀ k, g1 k = some a1 → g2 k = some a2 → g3 k = some a3 → g4 k = some a4 → g5 k = some a5 → g6 k = some a6 → g7 k = some a7 → F k = some r) : Ev F r := by
  obtain ⟨K1, e1⟩ := h1; obtain ⟨K2, e2⟩ := h2; obtain ⟨K3, e3⟩ := h3; obtain ⟨K4, e4⟩ := h4; obtain ⟨K5, e5⟩ := h5; obtain ⟨K6, e6⟩ := h6; obtain ⟨K7, e7⟩ := h7
  exact ⟨K1 + K2 + K3 + K4 + K5 + K6 + K7, fun k hk => H k (e1 _ (by omega)) (e2 _ (by omega)) (e3 _ (by omega)) (e4 _ (by omega)) (e5 _ (by omega)) (e6 _ (by omega)) (e7 _ (by omega))⟩
theorem evs7 {ρ : Type} {F : Nat → Option ρ} {r : ρ} {α1 : Type} {g1 : Nat → Option α1} {a1 : α1} {α2 : Type} {g2 : Nat → Option α2} {a2 : α2} {α3 : Type} {g3 : Nat → Option α3} {a3 : α3} {α4 : Type} {g4 : Nat → Option α4} {a4 : α4} {α5 : Type} {g5 : Nat → Option α5} {a5 : α5} {α6 : Type} {g6 : Nat → Option α6} {a6 : α6} {α7 : Type} {g7 : Nat → Option α7} {a7 : α7} (h1 : Ev g1 a1) (h2 : Ev g2 a2) (h3 : Ev g3 a3) (h4 : Ev g4 a4) (h5 : Ev g5 a5) (h6 : Ev g6 a6) (h7 : Ev g7 a7) (H : ∀ k, g1 k = some a1 → g2 k = some a2 → g3 k = some a3 → g4 k = some a4 → g5 k = some a5 → g6 k = some a6 → g7 k = some a7 → F (k + 1) = some r) : Ev F r := by
  obtain ⟨K1, e1⟩ := h1; obtain ⟨K2, e2⟩ := h2; obtain ⟨K3, e3⟩ := h3; obtain ⟨K4, e4⟩ := h4; obtain ⟨K5, e5⟩ := h5; obtain ⟨K6, e6⟩ := h6; obtain ⟨K7, e7⟩ := h7
  refine ⟨K1 + K2 + K3 + K4 + K5 + K6 + K7 + 1, fun k hk => ?_⟩
  obtain ⟨m, rfl⟩ : ∃ m, k = m + 1 := ⟨k - 1, by omega⟩
  exact H m (e1 _ (by omega)) (e2 _ (by omega)) (e3 _ (by omega)) (e4 _ (by omega)) (e5 _ (by omega)) (e6 _ (by omega)) (e7 _ (by omega))
theorem evu8 {ρ : Type} {F : Nat → Option ρ} {r : ρ} {α1 : Type} {g1 : Nat → Option α1} {a1 : α1} {α2 : Type} {g2 : Nat → Option α2} {a2 : α2} {α3 : Type} {g3 : Nat → Option α3} {a3 : α3} {α4 : Type} {g4 : Nat → Option α4} {a4 : α4} {α5 : Type} {g5 : Nat → Option α5} {a5 : α5} {α6 : Type} {g6 : Nat → Option α6} {a6 : α6} {α7 : Type} {g7 : Nat → Option α7} {a7 : α7} {α8 : Type} {g8 : Nat → Option α8} {a8 : α8} (h1 : Ev g1 a1) (h2 : Ev g2 a2) (h3 : Ev g3 a3) (h4 : Ev g4 a4) (h5 : Ev g5 a5) (h6 : Ev g6 a6) (h7 : Ev g7 a7) (h8 : Ev g8 a8) (H : ∀ k, g1 k = some a1 → g2 k = some a2 → g3 k = some a3 → g4 k = some a4 → g5 k = some a5 → g6 k = some a6 → g7 k = some a7 → g8 k = some a8 → F k = some r) : Ev F r := by
  obtain ⟨K1, e1⟩ := h1; obtain ⟨K2, e2⟩ := h2; obtain ⟨K3, e3⟩ := h3; obtain ⟨K4, e4⟩ := h4; obtain ⟨K5, e5⟩ := h5; obtain ⟨K6, e6⟩ := h6; obtain ⟨K7, e7⟩ := h7; obtain ⟨K8, e8⟩ := h8
  exact ⟨K1 + K2 + K3 + K4 + K5 + K6 + K7 + K8, fun k hk => H k (e1 _ (by omega)) (e2 _ (by omega)) (e3 _ (by omega)) (e4 _ (by omega)) (e5 _ (by omega)) (e6 _ (by omega)) (e7 _ (by omega)) (e8 _ (by omega))⟩
theorem evs8 {ρ : Type} {F : Nat → Option ρ} {r : ρ} {α1 : Type} {g1 : Nat → Option α1} {a1 : α1} {α2 : Type} {g2 : Nat → Option α2} {a2 : α2} {α3 : Type} {g3 : Nat → Option α3} {a3 : α3} {α4 : Type} {g4 : Nat → Option α4} {a4 : α4} {α5 : Type} {g5 : Nat → Option α5} {a5 : α5} {α6 : Type} {g6 : Nat → Option α6} {a6 : α6} {α7 : Type} {g7 : Nat → Option α7} {a7 : α7} {α8 : Type} {g8 : Nat → Option α8} {a8 : α8} (h1 : Ev g1 a1) (h2 : Ev g2 a2) (h3 : Ev g3 a3) (h4 : Ev g4 a4) (h5 : Ev g5 a5) (h6 : Ev g6 a6) (h7 : Ev g7 a7) (h8 : Ev g8 a8) (H : ∀ k, g1 k = some a1 → g2 k = some a2 → g3 k = some a3 → g4 k = some a4 → g5 k = some a5 → g6 k = some a6 → g7 k = some a7 → g8 k = some a8 → F (k + 1) = some r) : Ev F r := by
  obtain ⟨K1, e1⟩ := h1; obtain ⟨K2, e2⟩ := h2; obtain ⟨K3, e3⟩ := h3; obtain ⟨K4, e4⟩ := h4; obtain ⟨K5, e5⟩ := h5; obtain ⟨K6, e6⟩ := h6; obtain ⟨K7, e7⟩ := h7; obtain ⟨K8, e8⟩ := h8
  refine ⟨K1 + K2 + K3 + K4 + K5 + K6 + K7 + K8 + 1, fun k hk => ?_⟩
  obtain ⟨m, rfl⟩ : ∃ m, k = m + 1 := ⟨k - 1, by omega⟩
  exact H m (e1 _ (by omega)) (e2 _ (by omega)) (e3 _ (by omega)) (e4 _ (by omega)) (e5 _ (by omega)) (e6 _ (by omega)) (e7 _ (by omega)) (e8 _ (by omega))
end Go.Proofs.Ytpmfdggbccbfaaa.Pr

set_option linter.unusedVariables false
set_option linter.unusedSimpArgs false
namespace Go.Proofs.Ytpmfdggbccbfaaa.Pr
open Go.RowKit Go.Proofs.YtpmfdggbccbfaaaW.PrintWords Go.Proofs.YtpmfdggbccbfaaaW.PrintLast

/-! ### the statements' own cuts -/
theorem mn_facts (n : Nat) (m : Nat) : 0 ≤ mn (n : Int) (m : Int) ∧ mn (n : Int) (m : Int) ≤ (n : Int) ∧ (mn (n : Int) (m : Int)).toNat = min n m := by
  unfold mn
  by_cases h : (m : Int) < (n : Int)
  · rw [if_pos h]; omega
  · rw [if_neg h]; omega
theorem take_mn {α : Type} (l : List α) (m : Nat) : l.take (mn (l.length : Int) (m : Int)).toNat = l.take m := by
  rw [(mn_facts l.length m).2.2]
  rcases Nat.le_total l.length m with h | h
  · rw [Nat.min_eq_left h, List.take_of_length_le (Nat.le_refl _), List.take_of_length_le h]
  · rw [Nat.min_eq_right h]
def cutB (B : List (List Int)) : List (List Int) := (B.take 10).map (fun b => b.take 8)
theorem L1_at (B : List (List Int)) (i : Nat) (h : i < B.length) : rd_L1 B (i : Int) = B[i] := by
  unfold rd_L1
  rw [List.getD_eq_getElem?_getD, Int.toNat_natCast, List.getElem?_eq_getElem h]
  rfl
theorem cut_loop (B : List (List Int)) (P Q : List Int) : ∀ (d i : Nat), 10 = i + d → Ev (fun k => arboristlaw12_cut.l0 k (i : Int) B P (((B.take i).map (fun b => b.take 8))) Q) (cutB B, Q) := by
  intro d
  induction d with
  | zero =>
    intro i h
    refine evs0 (fun k => ?_)
    simp only [arboristlaw12_cut.l0]
    have : i = 10 := by omega
    subst this
    split
    · rw [if_neg (by omega)]; rfl
    · rfl
  | succ d ih =>
    intro i h
    by_cases hi : i < B.length
    · refine evs1 (ih (i + 1) (by omega)) (fun k e => ?_)
      simp only [arboristlaw12_cut.l0, Option.bind_some]
      have hm := mn_facts (rd_L1 B (i : Int)).length 8
      have ht := take_mn (rd_L1 B (i : Int)) 8
      simp only [Int.cast_ofNat_Int] at hm ht
      rw [if_pos (by omega), if_pos (by omega), if_pos (by omega), if_pos hm.1, if_pos hm.2.1, ht, wrap_nat i (by omega)]
      rw [if_pos (by simp; omega), if_pos (by simp; omega)]
      rw [List.take_succ_eq_append_getElem hi, List.map_append, List.map_cons, List.map_nil, ← L1_at B i hi] at e
      simpa using e
    · refine evs0 (fun k => ?_)
      simp only [arboristlaw12_cut.l0]
      rw [if_neg (by omega)]
      unfold cutB
      rw [List.take_of_length_le (by omega), List.take_of_length_le (by omega)]
theorem cut_ev (B : List (List Int)) (P : List Int) : Ev (fun k => arboristlaw12_cut.f k B P) (cutB B, P.take 10) := by
  refine evu1 (cut_loop B P (P.take 10) 10 0 (by omega)) (fun k e => ?_)
  have hm := mn_facts P.length 10
  have ht := take_mn P 10
  simp only [Int.cast_ofNat_Int] at hm ht
  simp only [arboristlaw12_cut.f, Option.bind_some]
  rw [if_pos hm.1, if_pos hm.2.1, ht, if_pos (by simp; omega)]
  simpa using e
def cutS (B : List (List Int)) : List (List Int) := (B.take 10).map (fun b => b.take 6)
theorem scopes_loop (B : List (List Int)) : ∀ (d i : Nat), 10 = i + d → Ev (fun k => arboristlaw12_scopes.l0 k B (((B.take i).map (fun b => b.take 6))) (i : Int)) (cutS B) := by
  intro d
  induction d with
  | zero =>
    intro i h
    refine evs0 (fun k => ?_)
    simp only [arboristlaw12_scopes.l0]
    have : i = 10 := by omega
    subst this
    split
    · rw [if_neg (by omega)]; rfl
    · rfl
  | succ d ih =>
    intro i h
    by_cases hi : i < B.length
    · refine evs1 (ih (i + 1) (by omega)) (fun k e => ?_)
      simp only [arboristlaw12_scopes.l0, Option.bind_some]
      have hm := mn_facts (rd_L1 B (i : Int)).length 6
      have ht := take_mn (rd_L1 B (i : Int)) 6
      simp only [Int.cast_ofNat_Int] at hm ht
      rw [if_pos (by omega), if_pos (by omega), if_pos (by omega), if_pos hm.1, if_pos hm.2.1, ht, wrap_nat i (by omega)]
      rw [if_pos (by simp; omega)]
      rw [List.take_succ_eq_append_getElem hi, List.map_append, List.map_cons, List.map_nil, ← L1_at B i hi] at e
      exact e
    · refine evs0 (fun k => ?_)
      simp only [arboristlaw12_scopes.l0]
      rw [if_neg (by omega)]
      unfold cutS
      rw [List.take_of_length_le (by omega), List.take_of_length_le (by omega)]
theorem scopes_ev (B : List (List Int)) : Ev (fun k => arboristlaw12_scopes.f k B) (cutS B) := by
  refine evu1 (scopes_loop B 10 0 (by omega)) (fun k e => ?_)
  simpa [arboristlaw12_scopes.f] using e

/-! ### trees -/
/-- one step towards the root -/
def stepP (P : List Int) (i : Int) : Int := if i < 0 then i else rd P i
def upP (P : List Int) : Nat → Int → Int
  | 0, i => i
  | k + 1, i => upP P k (stepP P i)
def parGood (P : List Int) (i : Nat) : Bool := !(decide (rd P (i : Int) < -1) || decide (rd P (i : Int) ≥ (P.length : Int)) || rd P (i : Int) == (i : Int))
def parsGood (P : List Int) : Bool := (List.range P.length).all (parGood P)
def reachB (P : List Int) : Bool := (List.range P.length).all (fun i => decide (upP P P.length (i : Int) < 0))
def rootsB (P : List Int) : Bool := P.length == 0 || P.count (-1) == 1
def treeB (B : List (List Int)) (P : List Int) : Bool := P.length == B.length && parsGood P && rootsB P && reachB P
theorem up_neg (P : List Int) : ∀ (k : Nat) (i : Int), i < 0 → upP P k i = i
  | 0, i, _ => rfl
  | k + 1, i, h => by rw [upP, stepP, if_pos h]; exact up_neg P k i h
theorem up_add (P : List Int) : ∀ (a b : Nat) (i : Int), upP P (a + b) i = upP P b (upP P a i)
  | 0, b, i => by rw [Nat.zero_add]; rfl
  | a + 1, b, i => by rw [show a + 1 + b = (a + b) + 1 by omega]; exact up_add P a b _
theorem range_all_cons (f : Nat → Bool) (i n : Nat) (h : i < n) : (List.range' i (n - i)).all f = (f i && (List.range' (i + 1) (n - (i + 1))).all f) := by
  rw [show n - i = (n - (i + 1)) + 1 by omega, List.range'_succ]
  simp
/-- who is in its place has a parent in its place, or none -/
theorem good_step {P : List Int} (hg : parsGood P = true) (i : Int) (h0 : 0 ≤ i) (h1 : i < P.length) : -1 ≤ rd P i ∧ rd P i < P.length ∧ rd P i ≠ i := by
  obtain ⟨k, rfl⟩ := Int.eq_ofNat_of_zero_le h0
  have := List.all_eq_true.1 hg k (List.mem_range.2 (by omega))
  unfold parGood at this
  simp only [Bool.not_eq_true', Bool.or_eq_false_iff, decide_eq_false_iff_not, beq_eq_false_iff_ne] at this
  omega
theorem up_range {P : List Int} (hg : parsGood P = true) : ∀ (k : Nat) (i : Int), -1 ≤ i → i < P.length → -1 ≤ upP P k i ∧ upP P k i < P.length
  | 0, i, h0, h1 => ⟨h0, h1⟩
  | k + 1, i, h0, h1 => by
    rw [upP]
    unfold stepP
    by_cases h : i < 0
    · rw [if_pos h]; exact up_range hg k i h0 h1
    · rw [if_neg h]
      have := good_step hg i (by omega) h1
      exact up_range hg k _ this.1 this.2.1
theorem up_stays {P : List Int} {i : Int} {k : Nat} (h : upP P k i < 0) (m : Nat) : upP P (k + m) i < 0 := by rw [up_add, up_neg P m _ h]; exact h
theorem pigeon : ∀ (n : Nat) (l : List Int), (∀ x ∈ l, 0 ≤ x ∧ x < n) → l.Nodup → l.length ≤ n
  | 0, l, h, _ => by
    cases l with
    | nil => simp
    | cons a l => have := h a (by simp); omega
  | n + 1, l, h, hn => by
    have h2 := pigeon n (l.erase (n : Int)) (fun x hx => by
      rw [hn.mem_erase_iff] at hx
      have := h x hx.2
      have := hx.1
      omega) (hn.erase _)
    by_cases hm : (n : Int) ∈ l
    · rw [List.length_erase_of_mem hm] at h2
      omega
    · rw [List.erase_of_not_mem hm] at h2
      omega
/-- who comes to the root at all comes there in as many steps as there are places -/
theorem up_soon {P : List Int} (hg : parsGood P = true) (j : Int) (h0 : -1 ≤ j) (h1 : j < P.length) (hk : ∃ k, upP P k j < 0) : upP P P.length j < 0 := by
  refine Classical.byContradiction fun hneg => ?_
  have hpos : ∀ t, t ≤ P.length → 0 ≤ upP P t j := fun t ht => by
    refine Classical.byContradiction fun hc => hneg ?_
    have := up_stays (P := P) (i := j) (k := t) (by omega) (P.length - t)
    rwa [show t + (P.length - t) = P.length by omega] at this
  by_cases hab : ∃ a b, a < b ∧ b ≤ P.length ∧ upP P a j = upP P b j
  · obtain ⟨a, b, hlt, hb, he⟩ := hab
    have hall : ∀ m k, k ≤ m → 0 ≤ upP P k j := by
      intro m
      induction m with
      | zero => intro k hk; exact hpos k (by omega)
      | succ m ih =>
        intro k hk
        by_cases hs : k ≤ P.length
        · exact hpos k hs
        · have e1 : upP P k j = upP P (a + (k - b)) j := by
            have h1 := up_add P b (k - b) j
            have h2 := up_add P a (k - b) j
            rw [show b + (k - b) = k by omega] at h1
            rw [h1, h2, he]
          rw [e1]
          exact ih _ (by omega)
    obtain ⟨k, hk⟩ := hk
    have := hall k k (Nat.le_refl _)
    omega
  · have hl := pigeon P.length ((List.range (P.length + 1)).map (fun t => upP P t j)) (by
      intro x hx
      obtain ⟨t, ht, rfl⟩ := List.mem_map.1 hx
      rw [List.mem_range] at ht
      exact ⟨hpos t (by omega), (up_range hg t j h0 h1).2⟩) (by
      refine List.pairwise_iff_getElem.2 ?_
      intro a b ha hb hlt
      simp only [List.length_map, List.length_range] at ha hb
      simp only [List.getElem_map, List.getElem_range]
      intro he
      exact hab ⟨a, b, hlt, by omega, he⟩)
    simp at hl
    omega
theorem count_take_le (P : List Int) (i : Nat) : (P.take i).count (-1) ≤ i := Nat.le_trans List.count_le_length (by simp; omega)
theorem count_take_succ (P : List Int) (i : Nat) (h : i < P.length) : (P.take (i + 1)).count (-1) = (P.take i).count (-1) + (if rd P (i : Int) = -1 then 1 else 0) := by
  rw [List.take_succ_eq_append_getElem h, List.count_append, rd_nat P i _ (List.getElem?_eq_getElem h)]
  congr 1
  by_cases e : P[i] = -1
  · rw [if_pos e, e]; rfl
  · rw [if_neg e]
    exact List.count_eq_zero.2 (by simpa using fun h => e h.symm)
theorem good_all {P : List Int} (h : ∀ j, j < P.length → parGood P j = true) : parsGood P = true := List.all_eq_true.2 (fun j hj => h j (List.mem_range.1 hj))
end Go.Proofs.Ytpmfdggbccbfaaa.Pr

set_option linter.unusedVariables false
set_option linter.unusedSimpArgs false
namespace Go.Proofs.Ytpmfdggbccbfaaa.Pr
open Go.RowKit Go.Proofs.YtpmfdggbccbfaaaW.PrintWords Go.Proofs.YtpmfdggbccbfaaaW.PrintLast

/-! #### the program's Tree -/
def mark (g : List Bool) (w : List Int) : List Bool := w.foldl (fun g a => g.set a.toNat true) g
theorem mark_len : ∀ (w : List Int) (g : List Bool), (mark g w).length = g.length
  | [], g => rfl
  | a :: w, g => by
    have := mark_len w (g.set a.toNat true)
    simpa [mark] using this
theorem mark_get : ∀ (w : List Int) (g : List Bool) (j : Nat), (∀ a ∈ w, 0 ≤ a ∧ a < g.length) → j < g.length → ((mark g w).getD j false = true ↔ g.getD j false = true ∨ (j : Int) ∈ w)
  | [], g, j, _, _ => by simp [mark]
  | a :: w, g, j, h, hj => by
    have ha := h a (by simp)
    have ih := mark_get w (g.set a.toNat true) j (fun b hb => by rw [List.length_set]; exact h b (List.mem_cons_of_mem _ hb)) (by rw [List.length_set]; exact hj)
    have e : mark g (a :: w) = mark (g.set a.toNat true) w := rfl
    rw [e, ih, List.mem_cons]
    by_cases c : (j : Int) = a
    · have c2 : a.toNat = j := by omega
      rw [c2]
      simp [List.getD_eq_getElem?_getD, c, hj]
    · have c2 : a.toNat ≠ j := by omega
      rw [List.getD_eq_getElem?_getD, List.getElem?_set_ne c2, ← List.getD_eq_getElem?_getD]
      simp [c]
def GoodM (P : List Int) (g : List Bool) (i : Nat) : Prop := g.length = P.length ∧ (∀ j : Nat, j < P.length → g.getD j false = true → ∃ K, upP P K (j : Int) < 0) ∧ ∀ j : Nat, j < i → g.getD j false = true
theorem vtree_l3 {P : List Int} (B : List (List Int)) (N : Int) (i : Int) (w : List Int) (hw : ∀ a ∈ w, 0 ≤ a ∧ a < P.length) (hwl : w.length < 1000000) (r : Bool) : ∀ (d t : Nat) (g : List Bool), w.length = t + d → g.length = P.length → Ev (fun k => valid_Tree.l1 k (P.length : Int) (mark g (w.drop t)) N (wrap64 (i + 1)) B P) r → Ev (fun k => valid_Tree.l3 k (P.length : Int) g N i w (w.length : Int) (t : Int) B P) r := by
  intro d
  induction d with
  | zero =>
    intro t g h hg hr
    rw [List.drop_eq_nil_of_le (by omega)] at hr
    refine evs1 hr (fun k e => ?_)
    simp only [valid_Tree.l3]
    rw [if_neg (by omega)]
    exact e
  | succ d ih =>
    intro t g h hg hr
    have ht : t < w.length := by omega
    rw [List.drop_eq_getElem_cons ht] at hr
    have hm := hw _ (List.getElem_mem ht)
    have e1 : rd w (t : Int) = w[t] := rd_nat _ _ _ (List.getElem?_eq_getElem ht)
    refine evs1 (ih (t + 1) (g.set (w[t]).toNat true) (by omega) (by rw [List.length_set]; exact hg) hr) (fun k e => ?_)
    simp only [valid_Tree.l3]
    rw [if_pos (by omega), if_pos (by omega), if_pos (by omega), e1, if_pos hm.1, if_pos (by omega), wrap_nat t (by omega)]
    exact e
theorem up_last (P : List Int) (k : Nat) (i : Int) (h : 0 ≤ upP P k i) : upP P (k + 1) i = rd P (upP P k i) := by
  rw [up_add P k 1 i]
  show stepP P (upP P k i) = _
  unfold stepP
  rw [if_neg (by omega)]
theorem marked {P : List Int} (hg : parsGood P = true) (i : Nat) (hi : i < P.length) (g : List Bool) (hG : GoodM P g i) (w : List Int) (hw : w = (List.range w.length).map (fun t => upP P t (i : Int))) (hwr : ∀ a ∈ w, 0 ≤ a ∧ a < P.length) (hK : ∃ K, upP P K (i : Int) < 0) (h0 : w = [] → g.getD i false = true) : GoodM P (mark g w) (i + 1) := by
  obtain ⟨g1, g2, g3⟩ := hG
  have hm := fun (j : Nat) (hj : j < P.length) => mark_get w g j (fun a ha => by rw [g1]; exact hwr a ha) (by omega)
  refine ⟨by rw [mark_len]; exact g1, fun j hj h => ?_, fun j hj => ?_⟩
  · rcases (hm j hj).1 h with h | h
    · exact g2 j hj h
    · rw [hw] at h
      obtain ⟨t, _, ht⟩ := List.mem_map.1 h
      obtain ⟨K, hK⟩ := hK
      refine ⟨K, ?_⟩
      rw [← ht, ← up_add, Nat.add_comm]
      exact up_stays hK t
  · refine (hm j (by omega)).2 ?_
    by_cases e : j = i
    · subst e
      cases hw2 : w with
      | nil => exact .inl (h0 hw2)
      | cons a w' =>
        right
        rw [← hw2, hw, List.mem_map]
        exact ⟨0, by rw [List.mem_range, hw2]; simp, rfl⟩
    · exact .inl (g3 j (by omega))
theorem vtree_l2 {P : List Int} (hg : parsGood P = true) (B : List (List Int)) (hl : P.length < 1000000) (ht : treeB B P = reachB P) (N : Int) (i : Nat) (hi : i < P.length) (g : List Bool) (hG : GoodM P g i)
    (hnext : ∀ g' : List Bool, GoodM P g' (i + 1) → Ev (fun k => valid_Tree.l1 k (P.length : Int) g' N (wrap64 ((i : Int) + 1)) B P) (treeB B P)) :
    ∀ (d : Nat) (w : List Int), P.length = w.length + d → w = (List.range w.length).map (fun t => upP P t (i : Int)) → (∀ a ∈ w, 0 ≤ a ∧ a < P.length) → Ev (fun k => valid_Tree.l2 k (P.length : Int) g w (upP P w.length (i : Int)) N (i : Int) B P) (treeB B P) := by
  intro d
  induction d with
  | zero =>
    intro w hd hw hwr
    have hr := up_range hg w.length (i : Int) (by omega) (by omega)
    by_cases c : upP P w.length (i : Int) = -1
    · have h3 := vtree_l3 B N (i : Int) w hwr (by omega) (treeB B P) w.length 0 g (by omega) hG.1 (hnext _ (marked hg i hi g hG w hw hwr ⟨w.length, by omega⟩ (fun e => by rw [e] at c; simp [upP] at c)))
      refine evs1 (g1 := fun k => valid_Tree.j5 k (P.length : Int) g w (upP P w.length (i : Int)) N (i : Int) false B P) (a1 := treeB B P) (evs1 h3 (fun k e => ?_)) (fun k e => ?_)
      · simp only [valid_Tree.j5]; rw [if_neg (by simp)]; exact e
      · simp only [valid_Tree.l2]; rw [if_pos c]; exact e
    · have hge : 0 ≤ upP P w.length (i : Int) := by omega
      cases hgd : rdOf false g (upP P w.length (i : Int)) with
      | true =>
        have hK : ∃ K, upP P K (i : Int) < 0 := by
          obtain ⟨a, ha⟩ := Int.eq_ofNat_of_zero_le hge
          rw [ha] at hgd
          obtain ⟨K, hK⟩ := hG.2.1 a (by omega) hgd
          refine ⟨w.length + K, ?_⟩
          rw [up_add, ha]
          exact hK
        have h3 := vtree_l3 B N (i : Int) w hwr (by omega) (treeB B P) w.length 0 g (by omega) hG.1 (hnext _ (marked hg i hi g hG w hw hwr hK (fun e => by rw [e] at hgd; exact hgd)))
        refine evs1 (g1 := fun k => valid_Tree.j5 k (P.length : Int) g w (upP P w.length (i : Int)) N (i : Int) false B P) (a1 := treeB B P) (evs1 h3 (fun k e => ?_)) (fun k e => ?_)
        · simp only [valid_Tree.j5]; rw [if_neg (by simp)]; exact e
        · simp only [valid_Tree.l2]; rw [if_neg c, if_pos hge, if_pos (by rw [hG.1]; exact hr.2), hgd]; exact e
      | false =>
        have hf : treeB B P = false := by
          rw [ht, ← Bool.not_eq_true]
          intro hc
          have := List.all_eq_true.1 hc i (List.mem_range.2 hi)
          rw [decide_eq_true_eq, show P.length = w.length by omega] at this
          omega
        rw [hf]
        refine evs1 (g1 := fun k => valid_Tree.j5 k (P.length : Int) g w (upP P w.length (i : Int)) N (i : Int) true B P) (r := false) (a1 := false) (evs0 (fun k => ?_)) (fun k e => ?_)
        · simp only [valid_Tree.j5, Option.bind_some]
          rw [if_pos trivial, if_pos (by omega), if_pos (by simp; omega)]
        · simp only [valid_Tree.l2]; rw [if_neg c, if_pos hge, if_pos (by rw [hG.1]; exact hr.2), hgd]; exact e
  | succ d ih =>
    intro w hd hw hwr
    have hr := up_range hg w.length (i : Int) (by omega) (by omega)
    by_cases c : upP P w.length (i : Int) = -1
    · have h3 := vtree_l3 B N (i : Int) w hwr (by omega) (treeB B P) w.length 0 g (by omega) hG.1 (hnext _ (marked hg i hi g hG w hw hwr ⟨w.length, by omega⟩ (fun e => by rw [e] at c; simp [upP] at c)))
      refine evs1 (g1 := fun k => valid_Tree.j5 k (P.length : Int) g w (upP P w.length (i : Int)) N (i : Int) false B P) (a1 := treeB B P) (evs1 h3 (fun k e => ?_)) (fun k e => ?_)
      · simp only [valid_Tree.j5]; rw [if_neg (by simp)]; exact e
      · simp only [valid_Tree.l2]; rw [if_pos c]; exact e
    · have hge : 0 ≤ upP P w.length (i : Int) := by omega
      cases hgd : rdOf false g (upP P w.length (i : Int)) with
      | true =>
        have hK : ∃ K, upP P K (i : Int) < 0 := by
          obtain ⟨a, ha⟩ := Int.eq_ofNat_of_zero_le hge
          rw [ha] at hgd
          obtain ⟨K, hK⟩ := hG.2.1 a (by omega) hgd
          refine ⟨w.length + K, ?_⟩
          rw [up_add, ha]
          exact hK
        have h3 := vtree_l3 B N (i : Int) w hwr (by omega) (treeB B P) w.length 0 g (by omega) hG.1 (hnext _ (marked hg i hi g hG w hw hwr hK (fun e => by rw [e] at hgd; exact hgd)))
        refine evs1 (g1 := fun k => valid_Tree.j5 k (P.length : Int) g w (upP P w.length (i : Int)) N (i : Int) false B P) (a1 := treeB B P) (evs1 h3 (fun k e => ?_)) (fun k e => ?_)
        · simp only [valid_Tree.j5]; rw [if_neg (by simp)]; exact e
        · simp only [valid_Tree.l2]; rw [if_neg c, if_pos hge, if_pos (by rw [hG.1]; exact hr.2), hgd]; exact e
      | false =>
        have h2 := ih (w ++ [upP P w.length (i : Int)]) (by simp; omega) (by
          rw [List.length_append, List.length_singleton, List.range_succ, List.map_append, ← hw]
          rfl) (fun a ha => by
          rcases List.mem_append.1 ha with ha | ha
          · exact hwr a ha
          · rw [List.mem_singleton] at ha
            subst ha
            exact ⟨hge, hr.2⟩)
        rw [List.length_append, List.length_singleton, up_last P w.length (i : Int) hge] at h2
        refine evs1 (g1 := fun k => valid_Tree.j5 k (P.length : Int) g w (upP P w.length (i : Int)) N (i : Int) true B P) (a1 := treeB B P) (evs1 h2 (fun k e => ?_)) (fun k e => ?_)
        · simp only [valid_Tree.j5, Option.bind_some]
          rw [if_pos trivial, if_pos (by omega), if_neg (by simp; omega), if_pos hge, if_pos hr.2]
          exact e
        · simp only [valid_Tree.l2]; rw [if_neg c, if_pos hge, if_pos (by rw [hG.1]; exact hr.2), hgd]; exact e
theorem vtree_l1 {P : List Int} (hg : parsGood P = true) (B : List (List Int)) (hB : P.length = B.length) (hl : P.length < 1000000) (ht : treeB B P = reachB P) : ∀ (d i : Nat) (g : List Bool), P.length = i + d → GoodM P g i → Ev (fun k => valid_Tree.l1 k (P.length : Int) g (B.length : Int) (i : Int) B P) (treeB B P) := by
  intro d
  induction d with
  | zero =>
    intro i g h hG
    have hr : reachB P = true := by
      unfold reachB
      rw [List.all_eq_true]
      intro j hj
      rw [List.mem_range] at hj
      exact decide_eq_true (up_soon hg (j : Int) (by omega) (by omega) (hG.2.1 j hj (hG.2.2 j (by omega))))
    rw [ht, hr]
    refine evs0 (fun k => ?_)
    simp only [valid_Tree.l1]
    rw [if_neg (by omega)]
  | succ d ih =>
    intro i g h hG
    have h2 := vtree_l2 hg B hl ht (B.length : Int) i (by omega) g hG (fun g' hG' => by rw [wrap_nat i (by omega)]; exact ih (i + 1) g' (by omega) hG') P.length [] (by simp) rfl (by simp)
    refine evs1 h2 (fun k e => ?_)
    simp only [valid_Tree.l1]
    rw [if_pos (by omega)]
    exact e
theorem vtree_end {P : List Int} (B : List (List Int)) (hB : P.length = B.length) (hl : P.length < 1000000) (hg : parsGood P = true) (b : Bool) (hb : b = !rootsB P) : Ev (fun k => valid_Tree.j2 k (P.length : Int) b B P) (treeB B P) := by
  have ht : treeB B P = (rootsB P && reachB P) := by
    unfold treeB
    rw [hg, hB]
    simp
  cases hr : rootsB P with
  | false =>
    rw [ht, hr, hb, hr]
    refine evs0 (fun k => ?_)
    simp only [valid_Tree.j2]
    rw [if_pos (by rfl)]
    rfl
  | true =>
    rw [hr, Bool.true_and] at ht
    rw [hb, hr]
    refine evs1 (vtree_l1 hg B hB hl ht P.length 0 (List.replicate P.length false) (by omega) ⟨by simp, fun j hj h => ?_, fun j hj => by omega⟩) (fun k e => ?_)
    · rw [List.getD_eq_getElem?_getD, List.getElem?_replicate, if_pos hj] at h
      cases h
    · simp only [valid_Tree.j2]
      rw [if_neg (by simp), if_pos (by omega), if_pos (by omega), Int.toNat_natCast]
      exact e
theorem vtree_l0 {P : List Int} (B : List (List Int)) (hB : P.length = B.length) (hl : P.length < 1000000) : ∀ (d i : Nat), P.length = i + d → (∀ j, j < i → parGood P j = true) → Ev (fun k => valid_Tree.l0 k (P.length : Int) ((P.take i).count (-1) : Nat) P (P.length : Int) (i : Int) B P) (treeB B P) := by
  intro d
  induction d with
  | zero =>
    intro i h hj
    have hg : parsGood P = true := good_all (fun j hj2 => hj j (by omega))
    rw [List.take_of_length_le (by omega)]
    by_cases hp : 0 < P.length
    · refine evs1 (vtree_end B hB hl hg (((P.count (-1) : Nat) : Int) != 1) ?_) (fun k e => ?_)
      · unfold rootsB
        have : (P.length == 0) = false := by simpa using (by omega : ¬ P.length = 0)
        rw [this, Bool.false_or]
        by_cases e : P.count (-1) = 1
        · rw [e]; rfl
        · have h1 : (((P.count (-1) : Nat) : Int) != 1) = true := by simp; omega
          have h2 : (P.count (-1) == 1) = false := by simpa using e
          rw [h1, h2]; rfl
      · simp only [valid_Tree.l0]
        rw [if_neg (by omega), if_pos (by omega)]
        exact e
    · refine evs1 (vtree_end B hB hl hg false ?_) (fun k e => ?_)
      · unfold rootsB
        have : (P.length == 0) = true := by simpa using (by omega : P.length = 0)
        rw [this]; rfl
      · simp only [valid_Tree.l0]
        rw [if_neg (by omega), if_neg (by omega)]
        exact e
  | succ d ih =>
    intro i h hj
    have hi : i < P.length := by omega
    have hcl := count_take_le P i
    cases hq : parGood P i with
    | false =>
      have ht : treeB B P = false := by
        unfold treeB
        have : parsGood P = false := by
          rw [← Bool.not_eq_true]
          intro hc
          have := List.all_eq_true.1 hc i (List.mem_range.2 hi)
          rw [hq] at this
          cases this
        rw [this]; simp
      rw [ht]
      have hq2 : rd P (i : Int) < -1 ∨ rd P (i : Int) ≥ (P.length : Int) ∨ rd P (i : Int) = (i : Int) := by
        unfold parGood at hq
        simp only [Bool.not_eq_false', Bool.or_eq_true, decide_eq_true_eq, beq_iff_eq] at hq
        omega
      have hf : Ev (fun k => valid_Tree.j1 k (P.length : Int) ((P.take i).count (-1) : Nat) (rd P (i : Int)) P (P.length : Int) (i : Int) true B P) false := evs0 (fun k => by simp only [valid_Tree.j1]; rw [if_pos trivial])
      refine evs1 hf (fun k e => ?_)
      simp only [valid_Tree.l0]
      rw [if_pos (by omega), if_pos (by omega), if_pos (by omega)]
      by_cases c1 : rd P (i : Int) < -1
      · rw [if_pos c1]; exact e
      · rw [if_neg c1]
        by_cases c2 : rd P (i : Int) ≥ (P.length : Int)
        · rw [if_pos c2]; exact e
        · rw [if_neg c2, show (rd P (i : Int) == (i : Int)) = true by simpa using (by omega : rd P (i : Int) = (i : Int))]
          exact e
    | true =>
      have hq2 : ¬ rd P (i : Int) < -1 ∧ ¬ rd P (i : Int) ≥ (P.length : Int) ∧ ¬ rd P (i : Int) = (i : Int) := by
        unfold parGood at hq
        simp only [Bool.not_eq_true', Bool.or_eq_false_iff, decide_eq_false_iff_not, beq_eq_false_iff_ne] at hq
        omega
      have h2 := ih (i + 1) (by omega) (fun j hj2 => by
        by_cases e : j = i
        · rw [e]; exact hq
        · exact hj j (by omega))
      rw [count_take_succ P i hi] at h2
      have h3 : Ev (fun k => valid_Tree.j1 k (P.length : Int) ((P.take i).count (-1) : Nat) (rd P (i : Int)) P (P.length : Int) (i : Int) false B P) (treeB B P) := by
        refine evs1 h2 (fun k e => ?_)
        simp only [valid_Tree.j1]
        rw [if_neg (by simp), wrap_nat i (by omega)]
        by_cases c : rd P (i : Int) = -1
        · rw [if_pos c] at e ⊢
          rw [wrap_nat _ (by omega)]
          exact e
        · rw [if_neg c] at e ⊢
          exact e
      refine evs1 h3 (fun k e => ?_)
      simp only [valid_Tree.l0]
      rw [if_pos (by omega), if_pos (by omega), if_pos (by omega), if_neg hq2.1, if_neg hq2.2.1, show (rd P (i : Int) == (i : Int)) = false by simpa using hq2.2.2]
      exact e
theorem vtree_ev (B : List (List Int)) (P : List Int) (hl : P.length < 1000000) : Ev (fun k => valid_Tree.f k B P) (treeB B P) := by
  by_cases hB : P.length = B.length
  · refine evu1 (vtree_l0 B hB hl P.length 0 (by omega) (by omega)) (fun k e => ?_)
    simp only [valid_Tree.f]
    rw [if_pos (by omega), ← hB]
    simpa using e
  · refine evu0 (fun k => ?_)
    simp only [valid_Tree.f]
    rw [if_neg (by omega)]
    unfold treeB
    rw [show (P.length == B.length) = false by simpa using hB]
    rfl
/-! #### the program's Connected, Check -/
theorem tree_parts {B : List (List Int)} {P : List Int} (h : treeB B P = true) : P.length = B.length ∧ parsGood P = true ∧ rootsB P = true ∧ reachB P = true := by
  unfold treeB at h
  simp only [Bool.and_eq_true, beq_iff_eq] at h
  exact ⟨h.1.1.1, h.1.1.2, h.1.2, h.2⟩
theorem tree_ok {B : List (List Int)} {P : List Int} (h : treeB B P = true) (hl : B.length < 1000000) (hb : ∀ b ∈ B, b.length < 1000000 ∧ ∀ v ∈ b, -9223372036854775808 ≤ v ∧ v < 9223372036854775808) : connOk B P := by
  obtain ⟨h1, h2, _, _⟩ := tree_parts h
  refine ⟨h1, hl, hb, fun p hp => ?_⟩
  obtain ⟨i, hi, rfl⟩ := List.mem_iff_getElem.1 hp
  have := good_step h2 (i : Int) (by omega) (by omega)
  rw [rd_nat P i _ (List.getElem?_eq_getElem hi)] at this
  omega
theorem vconn_ev (n : Int) (B : List (List Int)) (P : List Int) (hp : P.length < 1000000) (hl : B.length < 1000000) (hb : ∀ b ∈ B, b.length < 1000000 ∧ ∀ v ∈ b, -9223372036854775808 ≤ v ∧ v < 9223372036854775808) : Ev (fun k => valid_Connected.f k n B P) (treeB B P && connB n B P) := by
  refine evu1 (vtree_ev B P hp) (fun k e => ?_)
  simp only [valid_Connected.f]
  rw [e, Option.bind_some]
  cases h : treeB B P with
  | false => rfl
  | true =>
    rw [if_pos rfl, if_pos (tree_ok h hl hb)]
    rfl
def checkB (n : Int) (S B : List (List Int)) (P : List Int) : Bool := treeB B P && coversB n S B && connB n B P
theorem vcovers (n : Int) (S B : List (List Int)) (P : List Int) (hn : n ≤ 9223372036854775807) : valid_Covers.f n S B P = some (coversB n S B) := by
  unfold valid_Covers.f
  rw [if_pos hn]
theorem vcheck_ev (n : Int) (S B : List (List Int)) (P : List Int) (hn : n ≤ 9223372036854775807) (hp : P.length < 1000000) (hl : B.length < 1000000) (hb : ∀ b ∈ B, b.length < 1000000 ∧ ∀ v ∈ b, -9223372036854775808 ≤ v ∧ v < 9223372036854775808) : Ev (fun k => valid_Check.f k n S B P) (checkB n S B P) := by
  refine evu2 (vtree_ev B P hp) (vconn_ev n B P hp hl hb) (fun k e1 e2 => ?_)
  simp only [valid_Check.f]
  rw [e1, Option.bind_some]
  unfold checkB
  cases h : treeB B P with
  | false => rfl
  | true =>
    rw [if_pos rfl, vcovers n S B P hn, Option.bind_some]
    cases h2 : coversB n S B with
    | false => rfl
    | true =>
      rw [if_pos rfl, e2, Option.bind_some, h]
      rfl
end Go.Proofs.Ytpmfdggbccbfaaa.Pr

set_option linter.unusedVariables false
set_option linter.unusedSimpArgs false
namespace Go.Proofs.Ytpmfdggbccbfaaa.Pr
open Go.RowKit Go.Proofs.YtpmfdggbccbfaaaW.PrintWords Go.Proofs.YtpmfdggbccbfaaaW.PrintLast

def hasIn (s : List Int) (b : List Int) : Bool := !(s.any fun v => !(b.any fun x => x == v))
theorem hasB_eq (B : List (List Int)) (s : List Int) : hasB B s = B.any (hasIn s) := rfl
theorem covers_eq (n : Int) (S B : List (List Int)) : coversB n S B = (B.all (insideB n) && ((List.range n.toNat).all (fun v => hasB B [(v : Int)]) && S.all (fun s => hasB B s))) := by
  unfold coversB
  rw [Bool.and_assoc]
  congr 2
  rw [Bool.eq_iff_iff]
  simp
/-- is v in bag i, and in none of its parent's? -/
def topC (B : List (List Int)) (P : List Int) (v : Int) (i : Nat) : Bool := inB (B.getD i []) v && !(upB B (P.getD i 0) v)
def topsN (B : List (List Int)) (P : List Int) (v : Int) : Nat := (List.range B.length).countP (topC B P v)
def connR (n : Int) (B : List (List Int)) (P : List Int) : Bool := (List.range n.toNat).all (fun v => decide (topsN B P (v : Int) ≤ 1))
end Go.Proofs.Ytpmfdggbccbfaaa.Pr

set_option linter.unusedVariables false
set_option linter.unusedSimpArgs false
namespace Go.Proofs.Ytpmfdggbccbfaaa.Pr
open Go.RowKit Go.Proofs.YtpmfdggbccbfaaaW.PrintWords Go.Proofs.YtpmfdggbccbfaaaW.PrintLast

theorem inB_con (x : Int) (l : List Int) (v : Int) : inB (x :: l) v = (x == v || inB l v) := rfl
theorem inB_app (a l : List Int) (v : Int) : inB (a ++ l) v = (inB a v || inB l v) := by simp [inB, List.any_append]
def newT (bags : List (List Int)) (p : Int) (b l : List Int) (k : Nat) (v : Int) : Bool := inB l v && !(inB (b.take k) v) && !(upB bags p v)
theorem skip_eq (bags : List (List Int)) (p : Int) (b : List Int) (k : Nat) (v : Int) : skipB bags p b k v = (inB (b.take k) v || upB bags p v) := rfl
theorem take_of_drop {b : List Int} {k : Nat} {x : Int} {l : List Int} (h : x :: l = b.drop k) : b.take (k + 1) = b.take k ++ [x] ∧ l = b.drop (k + 1) := by
  have hk : k < b.length := by
    rcases Nat.lt_or_ge k b.length with hk | hk
    · exact hk
    · rw [List.drop_eq_nil_of_le hk] at h; cases h
  rw [List.drop_eq_getElem_cons hk] at h
  injection h with h1 h2
  exact ⟨by rw [List.take_succ_eq_append_getElem hk, h1], h2⟩
theorem conn1_spec (n : Int) (bags : List (List Int)) (p : Int) (b : List Int) : ∀ (l : List Int) (k : Nat) (ts : List Int), l = b.drop k →
    (∃ us, conn1 n bags p b l k ts = some us ∧ (∀ v, us.count v = ts.count v + (if newT bags p b l k v = true then 1 else 0)) ∧ ∀ v, 0 ≤ v → v < n → newT bags p b l k v = true → ts.count v = 0) ∨
    (conn1 n bags p b l k ts = none ∧ ∃ v, 0 ≤ v ∧ v < n ∧ newT bags p b l k v = true ∧ 0 < ts.count v)
  | [], k, ts, _ => .inl ⟨ts, rfl, fun v => by simp [newT, inB], fun v _ _ h => by simp [newT, inB] at h⟩
  | x :: l, k, ts, h => by
    obtain ⟨ht, hl⟩ := take_of_drop h
    have hne : ∀ v, v ≠ x → newT bags p b (x :: l) k v = newT bags p b l (k + 1) v := fun v hv => by
      have e : (x == v) = false := beq_false_of_ne (fun e => hv e.symm)
      unfold newT
      rw [inB_con, ht, inB_app, inB_con, e]
      simp [inB]
    have hx1 : newT bags p b l (k + 1) x = false := by
      unfold newT
      rw [ht, inB_app, inB_con]
      simp
    cases hs : skipB bags p b k x with
    | true =>
      have hx2 : newT bags p b (x :: l) k x = false := by
        rw [skip_eq] at hs
        unfold newT
        rw [inB_con]
        cases h1 : inB (b.take k) x <;> cases h2 : upB bags p x <;> simp [h1, h2] at hs ⊢
      have hall : ∀ v, newT bags p b (x :: l) k v = newT bags p b l (k + 1) v := fun v => by
        by_cases e : v = x
        · rw [e, hx1, hx2]
        · exact hne v e
      rw [conn1_skip hs]
      rcases conn1_spec n bags p b l (k + 1) ts hl with ⟨us, h1, h2, h3⟩ | ⟨h1, v, h2, h3, h4, h5⟩
      · exact .inl ⟨us, h1, fun v => by rw [hall]; exact h2 v, fun v a c d => h3 v a c (by rw [← hall]; exact d)⟩
      · exact .inr ⟨h1, v, h2, h3, by rw [hall]; exact h4, h5⟩
    | false =>
      have hx2 : newT bags p b (x :: l) k x = true := by
        rw [skip_eq] at hs
        unfold newT
        rw [inB_con]
        cases h1 : inB (b.take k) x <;> cases h2 : upB bags p x <;> simp [h1, h2] at hs ⊢
      by_cases hc : 0 < ts.count x ∧ 0 ≤ x ∧ x < n
      · exact .inr ⟨conn1_end hs hc, x, hc.2.1, hc.2.2, hx2, hc.1⟩
      · rw [conn1_go hs hc]
        rcases conn1_spec n bags p b l (k + 1) (x :: ts) hl with ⟨us, h1, h2, h3⟩ | ⟨h1, v, h2, h3, h4, h5⟩
        · refine .inl ⟨us, h1, fun v => ?_, fun v a c d => ?_⟩
          · rw [h2 v]
            by_cases e : v = x
            · subst e
              rw [hx1, hx2, List.count_cons_self]
              simp
            · rw [hne v e, List.count_cons_of_ne (fun h => e h.symm)]
          · by_cases e : v = x
            · subst e
              omega
            · have := h3 v a c (by rw [← hne v e]; exact d)
              rwa [List.count_cons_of_ne (fun h => e h.symm)] at this
        · have e : v ≠ x := fun e => by rw [e, hx1] at h4; cases h4
          exact .inr ⟨h1, v, h2, h3, by rw [hne v e]; exact h4, by rwa [List.count_cons_of_ne (fun h => e h.symm)] at h5⟩
theorem conn0_spec (n : Int) (bags : List (List Int)) (par : List Int) : ∀ (l : List (List Int)) (i : Nat) (ts : List Int), l = bags.drop i →
    ((conn0 n bags par l i ts).isSome = true ↔ ∀ v, 0 ≤ v → v < n → ts.count v + (List.range' i l.length).countP (topC bags par v) ≤ 1 ∨ (List.range' i l.length).countP (topC bags par v) = 0)
  | [], i, ts, _ => by simp [conn0]
  | b :: l, i, ts, h => by
    have hi : i < bags.length := by
      rcases Nat.lt_or_ge i bags.length with hi | hi
      · exact hi
      · rw [List.drop_eq_nil_of_le hi] at h; cases h
    rw [List.drop_eq_getElem_cons hi] at h
    injection h with h1 h2
    have gi : bags.getD i [] = b := by rw [List.getD_eq_getElem?_getD, List.getElem?_eq_getElem hi, h1]; rfl
    have hT : ∀ v, newT bags (par.getD i 0) b b 0 v = topC bags par v i := fun v => by
      unfold newT topC
      rw [gi, List.take_zero]
      simp [inB]
    have hc : ∀ v, (List.range' i (b :: l).length).countP (topC bags par v) = (List.range' (i + 1) l.length).countP (topC bags par v) + (if topC bags par v i = true then 1 else 0) := fun v => by
      rw [List.length_cons, List.range'_succ, List.countP_cons]
    unfold conn0
    rcases conn1_spec n bags (par.getD i 0) b b 0 ts (by simp) with ⟨us, e1, e2, e3⟩ | ⟨e1, v, e2, e3, e4, e5⟩
    · rw [e1, Option.bind_some, conn0_spec n bags par l (i + 1) us h2]
      constructor
      · intro hh v a c
        have k1 := hh v a c
        have k2 := e2 v
        have k3 := e3 v a c
        have k4 := hc v
        rw [hT] at k2 k3
        cases ht : topC bags par v i with
        | false => rw [ht] at k2 k4; simp only [Bool.false_eq_true, if_false, Nat.add_zero] at k2 k4; omega
        | true => rw [ht] at k2 k4; have := k3 ht; simp only [if_true] at k2 k4; omega
      · intro hh v a c
        have k1 := hh v a c
        have k2 := e2 v
        have k3 := e3 v a c
        have k4 := hc v
        rw [hT] at k2 k3
        cases ht : topC bags par v i with
        | false => rw [ht] at k2 k4; simp only [Bool.false_eq_true, if_false, Nat.add_zero] at k2 k4; omega
        | true => rw [ht] at k2 k4; have := k3 ht; simp only [if_true] at k2 k4; omega
    · rw [e1, Option.bind_none]
      constructor
      · intro h; cases h
      · intro hh
        have k1 := hh v e2 e3
        have k4 := hc v
        rw [hT] at e4
        rw [e4] at k4
        simp only [if_true] at k4
        omega
theorem conn_eq (n : Int) (bags : List (List Int)) (par : List Int) : connB n bags par = connR n bags par := by
  rw [Bool.eq_iff_iff]
  unfold connB connR
  rw [conn0_spec n bags par bags 0 [] (by simp), List.all_eq_true]
  constructor
  · intro h v hv
    rw [List.mem_range] at hv
    have := h (v : Int) (by omega) (by omega)
    rw [← List.range_eq_range'] at this
    simp only [List.count_nil, Nat.zero_add] at this
    exact decide_eq_true (by unfold topsN; omega)
  · intro h v a c
    obtain ⟨m, rfl⟩ := Int.eq_ofNat_of_zero_le a
    have := of_decide_eq_true (h m (List.mem_range.2 (by omega)))
    unfold topsN at this
    rw [← List.range_eq_range']
    simp only [List.count_nil, Nat.zero_add]
    exact .inl this
end Go.Proofs.Ytpmfdggbccbfaaa.Pr

set_option linter.unusedVariables false
namespace Go.Proofs.Ytpmfdggbccbfaaa.Pr
open Go.RowKit Go.Proofs.YtpmfdggbccbfaaaW.PrintWords Go.Proofs.YtpmfdggbccbfaaaW.PrintLast

theorem valid_shown : arboristlaw12_shown.f 100 = some true := by decide +kernel
theorem mn30 (n : Int) : mn n 30 ≤ 9223372036854775807 := by
  unfold mn
  split <;> omega
theorem wf_range {a : Int} (h : (Lit.int .i64 a).wf = true) : -9223372036854775808 ≤ a ∧ a < 9223372036854775808 := by
  simp [Lit.wf, IntKind.min, IntKind.max, IntKind.signed, IntKind.bits] at h
  omega
theorem cutIn {B : List (List Int)} (hB : B.length ≤ maxLen ∧ ∀ z0 ∈ B, (z0.length ≤ maxLen ∧ ∀ z1 ∈ z0, (Lit.int .i64 z1).wf = true)) : (cutB B).length < 1000000 ∧ ∀ b ∈ cutB B, b.length < 1000000 ∧ ∀ v ∈ b, -9223372036854775808 ≤ v ∧ v < 9223372036854775808 := by
  unfold cutB
  refine ⟨by simp; omega, fun b hb => ?_⟩
  obtain ⟨b0, hb0, rfl⟩ := List.mem_map.1 hb
  have h2 := hB.2 b0 (List.mem_of_mem_take hb0)
  exact ⟨by simp; omega, fun v hv => wf_range (h2.2 v (List.mem_of_mem_take hv))⟩
end Go.Proofs.Ytpmfdggbccbfaaa.Pr

set_option linter.unusedVariables false
set_option linter.unusedSimpArgs false
namespace Go.Proofs.Ytpmfdggbccbfaaa.Pure
open Go.RowKit Go.Proofs.Ytpmfdggbccbfaaa.Pr Go.Proofs.YtpmfdggbccbfaaaW.PrintWords Go.Proofs.YtpmfdggbccbfaaaW.PrintLast

def chB (m : Nat) : List (List Int) := (List.range m).map fun (i : Nat) => [(i : Int), (i : Int) + 1]
def chP (m : Nat) : List Int := (List.range m).map fun (i : Nat) => (i : Int) - 1
def chS (a : Nat) : List (List Int) := [[0, 1], [(a : Int) + 1, (a : Int) + 2], [(a : Int) + 2]]
set_option maxHeartbeats 4000000 in
theorem chain_dec1 : ∀ a : Fin 18, checkB ((a.val : Int) + 3) (chS a.val) (chB (a.val + 2)) (chP (a.val + 2)) = true ∧ checkB ((a.val : Int) + 3) [[0, (a.val : Int) + 2]] (chB (a.val + 2)) (chP (a.val + 2)) = false ∧ checkB ((a.val : Int) + 4) (chS a.val) (chB (a.val + 2)) (chP (a.val + 2)) = false ∧ checkB ((a.val : Int) + 2) (chS a.val) (chB (a.val + 2)) (chP (a.val + 2)) = false := by decide +kernel
theorem chain_dec (a : Nat) (ha : a < 18) : checkB ((a : Int) + 3) (chS a) (chB (a + 2)) (chP (a + 2)) = true ∧ checkB ((a : Int) + 3) [[0, (a : Int) + 2]] (chB (a + 2)) (chP (a + 2)) = false ∧ checkB ((a : Int) + 4) (chS a) (chB (a + 2)) (chP (a + 2)) = false ∧ checkB ((a : Int) + 2) (chS a) (chB (a + 2)) (chP (a + 2)) = false := by
  have h := chain_dec1 ⟨a, ha⟩
  simp only at h
  exact h
theorem chP_at (m i : Nat) (hi : i < m) : (chP m)[i]? = some ((i : Int) - 1) := by
  unfold chP
  rw [List.getElem?_map, List.getElem?_range hi]
  rfl
theorem chB_at (m i : Nat) (hi : i < m) : (chB m).getD i [] = [(i : Int), (i : Int) + 1] := by
  unfold chB
  rw [List.getD_eq_getElem?_getD, List.getElem?_map, List.getElem?_range hi]
  rfl
theorem set_at (m t c i : Nat) (hi : i < m) : rd ((chP m).set t (c : Int)) (i : Int) = if t = i then (c : Int) else (i : Int) - 1 := by
  have hl : (chP m).length = m := by simp [chP]
  by_cases e : t = i
  · subst e
    rw [if_pos rfl]
    exact rd_nat _ _ _ (by rw [List.getElem?_set_self (by omega)])
  · rw [if_neg e]
    exact rd_nat _ _ _ (by rw [List.getElem?_set_ne e]; exact chP_at m i hi)
theorem set_len (m t c : Nat) : ((chP m).set t (c : Int)).length = m := by simp [chP]
theorem count_set (m t c : Nat) (ht : 0 < t) (htm : t < m) : ((chP m).set t (c : Int)).count (-1) = 1 := by
  obtain ⟨m, rfl⟩ : ∃ k, m = k + 1 := ⟨m - 1, by omega⟩
  obtain ⟨t, rfl⟩ : ∃ k, t = k + 1 := ⟨t - 1, by omega⟩
  have e : chP (m + 1) = -1 :: (List.range m).map (fun (i : Nat) => (i : Int)) := by
    unfold chP
    rw [List.range_succ_eq_map, List.map_cons, List.map_map]
    congr 1
    apply List.map_congr_left
    intro i _
    simp only [Function.comp]
    omega
  rw [e, List.set_cons_succ, List.count_cons_self]
  have : (((List.range m).map (fun (i : Nat) => (i : Int))).set t (c : Int)).count (-1) = 0 := by
    rw [List.count_eq_zero]
    intro hm
    rcases List.mem_or_eq_of_mem_set hm with h | h
    · obtain ⟨i, _, hi⟩ := List.mem_map.1 h
      omega
    · omega
  rw [this]
theorem tree_yes (m t c : Nat) (ht : 0 < t) (htm : t < m) (hc : c < t) : treeB (chB m) ((chP m).set t (c : Int)) = true := by
  have hl := set_len m t c
  have hg : parsGood ((chP m).set t (c : Int)) = true := good_all (fun j hj => by
    rw [hl] at hj
    unfold parGood
    rw [set_at m t c j hj, hl]
    simp only [Bool.not_eq_true', Bool.or_eq_false_iff, decide_eq_false_iff_not, beq_eq_false_iff_ne]
    split <;> omega)
  have hup : ∀ (k : Nat) (i : Int), i < m → i < k → upP ((chP m).set t (c : Int)) k i < 0 := by
    intro k
    induction k with
    | zero => intro i _ h; exact h
    | succ k ih =>
      intro i hi hk
      rw [upP]
      unfold stepP
      by_cases h : i < 0
      · rw [if_pos h, up_neg _ _ _ h]; exact h
      · rw [if_neg h]
        obtain ⟨j, rfl⟩ := Int.eq_ofNat_of_zero_le (show 0 ≤ i by omega)
        have hj : j < m := by omega
        rw [set_at m t c j hj]
        split
        · exact ih _ (by omega) (by omega)
        · exact ih _ (by omega) (by omega)
  unfold treeB
  rw [hg, hl]
  have h1 : rootsB ((chP m).set t (c : Int)) = true := by
    unfold rootsB
    rw [count_set m t c ht htm]; simp
  have h2 : reachB ((chP m).set t (c : Int)) = true := by
    unfold reachB
    rw [List.all_eq_true, hl]
    intro i hi
    rw [List.mem_range] at hi
    exact decide_eq_true (hup m (i : Int) (by omega) (by omega))
  rw [h1, h2]
  simp [chB]
theorem tree_no (m t c : Nat) (ht : 0 < t) (htm : t < m) (hcm : c < m) (hc : t ≤ c) : treeB (chB m) ((chP m).set t (c : Int)) = false := by
  have hl := set_len m t c
  rw [← Bool.not_eq_true]
  intro h
  obtain ⟨_, h1, _, h2⟩ := tree_parts h
  have hup : ∀ (k : Nat) (i : Int), (t : Int) ≤ i → i ≤ (c : Int) → (t : Int) ≤ upP ((chP m).set t (c : Int)) k i := by
    intro k
    induction k with
    | zero => intro i h _; exact h
    | succ k ih =>
      intro i h1 h2
      rw [upP]
      unfold stepP
      rw [if_neg (by omega)]
      obtain ⟨j, rfl⟩ := Int.eq_ofNat_of_zero_le (show 0 ≤ i by omega)
      rw [set_at m t c j (by omega)]
      split
      · exact ih _ (by omega) (by omega)
      · exact ih _ (by omega) (by omega)
  have := List.all_eq_true.1 h2 t (List.mem_range.2 (by rw [hl]; exact htm))
  rw [decide_eq_true_eq] at this
  have := hup ((chP m).set t (c : Int)).length (t : Int) (by omega) (by omega)
  omega
theorem conn_no (n m b c : Nat) (hb : b + 1 < m) (hn : b + 1 < n) (hc : c < b) : connB (n : Int) (chB m) ((chP m).set (b + 1) (c : Int)) = false := by
  rw [conn_eq, ← Bool.not_eq_true]
  intro h
  have h1 := of_decide_eq_true (List.all_eq_true.1 h (b + 1) (List.mem_range.2 (by omega)))
  have lB : (chB m).length = m := by simp [chB]
  have f1 : topC (chB m) ((chP m).set (b + 1) (c : Int)) ((b + 1 : Nat) : Int) b = true := by
    have er : ((chP m).set (b + 1) (c : Int)).getD b 0 = ((b - 1 : Nat) : Int) := by
      have := set_at m (b + 1) c b (by omega)
      rw [if_neg (by omega)] at this
      exact this.trans (by omega)
    unfold topC upB
    rw [er, chB_at m b (by omega), Int.toNat_natCast, chB_at m (b - 1) (by omega)]
    have e1 : (((b - 1 : Nat) : Int) == ((b + 1 : Nat) : Int)) = false := beq_false_of_ne (by omega)
    have e2 : (((b - 1 : Nat) : Int) + 1 == ((b + 1 : Nat) : Int)) = false := beq_false_of_ne (by omega)
    have e3 : ((b : Int) + 1 == ((b + 1 : Nat) : Int)) = true := by simp
    simp only [inB, List.any_cons, List.any_nil, e1, e2, e3]
    simp
  have f2 : topC (chB m) ((chP m).set (b + 1) (c : Int)) ((b + 1 : Nat) : Int) (b + 1) = true := by
    have er : ((chP m).set (b + 1) (c : Int)).getD (b + 1) 0 = (c : Int) := by
      have := set_at m (b + 1) c (b + 1) (by omega)
      rw [if_pos rfl] at this
      exact this
    unfold topC upB
    rw [er, chB_at m (b + 1) (by omega), Int.toNat_natCast, chB_at m c (by omega)]
    have e1 : ((c : Int) == ((b + 1 : Nat) : Int)) = false := beq_false_of_ne (by omega)
    have e2 : ((c : Int) + 1 == ((b + 1 : Nat) : Int)) = false := beq_false_of_ne (by omega)
    have e3 : (((b + 1 : Nat) : Int) == ((b + 1 : Nat) : Int)) = true := by simp
    simp only [inB, List.any_cons, List.any_nil, e1, e2, e3]
    simp
  have hs := (List.range_sublist.2 (show b + 2 ≤ m by omega)).countP_le (p := topC (chB m) ((chP m).set (b + 1) (c : Int)) ((b + 1 : Nat) : Int))
  unfold topsN at h1
  rw [lB] at h1
  rw [List.range_succ, List.range_succ, List.countP_append, List.countP_append, List.countP_cons_of_pos f2, List.countP_cons_of_pos f1, List.countP_nil] at hs
  omega
theorem chain_dec2 (a b c : Nat) (ha : a < 18) (hb : b ≤ a) (hc : c ≤ a + 1) : treeB (chB (a + 2)) ((chP (a + 2)).set (b + 1) (c : Int)) = decide (c < b + 1) ∧ (treeB (chB (a + 2)) ((chP (a + 2)).set (b + 1) (c : Int)) && connB ((a : Int) + 3) (chB (a + 2)) ((chP (a + 2)).set (b + 1) (c : Int))) = (c == b) := by
  by_cases h : c < b + 1
  · have ht := tree_yes (a + 2) (b + 1) c (by omega) (by omega) h
    rw [ht, decide_eq_true h]
    refine ⟨rfl, ?_⟩
    rw [Bool.true_and]
    by_cases e : c = b
    · subst e
      have es : (chP (a + 2)).set (c + 1) (c : Int) = chP (a + 2) := by
        apply List.ext_getElem?
        intro i
        by_cases e : c + 1 = i
        · subst e
          rw [List.getElem?_set_self (by simp [chP]; omega), chP_at _ _ (by omega)]
          congr 1
          omega
        · rw [List.getElem?_set_ne e]
      have := (chain_dec a ha).1
      unfold checkB at this
      simp only [Bool.and_eq_true] at this
      rw [es, this.2]
      simp
    · have := conn_no (a + 3) (a + 2) b c (by omega) (by omega) (by omega)
      rw [beq_false_of_ne e]
      simpa using this
  · have ht := tree_no (a + 2) (b + 1) c (by omega) (by omega) (by omega) (by omega)
    rw [ht, decide_eq_false h, beq_false_of_ne (by omega)]
    exact ⟨rfl, rfl⟩
theorem wb_of (b : Nat) (h : b < 100) : wrap64 (1 + (b : Int)) = ((b + 1 : Nat) : Int) ∧ wrap64 (((b + 1 : Nat) : Int) - 1) = (b : Int) := by
  constructor
  · unfold wrap64; omega
  · unfold wrap64; omega
theorem chB_in (m : Nat) (hm : m ≤ 20) : ∀ b ∈ chB m, b.length < 1000000 ∧ ∀ v ∈ b, -9223372036854775808 ≤ v ∧ v < 9223372036854775808 := by
  intro b hb
  obtain ⟨i, hi, rfl⟩ := List.mem_map.1 hb
  rw [List.mem_range] at hi
  refine ⟨by simp, fun v hv => ?_⟩
  simp only [List.mem_cons, List.not_mem_nil, or_false] at hv
  omega
theorem chain_l0 (a : Nat) (ha : a < 18) (x1 x2 : Int) (r : Bool) (h : Ev (fun k => arboristlaw12_ValidChain.j1 k ((a : Int) + 3) x1 x2 true (chS a) false (chB (a + 2)) (chP (a + 2))) r) : ∀ (d i : Nat), a + 2 = i + d → Ev (fun k => arboristlaw12_ValidChain.l0 k ((a : Int) + 3) x1 x2 true (i : Int) (chB i) (chP i)) r := by
  intro d
  induction d with
  | zero =>
    intro i hi
    obtain rfl : i = a + 2 := by omega
    have hd := chain_dec a ha
    have hb := chB_in (a + 2) (by omega)
    have lB : (chB (a + 2)).length < 1000000 := by simp [chB]; omega
    have lP : (chP (a + 2)).length < 1000000 := by simp [chP]; omega
    have c1 := vcheck_ev ((a : Int) + 3) (chS a) (chB (a + 2)) (chP (a + 2)) (by omega) lP lB hb
    have c2 := vcheck_ev ((a : Int) + 3) [[0, (a : Int) + 2]] (chB (a + 2)) (chP (a + 2)) (by omega) lP lB hb
    have c3 := vcheck_ev ((a : Int) + 4) (chS a) (chB (a + 2)) (chP (a + 2)) (by omega) lP lB hb
    have c4 := vcheck_ev ((a : Int) + 2) (chS a) (chB (a + 2)) (chP (a + 2)) (by omega) lP lB hb
    rw [hd.1] at c1
    rw [hd.2.1] at c2
    rw [hd.2.2.1] at c3
    rw [hd.2.2.2] at c4
    have w1 : wrap64 ((a : Int) + 3 - 1) = (a : Int) + 2 := by rw [wrap_id (by omega) (by omega)]; omega
    have w2 : wrap64 ((a : Int) + 3 - 2) = (a : Int) + 1 := by rw [wrap_id (by omega) (by omega)]; omega
    have w3 : wrap64 ((a : Int) + 3 + 1) = (a : Int) + 4 := by rw [wrap_id (by omega) (by omega)]; omega
    refine evs5 c1 c2 c3 c4 h (fun k e1 e2 e3 e4 e5 => ?_)
    simp only [arboristlaw12_ValidChain.l0, Option.bind_some]
    rw [w1, w2, w3, wrap_nat _ (by omega), if_neg (by omega)]
    show ((valid_Check.f k ((a : Int) + 3) (chS a) (chB (a + 2)) (chP (a + 2))).bind _) = _
    rw [e1, Option.bind_some, if_pos rfl, e2, Option.bind_some, if_neg (by simp)]
    show ((valid_Check.f k ((a : Int) + 4) (chS a) (chB (a + 2)) (chP (a + 2))).bind _) = _
    rw [e3, Option.bind_some, if_neg (by simp)]
    show ((valid_Check.f k ((a : Int) + 2) (chS a) (chB (a + 2)) (chP (a + 2))).bind _) = _
    rw [e4, Option.bind_some]
    exact e5
  | succ d ih =>
    intro i hi
    refine evs1 (ih (i + 1) (by omega)) (fun k e => ?_)
    have lB : (chB i).length = i := by simp [chB]
    have lP : (chP i).length = i := by simp [chP]
    simp only [arboristlaw12_ValidChain.l0]
    have e1 : chB (i + 1) = chB i ++ [[(i : Int), wrap64 ((i : Int) + 1)]] := by
      unfold chB
      rw [List.range_succ, List.map_append, wrap_nat i (by omega)]
      rfl
    have e2 : chP (i + 1) = chP i ++ [wrap64 ((i : Int) - 1)] := by
      unfold chP
      rw [List.range_succ, List.map_append, wrap_id (by omega) (by omega)]
      rfl
    rw [e1, e2] at e
    rw [if_pos (by rw [wrap_nat i (by omega)]; omega), if_pos (by omega), if_pos (by omega)]
    rw [wrap_nat i (by omega)] at e ⊢
    exact e
theorem chain_t1 (a b c : Nat) (h4 : a < 18) (hb : b ≤ a) (hc : c ≤ a + 1) : Ev (fun k => valid_Tree.f k (chB (a + 2)) ((chP (a + 2)).set (b + 1) (c : Int))) (decide (c < b + 1)) := by
  have t1 := vtree_ev (chB (a + 2)) ((chP (a + 2)).set (b + 1) (c : Int)) (by rw [set_len]; omega)
  rwa [(chain_dec2 a b c h4 hb hc).1] at t1
theorem chain_t2 (a b c : Nat) (h4 : a < 18) (hb : b ≤ a) (hc : c ≤ a + 1) : Ev (fun k => valid_Check.f k ((a : Int) + 3) (chS a) (chB (a + 2)) ((chP (a + 2)).set (b + 1) (c : Int))) (c == b) := by
  have lB : (chB (a + 2)).length = a + 2 := by simp [chB]
  have t2 := vcheck_ev ((a : Int) + 3) (chS a) (chB (a + 2)) ((chP (a + 2)).set (b + 1) (c : Int)) (by omega) (by rw [set_len]; omega) (by rw [lB]; omega) (chB_in (a + 2) (by omega))
  have hcov : coversB ((a : Int) + 3) (chS a) (chB (a + 2)) = true := by
    have := (chain_dec a h4).1
    unfold checkB at this
    simp only [Bool.and_eq_true] at this
    exact this.1.2
  have hck : checkB ((a : Int) + 3) (chS a) (chB (a + 2)) ((chP (a + 2)).set (b + 1) (c : Int)) = (c == b) := by
    unfold checkB
    rw [hcov, Bool.and_true]
    exact (chain_dec2 a b c h4 hb hc).2
  rwa [hck] at t2
theorem chain_j1 (a b c : Nat) (h4 : a < 18) (hba : b ≤ a) (hca : c ≤ a + 1) (a1 a2 : Int) (B S : List (List Int)) (P : List Int) (hb : Int.tmod (Go.bits .and .i64 a1 65535) ((a : Int) + 1) = (b : Int)) (hc : Int.tmod (Go.bits .and .i64 a2 65535) ((a : Int) + 2) = (c : Int)) (lP : P.length = a + 2)
    (t1 : Ev (fun k => valid_Tree.f k B (P.set (b + 1) (c : Int))) (decide (c < b + 1))) (t2 : Ev (fun k => valid_Check.f k ((a : Int) + 3) S B (P.set (b + 1) (c : Int))) (c == b)) : Ev (fun k => arboristlaw12_ValidChain.j1 k ((a : Int) + 3) a1 a2 true S false B P) true := by
  have w2 : wrap64 ((a : Int) + 3 - 2) = (a : Int) + 1 := by rw [wrap_id (by omega) (by omega)]; omega
  have w1 : wrap64 ((a : Int) + 3 - 1) = (a : Int) + 2 := by rw [wrap_id (by omega) (by omega)]; omega
  have wb := (wb_of b (by omega)).1
  have wb2 := (wb_of b (by omega)).2
  refine evs2 t1 t2 (fun k e1 e2 => ?_)
  simp only [arboristlaw12_ValidChain.j1, Option.bind_some]
  rw [w1, w2, hb, hc, wb, wb2, if_neg (by simp), if_neg (by omega), if_neg (by omega), if_pos (by omega), if_pos (by omega), Int.toNat_natCast, e1, Option.bind_some]
  have e3 : (decide ((c : Int) < ((b + 1 : Nat) : Int))) = decide (c < b + 1) := by
    by_cases h : c < b + 1
    · rw [decide_eq_true h, decide_eq_true (by omega)]
    · rw [decide_eq_false h, decide_eq_false (by omega)]
  rw [e3, if_neg (by simp), if_pos trivial, e2, Option.bind_some]
  have e5 : ((c : Int) == (b : Int)) = (c == b) := by
    by_cases h : c = b
    · subst h; simp
    · rw [beq_false_of_ne h, beq_false_of_ne (by omega)]
  rw [e5]
  simp
theorem ValidChain : arboristlaw12_ValidChain.Pure := by
  intro a0 a1 a2 _ _ _
  have hs : Ev (fun k => arboristlaw12_shown.f k) true := Ev.of (fun k => arboristlaw12_shown.mono k) valid_shown
  have ha : ∃ a : Nat, a < 18 ∧ wrap64 (3 + Int.tmod (Go.bits .and .i64 a0 65535) 18) = (a : Int) + 3 := by
    have hm : Int.tmod (a0 % 65536) 18 = (a0 % 65536) % 18 := Int.tmod_eq_emod_of_nonneg (by omega)
    refine ⟨((a0 % 65536) % 18).toNat, by omega, ?_⟩
    rw [i64_and65535, hm, wrap_id (by omega) (by omega)]
    omega
  obtain ⟨a, h4, ha⟩ := ha
  have w2 : wrap64 ((a : Int) + 3 - 2) = (a : Int) + 1 := by rw [wrap_id (by omega) (by omega)]; omega
  have w1 : wrap64 ((a : Int) + 3 - 1) = (a : Int) + 2 := by rw [wrap_id (by omega) (by omega)]; omega
  have key : ∀ (x m : Int), 0 < m → m < 100 → 0 ≤ Int.tmod (Go.bits .and .i64 x 65535) m ∧ Int.tmod (Go.bits .and .i64 x 65535) m < m := by
    intro x m hm0 hm1
    have hm : Int.tmod (x % 65536) m = (x % 65536) % m := Int.tmod_eq_emod_of_nonneg (by omega)
    have h2 := Int.emod_nonneg (x % 65536) (show m ≠ 0 by omega)
    have h3 := Int.emod_lt_of_pos (x % 65536) hm0
    rw [i64_and65535, hm]
    exact ⟨h2, h3⟩
  have kb := key a1 ((a : Int) + 1) (by omega) (by omega)
  have kc := key a2 ((a : Int) + 2) (by omega) (by omega)
  have hj : Ev (fun k => arboristlaw12_ValidChain.j1 k ((a : Int) + 3) a1 a2 true (chS a) false (chB (a + 2)) (chP (a + 2))) true := by
    obtain ⟨b, hb⟩ := Int.eq_ofNat_of_zero_le kb.1
    obtain ⟨c, hc⟩ := Int.eq_ofNat_of_zero_le kc.1
    rw [hb] at kb
    rw [hc] at kc
    have hba : b ≤ a := by omega
    have hca : c ≤ a + 1 := by omega
    have lP : (chP (a + 2)).length = a + 2 := by simp [chP]
    exact chain_j1 a b c h4 hba hca a1 a2 (chB (a + 2)) (chS a) (chP (a + 2)) hb hc lP (chain_t1 a b c h4 hba hca) (chain_t2 a b c h4 hba hca)
  refine (evu2 hs (chain_l0 a h4 a1 a2 true hj (a + 2) 0 (by omega)) (fun k e1 e2 => ?_)).rounds
  unfold arboristlaw12_ValidChain.f
  rw [e1, Option.bind_some, ha]
  exact e2

end Go.Proofs.Ytpmfdggbccbfaaa.Pure
