/- ValidMore: what covers more covers less; a bag that is there twice, the one being the other one's parent, changes nothing. For every number, scopes, tree (cut as the statement does) and place. -/
-- merge
import Derived.Test.YtpmfdggbccbfaaaPr0
import Derived.Test.YtpmfdggbccbfaaaPr1
import Derived.Test.YtpmfdggbccbfaaaPr10
import Derived.Test.YtpmfdggbccbfaaaPr11
import Derived.Test.YtpmfdggbccbfaaaPr12
import Derived.Test.YtpmfdggbccbfaaaPr13
import Derived.Test.YtpmfdggbccbfaaaPr14
import Derived.Test.YtpmfdggbccbfaaaPr15
import Derived.Test.YtpmfdggbccbfaaaPr16
import Derived.Test.YtpmfdggbccbfaaaPr17
import Derived.Test.YtpmfdggbccbfaaaPr18
import Derived.Test.YtpmfdggbccbfaaaPr19
import Derived.Test.YtpmfdggbccbfaaaPr2
import Derived.Test.YtpmfdggbccbfaaaPr20
import Derived.Test.YtpmfdggbccbfaaaPr25
import Derived.Test.YtpmfdggbccbfaaaPr39
import Derived.Test.YtpmfdggbccbfaaaPr42
set_option linter.unusedVariables false
namespace Go.Proofs.Ytpmfdggbccbfaaa.Pr
open Go.RowKit Go.Proofs.YtpmfdggbccbfaaaW.PrintWords Go.Proofs.YtpmfdggbccbfaaaW.PrintLast

theorem drop_at (l : List Int) (i : Nat) (h : i < l.length) : l.drop i = rd l (i : Int) :: l.drop (i + 1) := by
  rw [List.drop_eq_getElem_cons h, rd_nat l i _ (List.getElem?_eq_getElem h)]
theorem wrap_nat (i : Nat) (h : i < 9223372036854775807) : wrap64 ((i : Int) + 1) = ((i + 1 : Nat) : Int) := by rw [wrap_succ (by omega) (by omega)]; rfl
def inB (l : List Int) (v : Int) : Bool := l.any (fun x => x == v)
theorem In_loop (l : List Int) (hl : l.length ≤ 9223372036854775807) (v : Int) : ∀ d i : Nat, l.length = i + d → Ev (fun k => arboristref01_In.l0 k l v (i : Int)) (inB (l.drop i) v) := by
  intro d
  induction d with
  | zero =>
    intro i h
    refine Ev.step (f := fun _ => some (inB (l.drop i) v)) (fun k => ?_) (Ev.now _)
    simp only [arboristref01_In.l0]
    rw [if_neg (by omega), List.drop_eq_nil_of_le (by omega)]
    rfl
  | succ d ih =>
    intro i h
    have hi : i < l.length := by omega
    by_cases e : rd l (i : Int) = v
    · refine Ev.step (f := fun _ => some (inB (l.drop i) v)) (fun k => ?_) (Ev.now _)
      simp only [arboristref01_In.l0]
      rw [if_pos (by omega), if_pos (by omega), if_pos e, drop_at l i hi]
      simp [inB, e]
    · refine Ev.step (f := fun k => arboristref01_In.l0 k l v ((i + 1 : Nat) : Int)) (fun k => ?_) ?_
      · simp only [arboristref01_In.l0]
        rw [if_pos (by omega), if_pos (by omega), if_neg e, wrap_nat i (by omega)]
      · have := ih (i + 1) (by omega)
        rw [drop_at l i hi]
        have e2 : (rd l (i : Int) == v) = false := by simpa using e
        simpa [inB, e2] using this
theorem In_ev (l : List Int) (hl : l.length ≤ 9223372036854775807) (v : Int) : Ev (fun k => arboristref01_In.f k l v) (inB l v) := by
  have := In_loop l hl v l.length 0 (by omega)
  simpa [arboristref01_In.f] using this
def withoutL (a b : List Int) : List Int := a.filter (fun x => !inB b x)
def meetL (a b : List Int) : List Int := a.filter (fun x => inB b x)
theorem Without_loop (a b : List Int) (ha : a.length < 17592186044416) (hb : b.length ≤ 9223372036854775807) : ∀ (d i : Nat) (out : List Int), a.length = i + d → out.length ≤ i → Ev (fun k => arboristref01_Without.l0 k a b out (i : Int)) (out ++ withoutL (a.drop i) b) := by
  intro d
  induction d with
  | zero =>
    intro i out h ho
    refine Ev.step (f := fun _ => some (out ++ withoutL (a.drop i) b)) (fun k => ?_) (Ev.now _)
    simp only [arboristref01_Without.l0]
    rw [if_neg (by omega), List.drop_eq_nil_of_le (by omega)]
    simp [withoutL]
  | succ d ih =>
    intro i out h ho
    have hi : i < a.length := by omega
    refine Ev.step (f := fun k => (arboristref01_In.f k b (rd a (i : Int))).bind fun t => if t = true then arboristref01_Without.l0 k a b out ((i + 1 : Nat) : Int) else if out.length < 17592186044416 then arboristref01_Without.l0 k a b (out ++ [rd a (i : Int)]) ((i + 1 : Nat) : Int) else none) (fun k => ?_) ?_
    · simp only [arboristref01_Without.l0]
      rw [if_pos (by omega), if_pos (by omega), wrap_nat i (by omega)]
    · refine Ev.bind (In_ev b hb _) ?_
      rw [drop_at a i hi]
      cases hc : inB b (rd a (i : Int)) with
      | true =>
        have := ih (i + 1) out (by omega) (by omega)
        simpa [withoutL, hc] using this
      | false =>
        have := ih (i + 1) (out ++ [rd a (i : Int)]) (by omega) (by simp; omega)
        have hlt : out.length < 17592186044416 := by omega
        simpa [withoutL, hc, hlt] using this
theorem Without_ev (a b : List Int) (ha : a.length < 17592186044416) (hb : b.length ≤ 9223372036854775807) : Ev (fun k => arboristref01_Without.f k a b) (withoutL a b) := by
  have := Without_loop a b ha hb a.length 0 [] (by omega) (by simp)
  simpa [arboristref01_Without.f] using this
def withinR (a b : List Int) : Bool := ((withoutL a b).length : Int) == 0
theorem Within_ev (a b : List Int) (ha : a.length < 17592186044416) (hb : b.length ≤ 9223372036854775807) : Ev (fun k => arboristref01_Within.f k a b) (withinR a b) := by
  refine Ev.congr (f := fun k => (arboristref01_Without.f k a b).bind fun t => some ((t.length : Int) == 0)) (fun k => rfl) ?_
  exact Ev.bind (f := fun _ (t : List Int) => some ((t.length : Int) == 0)) (Without_ev a b ha hb) (Ev.now _)
theorem withinR_iff (a b : List Int) : withinR a b = true ↔ ∀ x ∈ a, x ∈ b := by
  unfold withinR withoutL
  simp only [beq_iff_eq]
  constructor
  · intro h x hx
    have h2 : (a.filter (fun x => !inB b x)) = [] := List.eq_nil_of_length_eq_zero (by omega)
    have := List.filter_eq_nil_iff.1 h2 x hx
    simp [inB] at this
    exact this
  · intro h
    have : (a.filter (fun x => !inB b x)) = [] := List.filter_eq_nil_iff.2 (fun x hx => by simp [inB]; exact h x hx)
    simp [this]
def cmpL : List Int → List Int → Int
  | [], [] => 0
  | [], _ :: _ => -1
  | _ :: _, [] => 1
  | a :: l, b :: m => if a < b then -1 else if b < a then 1 else cmpL l m
theorem Compare_loop (a b : List Int) (ha : a.length ≤ 9223372036854775807) (hb : b.length ≤ 9223372036854775807) : ∀ (d i : Nat), a.length = i + d → i ≤ b.length → a.take i = b.take i → Ev (fun k => arboristref01_Compare.l0 k a b (i : Int)) (cmpL (a.drop i) (b.drop i)) := by
  intro d
  induction d with
  | zero =>
    intro i h hb2 he
    refine Ev.step (f := fun k => arboristref01_Compare.j1 k a b (i : Int) false) (fun k => ?_) ?_
    · simp only [arboristref01_Compare.l0]; rw [if_neg (by omega)]
    · refine Ev.step (f := fun _ => some (cmpL (a.drop i) (b.drop i))) (fun k => ?_) (Ev.now _)
      simp only [arboristref01_Compare.j1]
      rw [if_neg (by simp), List.drop_eq_nil_of_le (by omega)]
      by_cases hlt : i < b.length
      · rw [if_pos (by omega), drop_at b i hlt]; rfl
      · rw [if_neg (by omega), if_neg (by omega), List.drop_eq_nil_of_le (by omega)]; rfl
  | succ d ih =>
    intro i h hb2 he
    have hi : i < a.length := by omega
    by_cases hlt : i < b.length
    · refine Ev.step (f := fun k => arboristref01_Compare.j1 k a b (i : Int) true) (fun k => ?_) ?_
      · simp only [arboristref01_Compare.l0]; rw [if_pos (by omega), show decide ((i : Int) < (b.length : Int)) = true from decide_eq_true (by omega)]
      · rw [drop_at a i hi, drop_at b i hlt]
        by_cases h1 : rd a (i : Int) < rd b (i : Int)
        · refine Ev.step (f := fun _ => some (-1)) (fun k => ?_) (by simp only [cmpL, if_pos h1]; exact Ev.now _)
          simp only [arboristref01_Compare.j1]
          rw [if_pos trivial, if_pos (by omega), if_pos (by omega), if_pos (by omega), if_pos h1]
        · by_cases h2 : rd b (i : Int) < rd a (i : Int)
          · refine Ev.step (f := fun _ => some 1) (fun k => ?_) (by simp only [cmpL, if_neg h1, if_pos h2]; exact Ev.now _)
            simp only [arboristref01_Compare.j1]
            rw [if_pos trivial, if_pos (by omega), if_pos (by omega), if_pos (by omega), if_neg h1, if_pos h2]
          · refine Ev.step (f := fun k => arboristref01_Compare.l0 k a b ((i + 1 : Nat) : Int)) (fun k => ?_) ?_
            · simp only [arboristref01_Compare.j1]
              rw [if_pos trivial, if_pos (by omega), if_pos (by omega), if_pos (by omega), if_neg h1, if_neg (by omega), wrap_nat i (by omega)]
            · simp only [cmpL, if_neg h1, if_neg h2]
              refine ih (i + 1) (by omega) (by omega) ?_
              have e1 := rd_nat a i _ (List.getElem?_eq_getElem hi)
              have e2 := rd_nat b i _ (List.getElem?_eq_getElem hlt)
              rw [List.take_succ_eq_append_getElem hi, List.take_succ_eq_append_getElem hlt, he]
              have : a[i] = b[i] := by omega
              rw [this]
    · refine Ev.step (f := fun k => arboristref01_Compare.j1 k a b (i : Int) false) (fun k => ?_) ?_
      · simp only [arboristref01_Compare.l0]; rw [if_pos (by omega), show decide ((i : Int) < (b.length : Int)) = false from decide_eq_false (by omega)]
      · refine Ev.step (f := fun _ => some (cmpL (a.drop i) (b.drop i))) (fun k => ?_) (Ev.now _)
        simp only [arboristref01_Compare.j1]
        rw [if_neg (by simp), if_neg (by omega), if_pos (by omega), drop_at a i hi, show b.drop i = [] from List.drop_eq_nil_of_le (by omega)]
        rfl
theorem Compare_ev (a b : List Int) (ha : a.length ≤ 9223372036854775807) (hb : b.length ≤ 9223372036854775807) : Ev (fun k => arboristref01_Compare.f k a b) (cmpL a b) := by
  have := Compare_loop a b ha hb a.length 0 (by omega) (by omega) rfl
  simpa [arboristref01_Compare.f] using this
def uniteL : List Int → List Int → List Int
  | [], r => r
  | a :: l, [] => a :: l
  | a :: l, m :: r => if a < m then a :: uniteL l (m :: r) else m :: uniteL (a :: l) r
termination_by a b => a.length + b.length
theorem uniteL_nil (a : List Int) : uniteL a [] = a := by cases a <;> simp [uniteL]
theorem Unite_loop (a m : List Int) (hl : a.length + m.length < 17592186044416) : ∀ (d i j : Nat) (out : List Int), a.length + m.length = i + j + d → i ≤ a.length → j ≤ m.length → out.length ≤ i + j → Ev (fun k => arboristref01_Unite.l0 k a out m (i : Int) (j : Int)) (out ++ uniteL (a.drop i) (m.drop j)) := by
  intro d
  induction d with
  | zero =>
    intro i j out h hi hj ho
    refine Ev.step (f := fun k => arboristref01_Unite.j1 k a out m (i : Int) (j : Int) false) (fun k => ?_) ?_
    · simp only [arboristref01_Unite.l0]
      rw [if_neg (by omega), show decide ((j : Int) < (m.length : Int)) = false from decide_eq_false (by omega)]
    · refine Ev.step (f := fun _ => some (out ++ uniteL (a.drop i) (m.drop j))) (fun k => ?_) (Ev.now _)
      simp only [arboristref01_Unite.j1]
      rw [if_neg (by simp), show a.drop i = [] from List.drop_eq_nil_of_le (by omega), show m.drop j = [] from List.drop_eq_nil_of_le (by omega)]
      simp [uniteL]
  | succ d ih =>
    intro i j out h hi hj ho
    refine Ev.step (f := fun k => arboristref01_Unite.j1 k a out m (i : Int) (j : Int) true) (fun k => ?_) ?_
    · simp only [arboristref01_Unite.l0]
      by_cases h1 : i < a.length
      · rw [if_pos (by omega)]
      · rw [if_neg (by omega), show decide ((j : Int) < (m.length : Int)) = true from decide_eq_true (by omega)]
    · have hlt : out.length < 17592186044416 := by omega
      have left : i < a.length → (j = m.length ∨ (j < m.length ∧ rd a (i : Int) < rd m (j : Int))) → Ev (fun k => arboristref01_Unite.l0 k a (out ++ [rd a (i : Int)]) m ((i + 1 : Nat) : Int) (j : Int)) (out ++ uniteL (a.drop i) (m.drop j)) := by
        intro h1 h2
        have := ih (i + 1) j (out ++ [rd a (i : Int)]) (by omega) (by omega) hj (by simp; omega)
        rw [drop_at a i h1]
        rcases h2 with h2 | ⟨h2, h3⟩
        · rw [show m.drop j = [] from List.drop_eq_nil_of_le (by omega)] at this ⊢
          simpa [uniteL, uniteL_nil] using this
        · rw [drop_at m j h2] at this ⊢
          rw [uniteL, if_pos h3]
          simpa using this
      have right : j < m.length → (i = a.length ∨ (i < a.length ∧ ¬ rd a (i : Int) < rd m (j : Int))) → Ev (fun k => arboristref01_Unite.l0 k a (out ++ [rd m (j : Int)]) m (i : Int) ((j + 1 : Nat) : Int)) (out ++ uniteL (a.drop i) (m.drop j)) := by
        intro h1 h2
        have := ih i (j + 1) (out ++ [rd m (j : Int)]) (by omega) hi (by omega) (by simp; omega)
        rw [drop_at m j h1]
        rcases h2 with h2 | ⟨h2, h3⟩
        · rw [show a.drop i = [] from List.drop_eq_nil_of_le (by omega)] at this ⊢
          simpa [uniteL] using this
        · rw [drop_at a i h2] at this ⊢
          rw [uniteL, if_neg h3]
          simpa using this
      by_cases h1 : j = m.length
      · refine Ev.step (f := fun k => arboristref01_Unite.l0 k a (out ++ [rd a (i : Int)]) m ((i + 1 : Nat) : Int) (j : Int)) (fun k => ?_) (left (by omega) (.inl h1))
        simp only [arboristref01_Unite.j1]
        rw [if_pos trivial, if_pos (by omega), if_pos (by omega), if_pos (by omega), if_pos hlt, wrap_nat i (by omega)]
      · by_cases h2 : i < a.length
        · by_cases h3 : rd a (i : Int) < rd m (j : Int)
          · refine Ev.step (f := fun k => arboristref01_Unite.l0 k a (out ++ [rd a (i : Int)]) m ((i + 1 : Nat) : Int) (j : Int)) (fun k => ?_) (left h2 (.inr ⟨by omega, h3⟩))
            simp only [arboristref01_Unite.j1]
            rw [if_pos trivial, if_neg (by omega), if_pos (by omega), if_pos (by omega), if_pos (by omega), if_pos (by omega), if_pos h3, if_pos hlt, wrap_nat i (by omega)]
          · refine Ev.step (f := fun k => arboristref01_Unite.l0 k a (out ++ [rd m (j : Int)]) m (i : Int) ((j + 1 : Nat) : Int)) (fun k => ?_) (right (by omega) (.inr ⟨h2, h3⟩))
            simp only [arboristref01_Unite.j1]
            rw [if_pos trivial, if_neg (by omega), if_pos (by omega), if_pos (by omega), if_pos (by omega), if_pos (by omega), if_neg h3, if_pos hlt, wrap_nat j (by omega)]
        · refine Ev.step (f := fun k => arboristref01_Unite.l0 k a (out ++ [rd m (j : Int)]) m (i : Int) ((j + 1 : Nat) : Int)) (fun k => ?_) (right (by omega) (.inl (by omega)))
          simp only [arboristref01_Unite.j1]
          rw [if_pos trivial, if_neg (by omega), if_neg (by omega), if_pos (by omega), if_pos (by omega), if_pos hlt, wrap_nat j (by omega)]
theorem withoutL_len (a b : List Int) : (withoutL a b).length ≤ a.length := List.length_filter_le _ _
theorem Unite_ev (a b : List Int) (h : a.length + b.length < 17592186044416) : Ev (fun k => arboristref01_Unite.f k a b) (uniteL a (withoutL b a)) := by
  refine Ev.congr (f := fun k => (arboristref01_Without.f k b a).bind fun t => arboristref01_Unite.l0 k a ([] : List Int) t 0 0) (fun k => rfl) ?_
  have hw := withoutL_len b a
  refine Ev.bind (f := fun k (t : List Int) => arboristref01_Unite.l0 k a ([] : List Int) t 0 0) (Without_ev b a (by omega) (by omega)) ?_
  have := Unite_loop a (withoutL b a) (by omega) (a.length + (withoutL b a).length) 0 0 [] (by omega) (by omega) (by omega) (by simp)
  simpa using this
theorem cmpL_self : ∀ a : List Int, cmpL a a = 0
  | [] => rfl
  | a :: l => by simp [cmpL, cmpL_self l]
theorem cmpL_eq : ∀ a b : List Int, cmpL a b = 0 ↔ a = b
  | [], [] => by simp [cmpL]
  | [], _ :: _ => by simp [cmpL]
  | _ :: _, [] => by simp [cmpL]
  | a :: l, b :: m => by
    simp only [cmpL]
    split
    · simp; intro e; omega
    · split
      · simp; intro e; omega
      · rw [cmpL_eq l m]; simp; intro _; omega

end Go.Proofs.Ytpmfdggbccbfaaa.Pr

namespace Go.Proofs.Ytpmfdggbccbfaaa.Pr
open Go.RowKit Go.Proofs.YtpmfdggbccbfaaaW.PrintWords Go.Proofs.YtpmfdggbccbfaaaW.PrintLast
theorem evs0 {ρ : Type} {F : Nat → Option ρ} {r : ρ} (H : ∀ k, F (k + 1) = some r) : Ev F r := ⟨1, fun k hk => by obtain ⟨m, rfl⟩ : ∃ m, k = m + 1 := ⟨k - 1, by omega⟩; exact H m⟩
theorem evu0 {ρ : Type} {F : Nat → Option ρ} {r : ρ} (H : ∀ k, F k = some r) : Ev F r := ⟨0, fun k _ => H k⟩
theorem evu1 {ρ : Type} {F : Nat → Option ρ} {r : ρ} {α1 : Type} {g1 : Nat → Option α1} {a1 : α1} (h1 : Ev g1 a1) (H : ∀ k, g1 k = some a1 → F k = some r) : Ev F r := by
  obtain ⟨K1, e1⟩ := h1
  exact ⟨K1, fun k hk => H k (e1 _ (by omega))⟩
theorem evs1 {ρ : Type} {F : Nat → Option ρ} {r : ρ} {α1 : Type} {g1 : Nat → Option α1} {a1 : α1} (h1 : Ev g1 a1) (H : ∀ k, g1 k = some a1 → F (k + 1) = some r) : Ev F r := by
  obtain ⟨K1, e1⟩ := h1
  refine ⟨K1 + 1, fun k hk => ?_⟩
  obtain ⟨m, rfl⟩ : ∃ m, k = m + 1 := ⟨k - 1, by omega⟩
  exact H m (e1 _ (by omega))
theorem evu2 {ρ : Type} {F : Nat → Option ρ} {r : ρ} {α1 : Type} {g1 : Nat → Option α1} {a1 : α1} {α2 : Type} {g2 : Nat → Option α2} {a2 : α2} (h1 : Ev g1 a1) (h2 : Ev g2 a2) (H : ∀ k, g1 k = some a1 → g2 k = some a2 → F k = some r) : Ev F r := by
  obtain ⟨K1, e1⟩ := h1; obtain ⟨K2, e2⟩ := h2
  exact ⟨K1 + K2, fun k hk => H k (e1 _ (by omega)) (e2 _ (by omega))⟩
theorem evs2 {ρ : Type} {F : Nat → Option ρ} {r : ρ} {α1 : Type} {g1 : Nat → Option α1} {a1 : α1} {α2 : Type} {g2 : Nat → Option α2} {a2 : α2} (h1 : Ev g1 a1) (h2 : Ev g2 a2) (H : ∀ k, g1 k = some a1 → g2 k = some a2 → F (k + 1) = some r) : Ev F r := by
  obtain ⟨K1, e1⟩ := h1; obtain ⟨K2, e2⟩ := h2
  refine ⟨K1 + K2 + 1, fun k hk => ?_⟩
  obtain ⟨m, rfl⟩ : ∃ m, k = m + 1 := ⟨k - 1, by omega⟩
  exact H m (e1 _ (by omega)) (e2 _ (by omega))
theorem evu3 {ρ : Type} {F : Nat → Option ρ} {r : ρ} {α1 : Type} {g1 : Nat → Option α1} {a1 : α1} {α2 : Type} {g2 : Nat → Option α2} {a2 : α2} {α3 : Type} {g3 : Nat → Option α3} {a3 : α3} (h1 : Ev g1 a1) (h2 : Ev g2 a2) (h3 : Ev g3 a3) (H : ∀ k, g1 k = some a1 → g2 k = some a2 → g3 k = some a3 → F k = some r) : Ev F r := by
  obtain ⟨K1, e1⟩ := h1; obtain ⟨K2, e2⟩ := h2; obtain ⟨K3, e3⟩ := h3
  exact ⟨K1 + K2 + K3, fun k hk => H k (e1 _ (by omega)) (e2 _ (by omega)) (e3 _ (by omega))⟩
theorem evs3 {ρ : Type} {F : Nat → Option ρ} {r : ρ} {α1 : Type} {g1 : Nat → Option α1} {a1 : α1} {α2 : Type} {g2 : Nat → Option α2} {a2 : α2} {α3 : Type} {g3 : Nat → Option α3} {a3 : α3} (h1 : Ev g1 a1) (h2 : Ev g2 a2) (h3 : Ev g3 a3) (H : ∀ k, g1 k = some a1 → g2 k = some a2 → g3 k = some a3 → F (k + 1) = some r) : Ev F r := by
  obtain ⟨K1, e1⟩ := h1; obtain ⟨K2, e2⟩ := h2; obtain ⟨K3, e3⟩ := h3
  refine ⟨K1 + K2 + K3 + 1, fun k hk => ?_⟩
  obtain ⟨m, rfl⟩ : ∃ m, k = m + 1 := ⟨k - 1, by omega⟩
  exact H m (e1 _ (by omega)) (e2 _ (by omega)) (e3 _ (by omega))
theorem evu4 {ρ : Type} {F : Nat → Option ρ} {r : ρ} {α1 : Type} {g1 : Nat → Option α1} {a1 : α1} {α2 : Type} {g2 : Nat → Option α2} {a2 : α2} {α3 : Type} {g3 : Nat → Option α3} {a3 : α3} {α4 : Type} {g4 : Nat → Option α4} {a4 : α4} (h1 : Ev g1 a1) (h2 : Ev g2 a2) (h3 : Ev g3 a3) (h4 : Ev g4 a4) (H : ∀ k, g1 k = some a1 → g2 k = some a2 → g3 k = some a3 → g4 k = some a4 → F k = some r) : Ev F r := by
  obtain ⟨K1, e1⟩ := h1; obtain ⟨K2, e2⟩ := h2; obtain ⟨K3, e3⟩ := h3; obtain ⟨K4, e4⟩ := h4
  exact ⟨K1 + K2 + K3 + K4, fun k hk => H k (e1 _ (by omega)) (e2 _ (by omega)) (e3 _ (by omega)) (e4 _ (by omega))⟩
theorem evs4 {ρ : Type} {F : Nat → Option ρ} {r : ρ} {α1 : Type} {g1 : Nat → Option α1} {a1 : α1} {α2 : Type} {g2 : Nat → Option α2} {a2 : α2} {α3 : Type} {g3 : Nat → Option α3} {a3 : α3} {α4 : Type} {g4 : Nat → Option α4} {a4 : α4} (h1 : Ev g1 a1) (h2 : Ev g2 a2) (h3 : Ev g3 a3) (h4 : Ev g4 a4) (H : ∀ k, g1 k = some a1 → g2 k = some a2 → g3 k = some a3 → g4 k = some a4 → F (k + 1) = some r) : Ev F r := by
  obtain ⟨K1, e1⟩ := h1; obtain ⟨K2, e2⟩ := h2; obtain ⟨K3, e3⟩ := h3; obtain ⟨K4, e4⟩ := h4
  refine ⟨K1 + K2 + K3 + K4 + 1, fun k hk => ?_⟩
  obtain ⟨m, rfl⟩ : ∃ m, k = m + 1 := ⟨k - 1, by omega⟩
  exact H m (e1 _ (by omega)) (e2 _ (by omega)) (e3 _ (by omega)) (e4 _ (by omega))
theorem evu5 {ρ : Type} {F : Nat → Option ρ} {r : ρ} {α1 : Type} {g1 : Nat → Option α1} {a1 : α1} {α2 : Type} {g2 : Nat → Option α2} {a2 : α2} {α3 : Type} {g3 : Nat → Option α3} {a3 : α3} {α4 : Type} {g4 : Nat → Option α4} {a4 : α4} {α5 : Type} {g5 : Nat → Option α5} {a5 : α5} (h1 : Ev g1 a1) (h2 : Ev g2 a2) (h3 : Ev g3 a3) (h4 : Ev g4 a4) (h5 : Ev g5 a5) (H : ∀ k, g1 k = some a1 → g2 k = some a2 → g3 k = some a3 → g4 k = some a4 → g5 k = some a5 → F k = some r) : Ev F r := by
  obtain ⟨K1, e1⟩ := h1; obtain ⟨K2, e2⟩ := h2; obtain ⟨K3, e3⟩ := h3; obtain ⟨K4, e4⟩ := h4; obtain ⟨K5, e5⟩ := h5
  exact ⟨K1 + K2 + K3 + K4 + K5, fun k hk => H k (e1 _ (by omega)) (e2 _ (by omega)) (e3 _ (by omega)) (e4 _ (by omega)) (e5 _ (by omega))⟩
theorem evs5 {ρ : Type} {F : Nat → Option ρ} {r : ρ} {α1 : Type} {g1 : Nat → Option α1} {a1 : α1} {α2 : Type} {g2 : Nat → Option α2} {a2 : α2} {α3 : Type} {g3 : Nat → Option α3} {a3 : α3} {α4 : Type} {g4 : Nat → Option α4} {a4 : α4} {α5 : Type} {g5 : Nat → Option α5} {a5 : α5} (h1 : Ev g1 a1) (h2 : Ev g2 a2) (h3 : Ev g3 a3) (h4 : Ev g4 a4) (h5 : Ev g5 a5) (H : ∀ k, g1 k = some a1 → g2 k = some a2 → g3 k = some a3 → g4 k = some a4 → g5 k = some a5 → F (k + 1) = some r) : Ev F r := by
  obtain ⟨K1, e1⟩ := h1; obtain ⟨K2, e2⟩ := h2; obtain ⟨K3, e3⟩ := h3; obtain ⟨K4, e4⟩ := h4; obtain ⟨K5, e5⟩ := h5
  refine ⟨K1 + K2 + K3 + K4 + K5 + 1, fun k hk => ?_⟩
  obtain ⟨m, rfl⟩ : ∃ m, k = m + 1 := ⟨k - 1, by omega⟩
  exact H m (e1 _ (by omega)) (e2 _ (by omega)) (e3 _ (by omega)) (e4 _ (by omega)) (e5 _ (by omega))
theorem evu6 {ρ : Type} {F : Nat → Option ρ} {r : ρ} {α1 : Type} {g1 : Nat → Option α1} {a1 : α1} {α2 : Type} {g2 : Nat → Option α2} {a2 : α2} {α3 : Type} {g3 : Nat → Option α3} {a3 : α3} {α4 : Type} {g4 : Nat → Option α4} {a4 : α4} {α5 : Type} {g5 : Nat → Option α5} {a5 : α5} {α6 : Type} {g6 : Nat → Option α6} {a6 : α6} (h1 : Ev g1 a1) (h2 : Ev g2 a2) (h3 : Ev g3 a3) (h4 : Ev g4 a4) (h5 : Ev g5 a5) (h6 : Ev g6 a6) (H : ∀ k, g1 k = some a1 → g2 k = some a2 → g3 k = some a3 → g4 k = some a4 → g5 k = some a5 → g6 k = some a6 → F k = some r) : Ev F r := by
  obtain ⟨K1, e1⟩ := h1; obtain ⟨K2, e2⟩ := h2; obtain ⟨K3, e3⟩ := h3; obtain ⟨K4, e4⟩ := h4; obtain ⟨K5, e5⟩ := h5; obtain ⟨K6, e6⟩ := h6
  exact ⟨K1 + K2 + K3 + K4 + K5 + K6, fun k hk => H k (e1 _ (by omega)) (e2 _ (by omega)) (e3 _ (by omega)) (e4 _ (by omega)) (e5 _ (by omega)) (e6 _ (by omega))⟩
theorem evs6 {ρ : Type} {F : Nat → Option ρ} {r : ρ} {α1 : Type} {g1 : Nat → Option α1} {a1 : α1} {α2 : Type} {g2 : Nat → Option α2} {a2 : α2} {α3 : Type} {g3 : Nat → Option α3} {a3 : α3} {α4 : Type} {g4 : Nat → Option α4} {a4 : α4} {α5 : Type} {g5 : Nat → Option α5} {a5 : α5} {α6 : Type} {g6 : Nat → Option α6} {a6 : α6} (h1 : Ev g1 a1) (h2 : Ev g2 a2) (h3 : Ev g3 a3) (h4 : Ev g4 a4) (h5 : Ev g5 a5) (h6 : Ev g6 a6) (H : ∀ k, g1 k = some a1 → g2 k = some a2 → g3 k = some a3 → g4 k = some a4 → g5 k = some a5 → g6 k = some a6 → F (k + 1) = some r) : Ev F r := by
  obtain ⟨K1, e1⟩ := h1; obtain ⟨K2, e2⟩ := h2; obtain ⟨K3, e3⟩ := h3; obtain ⟨K4, e4⟩ := h4; obtain ⟨K5, e5⟩ := h5; obtain ⟨K6, e6⟩ := h6
  refine ⟨K1 + K2 + K3 + K4 + K5 + K6 + 1, fun k hk => ?_⟩
  obtain ⟨m, rfl⟩ : ∃ m, k = m + 1 := ⟨k - 1, by omega⟩
  exact H m (e1 _ (by omega)) (e2 _ (by omega)) (e3 _ (by omega)) (e4 _ (by omega)) (e5 _ (by omega)) (e6 _ (by omega))
theorem evu7 {ρ : Type} {F : Nat → Option ρ} {r : ρ} {α1 : Type} {g1 : Nat → Option α1} {a1 : α1} {α2 : Type} {g2 : Nat → Option α2} {a2 : α2} {α3 : Type} {g3 : Nat → Option α3} {a3 : α3} {α4 : Type} {g4 : Nat → Option α4} {a4 : α4} {α5 : Type} {g5 : Nat → Option α5} {a5 : α5} {α6 : Type} {g6 : Nat → Option α6} {a6 : α6} {α7 : Type} {g7 : Nat → Option α7} {a7 : α7} (h1 : Ev g1 a1) (h2 : Ev g2 a2) (h3 : Ev g3 a3) (h4 : Ev g4 a4) (h5 : Ev g5 a5) (h6 : Ev g6 a6) (h7 : Ev g7 a7) (H : ∀ k, g1 k = some a1 → g2 k = some a2 → g3 k = some a3 → g4 k = some a4 → g5 k = some a5 → g6 k = some a6 → g7 k = some a7 → F k = some r) : Ev F r := by
  obtain ⟨K1, e1⟩ := h1; obtain ⟨K2, e2⟩ := h2; obtain ⟨K3, e3⟩ := h3; obtain ⟨K4, e4⟩ := h4; obtain ⟨K5, e5⟩ := h5; obtain ⟨K6, e6⟩ := h6; obtain ⟨K7, e7⟩ := h7
  exact ⟨K1 + K2 + K3 + K4 + K5 + K6 + K7, fun k hk => H k (e1 _ (by omega)) (e2 _ (by omega)) (e3 _ (by omega)) (e4 _ (by omega)) (e5 _ (by omega)) (e6 _ (by omega)) (e7 _ (by omega))⟩
theorem evs7 {ρ : Type} {F : Nat → Option ρ} {r : ρ} {α1 : Type} {g1 : Nat → Option α1} {a1 : α1} {α2 : Type} {g2 : Nat → Option α2} {a2 : α2} {α3 : Type} {g3 : Nat → Option α3} {a3 : α3} {α4 : Type} {g4 : Nat → Option α4} {a4 : α4} {α5 : Type} {g5 : Nat → Option α5} {a5 : α5} {α6 : Type} {g6 : Nat → Option α6} {a6 : α6} {α7 : Type} {g7 : Nat → Option α7} {a7 : α7} (h1 : Ev g1 a1) (h2 : Ev g2 a2) (h3 : Ev g3 a3) (h4 : Ev g4 a4) (h5 : Ev g5 a5) (h6 : Ev g6 a6) (h7 : Ev g7 a7) (H : ∀ k, g1 k = some a1 → g2 k = some a2 → g3 k = some a3 → g4 k = some a4 → g5 k = some a5 → g6 k = some a6 → g7 k = some a7 → F (k + 1) = some r) : Ev F r := by
  obtain ⟨K1, e1⟩ := h1; obtain ⟨K2, e2⟩ := h2; obtain ⟨K3, e3⟩ := h3; obtain ⟨K4, e4⟩ := h4; obtain ⟨K5, e5⟩ := h5; obtain ⟨K6, e6⟩ := h6; obtain ⟨K7, e7⟩ := h7
  refine ⟨K1 + K2 + K3 + K4 + K5 + K6 + K7 + 1, fun k hk => ?_⟩
  obtain ⟨m, rfl⟩ : ∃ m, k = m + 1 := ⟨k - 1, by omega⟩
  exact H m (e1 _ (by omega)) (e2 _ (by omega)) (e3 _ (by omega)) (e4 _ (by omega)) (e5 _ (by omega)) (e6 _ (by omega)) (e7 _ (by omega))
theorem evu8 {ρ : Type} {F : Nat → Option ρ} {r : ρ} {α1 : Type} {g1 : Nat → Option α1} {a1 : α1} {α2 : Type} {g2 : Nat → Option α2} {a2 : α2} {α3 : Type} {g3 : Nat → Option α3} {a3 : α3} {α4 : Type} {g4 : Nat → Option α4} {a4 : α4} {α5 : Type} {g5 : Nat → Option α5} {a5 : α5} {α6 : Type} {g6 : Nat → Option α6} {a6 : α6} {α7 : Type} {g7 : Nat → Option α7} {a7 : α7} {α8 : Type} {g8 : Nat → Option α8} {a8 : α8} (h1 : Ev g1 a1) (h2 : Ev g2 a2) (h3 : Ev g3 a3) (h4 : Ev g4 a4) (h5 : Ev g5 a5) (h6 : Ev g6 a6) (h7 : Ev g7 a7) (h8 : Ev g8 a8) (H : ∀ k, g1 k = some a1 → g2 k = some a2 → g3 k = some a3 → g4 k = some a4 → g5 k = some a5 → g6 k = some a6 → g7 k = some a7 → g8 k = some a8 → F k = some r) : Ev F r := by
  obtain ⟨K1, e1⟩ := h1; obtain ⟨K2, e2⟩ := h2; obtain ⟨K3, e3⟩ := h3; obtain ⟨K4, e4⟩ := h4; obtain ⟨K5, e5⟩ := h5; obtain ⟨K6, e6⟩ := h6; obtain ⟨K7, e7⟩ := h7; obtain ⟨K8, e8⟩ := h8
  exact ⟨K1 + K2 + K3 + K4 + K5 + K6 + K7 + K8, fun k hk => H k (e1 _ (by omega)) (e2 _ (by omega)) (e3 _ (by omega)) (e4 _ (by omega)) (e5 _ (by omega)) (e6 _ (by omega)) (e7 _ (by omega)) (e8 _ (by omega))⟩
theorem evs8 {ρ : Type} {F : Nat → Option ρ} {r : ρ} {α1 : Type} {g1 : Nat → Option α1} {a1 : α1} {α2 : Type} {g2 : Nat → Option α2} {a2 : α2} {α3 : Type} {g3 : Nat → Option α3} {a3 : α3} {α4 : Type} {g4 : Nat → Option α4} {a4 : α4} {α5 : Type} {g5 : Nat → Option α5} {a5 : α5} {α6 : Type} {g6 : Nat → Option α6} {a6 : α6} {α7 : Type} {g7 : Nat → Option α7} {a7 : α7} {α8 : Type} {g8 : Nat → Option α8} {a8 : α8} (h1 : Ev g1 a1) (h2 : Ev g2 a2) (h3 : Ev g3 a3) (h4 : Ev g4 a4) (h5 : Ev g5 a5) (h6 : Ev g6 a6) (h7 : Ev g7 a7) (h8 : Ev g8 a8) (H : ∀ k, g1 k = some a1 → g2 k = some a2 → g3 k = some a3 → g4 k = some a4 → g5 k = some a5 → g6 k = some a6 → g7 k = some a7 → g8 k = some a8 → F (k + 1) = some r) : Ev F r := by
  obtain ⟨K1, e1⟩ := h1; obtain ⟨K2, e2⟩ := h2; obtain ⟨K3, e3⟩ := h3; obtain ⟨K4, e4⟩ := h4; obtain ⟨K5, e5⟩ := h5; obtain ⟨K6, e6⟩ := h6; obtain ⟨K7, e7⟩ := h7; obtain ⟨K8, e8⟩ := h8
  refine ⟨K1 + K2 + K3 + K4 + K5 + K6 + K7 + K8 + 1, fun k hk => ?_⟩
  obtain ⟨m, rfl⟩ : ∃ m, k = m + 1 := ⟨k - 1, by omega⟩
  exact H m (e1 _ (by omega)) (e2 _ (by omega)) (e3 _ (by omega)) (e4 _ (by omega)) (e5 _ (by omega)) (e6 _ (by omega)) (e7 _ (by omega)) (e8 _ (by omega))
end Go.Proofs.Ytpmfdggbccbfaaa.Pr

set_option linter.unusedVariables false
set_option linter.unusedSimpArgs false
namespace Go.Proofs.Ytpmfdggbccbfaaa.Pr
open Go.RowKit Go.Proofs.YtpmfdggbccbfaaaW.PrintWords Go.Proofs.YtpmfdggbccbfaaaW.PrintLast

/-! ### the statements' own cuts -/
theorem mn_facts (n : Nat) (m : Nat) : 0 ≤ mn (n : Int) (m : Int) ∧ mn (n : Int) (m : Int) ≤ (n : Int) ∧ (mn (n : Int) (m : Int)).toNat = min n m := by
  unfold mn
  by_cases h : (m : Int) < (n : Int)
  · rw [if_pos h]; omega
  · rw [if_neg h]; omega
theorem take_mn {α : Type} (l : List α) (m : Nat) : l.take (mn (l.length : Int) (m : Int)).toNat = l.take m := by
  rw [(mn_facts l.length m).2.2]
  rcases Nat.le_total l.length m with h | h
  · rw [Nat.min_eq_left h, List.take_of_length_le (Nat.le_refl _), List.take_of_length_le h]
  · rw [Nat.min_eq_right h]
def cutB (B : List (List Int)) : List (List Int) := (B.take 10).map (fun b => b.take 8)
theorem L1_at (B : List (List Int)) (i : Nat) (h : i < B.length) : rd_L1 B (i : Int) = B[i] := by
  unfold rd_L1
  rw [List.getD_eq_getElem?_getD, Int.toNat_natCast, List.getElem?_eq_getElem h]
  rfl
theorem cut_loop (B : List (List Int)) (P Q : List Int) : ∀ (d i : Nat), 10 = i + d → Ev (fun k => arboristlaw12_cut.l0 k (i : Int) B P (((B.take i).map (fun b => b.take 8))) Q) (cutB B, Q) := by
  intro d
  induction d with
  | zero =>
    intro i h
    refine evs0 (fun k => ?_)
    simp only [arboristlaw12_cut.l0]
    have : i = 10 := by omega
    subst this
    split
    · rw [if_neg (by omega)]; rfl
    · rfl
  | succ d ih =>
    intro i h
    by_cases hi : i < B.length
    · refine evs1 (ih (i + 1) (by omega)) (fun k e => ?_)
      simp only [arboristlaw12_cut.l0, Option.bind_some]
      have hm := mn_facts (rd_L1 B (i : Int)).length 8
      have ht := take_mn (rd_L1 B (i : Int)) 8
      simp only [Int.cast_ofNat_Int] at hm ht
      rw [if_pos (by omega), if_pos (by omega), if_pos (by omega), if_pos hm.1, if_pos hm.2.1, ht, wrap_nat i (by omega)]
      rw [if_pos (by simp; omega), if_pos (by simp; omega)]
      rw [List.take_succ_eq_append_getElem hi, List.map_append, List.map_cons, List.map_nil, ← L1_at B i hi] at e
      simpa using e
    · refine evs0 (fun k => ?_)
      simp only [arboristlaw12_cut.l0]
      rw [if_neg (by omega)]
      unfold cutB
      rw [List.take_of_length_le (by omega), List.take_of_length_le (by omega)]
theorem cut_ev (B : List (List Int)) (P : List Int) : Ev (fun k => arboristlaw12_cut.f k B P) (cutB B, P.take 10) := by
  refine evu1 (cut_loop B P (P.take 10) 10 0 (by omega)) (fun k e => ?_)
  have hm := mn_facts P.length 10
  have ht := take_mn P 10
  simp only [Int.cast_ofNat_Int] at hm ht
  simp only [arboristlaw12_cut.f, Option.bind_some]
  rw [if_pos hm.1, if_pos hm.2.1, ht, if_pos (by simp; omega)]
  simpa using e
def cutS (B : List (List Int)) : List (List Int) := (B.take 10).map (fun b => b.take 6)
theorem scopes_loop (B : List (List Int)) : ∀ (d i : Nat), 10 = i + d → Ev (fun k => arboristlaw12_scopes.l0 k B (((B.take i).map (fun b => b.take 6))) (i : Int)) (cutS B) := by
  intro d
  induction d with
  | zero =>
    intro i h
    refine evs0 (fun k => ?_)
    simp only [arboristlaw12_scopes.l0]
    have : i = 10 := by omega
    subst this
    split
    · rw [if_neg (by omega)]; rfl
    · rfl
  | succ d ih =>
    intro i h
    by_cases hi : i < B.length
    · refine evs1 (ih (i + 1) (by omega)) (fun k e => ?_)
      simp only [arboristlaw12_scopes.l0, Option.bind_some]
      have hm := mn_facts (rd_L1 B (i : Int)).length 6
      have ht := take_mn (rd_L1 B (i : Int)) 6
      simp only [Int.cast_ofNat_Int] at hm ht
      rw [if_pos (by omega), if_pos (by omega), if_pos (by omega), if_pos hm.1, if_pos hm.2.1, ht, wrap_nat i (by omega)]
      rw [if_pos (by simp; omega)]
      rw [List.take_succ_eq_append_getElem hi, List.map_append, List.map_cons, List.map_nil, ← L1_at B i hi] at e
      exact e
    · refine evs0 (fun k => ?_)
      simp only [arboristlaw12_scopes.l0]
      rw [if_neg (by omega)]
      unfold cutS
      rw [List.take_of_length_le (by omega), List.take_of_length_le (by omega)]
theorem scopes_ev (B : List (List Int)) : Ev (fun k => arboristlaw12_scopes.f k B) (cutS B) := by
  refine evu1 (scopes_loop B 10 0 (by omega)) (fun k e => ?_)
  simpa [arboristlaw12_scopes.f] using e

/-! ### trees -/
/-- one step towards the root -/
def stepP (P : List Int) (i : Int) : Int := if i < 0 then i else rd P i
def upP (P : List Int) : Nat → Int → Int
  | 0, i => i
  | k + 1, i => upP P k (stepP P i)
def parGood (P : List Int) (i : Nat) : Bool := !(decide (rd P (i : Int) < -1) || decide (rd P (i : Int) ≥ (P.length : Int)) || rd P (i : Int) == (i : Int))
def parsGood (P : List Int) : Bool := (List.range P.length).all (parGood P)
def reachB (P : List Int) : Bool := (List.range P.length).all (fun i => decide (upP P P.length (i : Int) < 0))
def rootsB (P : List Int) : Bool := P.length == 0 || P.count (-1) == 1
def treeB (B : List (List Int)) (P : List Int) : Bool := P.length == B.length && parsGood P && rootsB P && reachB P
theorem up_neg (P : List Int) : ∀ (k : Nat) (i : Int), i < 0 → upP P k i = i
  | 0, i, _ => rfl
  | k + 1, i, h => by rw [upP, stepP, if_pos h]; exact up_neg P k i h
theorem up_add (P : List Int) : ∀ (a b : Nat) (i : Int), upP P (a + b) i = upP P b (upP P a i)
  | 0, b, i => by rw [Nat.zero_add]; rfl
  | a + 1, b, i => by rw [show a + 1 + b = (a + b) + 1 by omega]; exact up_add P a b _
theorem range_all_cons (f : Nat → Bool) (i n : Nat) (h : i < n) : (List.range' i (n - i)).all f = (f i && (List.range' (i + 1) (n - (i + 1))).all f) := by
  rw [show n - i = (n - (i + 1)) + 1 by omega, List.range'_succ]
  simp
/-- who is in its place has a parent in its place, or none -/
theorem good_step {P : List Int} (hg : parsGood P = true) (i : Int) (h0 : 0 ≤ i) (h1 : i < P.length) : -1 ≤ rd P i ∧ rd P i < P.length ∧ rd P i ≠ i := by
  obtain ⟨k, rfl⟩ := Int.eq_ofNat_of_zero_le h0
  have := List.all_eq_true.1 hg k (List.mem_range.2 (by omega))
  unfold parGood at this
  simp only [Bool.not_eq_true', Bool.or_eq_false_iff, decide_eq_false_iff_not, beq_eq_false_iff_ne] at this
  omega
theorem up_range {P : List Int} (hg : parsGood P = true) : ∀ (k : Nat) (i : Int), -1 ≤ i → i < P.length → -1 ≤ upP P k i ∧ upP P k i < P.length
  | 0, i, h0, h1 => ⟨h0, h1⟩
  | k + 1, i, h0, h1 => by
    rw [upP]
    unfold stepP
    by_cases h : i < 0
    · rw [if_pos h]; exact up_range hg k i h0 h1
    · rw [if_neg h]
      have := good_step hg i (by omega) h1
      exact up_range hg k _ this.1 this.2.1
theorem up_stays {P : List Int} {i : Int} {k : Nat} (h : upP P k i < 0) (m : Nat) : upP P (k + m) i < 0 := by rw [up_add, up_neg P m _ h]; exact h
theorem pigeon : ∀ (n : Nat) (l : List Int), (∀ x ∈ l, 0 ≤ x ∧ x < n) → l.Nodup → l.length ≤ n
  | 0, l, h, _ => by
    cases l with
    | nil => simp
    | cons a l => have := h a (by simp); omega
  | n + 1, l, h, hn => by
    have h2 := pigeon n (l.erase (n : Int)) (fun x hx => by
      rw [hn.mem_erase_iff] at hx
      have := h x hx.2
      have := hx.1
      omega) (hn.erase _)
    by_cases hm : (n : Int) ∈ l
    · rw [List.length_erase_of_mem hm] at h2
      omega
    · rw [List.erase_of_not_mem hm] at h2
      omega
/-- who comes to the root at all comes there in as many steps as there are places -/
theorem up_soon {P : List Int} (hg : parsGood P = true) (j : Int) (h0 : -1 ≤ j) (h1 : j < P.length) (hk : ∃ k, upP P k j < 0) : upP P P.length j < 0 := by
  refine Classical.byContradiction fun hneg => ?_
  have hpos : ∀ t, t ≤ P.length → 0 ≤ upP P t j := fun t ht => by
    refine Classical.byContradiction fun hc => hneg ?_
    have := up_stays (P := P) (i := j) (k := t) (by omega) (P.length - t)
    rwa [show t + (P.length - t) = P.length by omega] at this
  by_cases hab : ∃ a b, a < b ∧ b ≤ P.length ∧ upP P a j = upP P b j
  · obtain ⟨a, b, hlt, hb, he⟩ := hab
    have hall : ∀ m k, k ≤ m → 0 ≤ upP P k j := by
      intro m
      induction m with
      | zero => intro k hk; exact hpos k (by omega)
      | succ m ih =>
        intro k hk
        by_cases hs : k ≤ P.length
        · exact hpos k hs
        · have e1 : upP P k j = upP P (a + (k - b)) j := by
            have h1 := up_add P b (k - b) j
            have h2 := up_add P a (k - b) j
            rw [show b + (k - b) = k by omega] at h1
            rw [h1, h2, he]
          rw [e1]
          exact ih _ (by omega)
    obtain ⟨k, hk⟩ := hk
    have := hall k k (Nat.le_refl _)
    omega
  · have hl := pigeon P.length ((List.range (P.length + 1)).map (fun t => upP P t j)) (by
      intro x hx
      obtain ⟨t, ht, rfl⟩ := List.mem_map.1 hx
      rw [List.mem_range] at ht
      exact ⟨hpos t (by omega), (up_range hg t j h0 h1).2⟩) (by
      refine List.pairwise_iff_getElem.2 ?_
      intro a b ha hb hlt
      simp only [List.length_map, List.length_range] at ha hb
      simp only [List.getElem_map, List.getElem_range]
      intro he
      exact hab ⟨a, b, hlt, by omega, he⟩)
    simp at hl
    omega
/-! #### the document's Tree -/
theorem rtree_l2 {P : List Int} (hg : parsGood P = true) (B : List (List Int)) (hl : P.length < 1000000) (x6 : Int) : ∀ (d c : Nat) (at_ : Int), P.length = c + d → -1 ≤ at_ → at_ < P.length → ∀ r : Bool, (upP P d at_ < 0 → Ev (fun k => arboristref12_Tree.l1 k (P.length : Int) (wrap64 (x6 + 1)) B P) r) → (¬ upP P d at_ < 0 → r = false) → Ev (fun k => arboristref12_Tree.l2 k (P.length : Int) x6 at_ (c : Int) B P) r := by
  intro d
  induction d with
  | zero =>
    intro c at_ hc h0 h1 r hy hn
    by_cases h : at_ < 0
    · refine evs1 (hy h) (fun k e => ?_)
      simp only [arboristref12_Tree.l2]
      rw [if_neg (by omega), if_neg (by omega)]
      exact e
    · rw [hn h]
      refine evs0 (fun k => ?_)
      simp only [arboristref12_Tree.l2]
      rw [if_neg (by omega), if_pos (by omega)]
  | succ d ih =>
    intro c at_ hc h0 h1 r hy hn
    by_cases h : at_ < 0
    · refine evs1 (hy (by rw [up_neg P _ _ h]; exact h)) (fun k e => ?_)
      simp only [arboristref12_Tree.l2]
      rw [if_pos (by omega), if_neg (by omega)]
      exact e
    · have hs := good_step hg at_ (by omega) h1
      have hu : upP P (d + 1) at_ = upP P d (rd P at_) := by rw [upP, stepP, if_neg h]
      rw [hu] at hy hn
      refine evs1 (ih (c + 1) (rd P at_) (by omega) hs.1 hs.2.1 r hy hn) (fun k e => ?_)
      simp only [arboristref12_Tree.l2]
      rw [if_pos (by omega), if_pos (by omega), if_pos (by omega), if_pos h1, wrap_nat c (by omega)]
      exact e
theorem rtree_l1 {P : List Int} (hg : parsGood P = true) (B : List (List Int)) (hl : P.length < 1000000) : ∀ (d i : Nat), P.length = i + d → Ev (fun k => arboristref12_Tree.l1 k (P.length : Int) (i : Int) B P) ((List.range' i d).all (fun j => decide (upP P P.length (j : Int) < 0))) := by
  intro d
  induction d with
  | zero =>
    intro i h
    refine evs0 (fun k => ?_)
    simp only [arboristref12_Tree.l1]
    rw [if_neg (by omega)]
    rfl
  | succ d ih =>
    intro i h
    have h1 := ih (i + 1) (by omega)
    rw [← wrap_nat i (by omega)] at h1
    have h2 := rtree_l2 hg B hl (i : Int) P.length 0 (i : Int) (by omega) (by omega) (by omega) ((List.range' i (d + 1)).all (fun j => decide (upP P P.length (j : Int) < 0))) (fun hu => by
      rw [List.range'_succ, List.all_cons, decide_eq_true hu, Bool.true_and]
      exact h1) (fun hu => by
      rw [List.range'_succ, List.all_cons, decide_eq_false hu, Bool.false_and])
    refine evs1 h2 (fun k e => ?_)
    simp only [arboristref12_Tree.l1]
    rw [if_pos (by omega)]
    exact e
theorem count_take_le (P : List Int) (i : Nat) : (P.take i).count (-1) ≤ i := Nat.le_trans List.count_le_length (by simp; omega)
theorem count_take_succ (P : List Int) (i : Nat) (h : i < P.length) : (P.take (i + 1)).count (-1) = (P.take i).count (-1) + (if rd P (i : Int) = -1 then 1 else 0) := by
  rw [List.take_succ_eq_append_getElem h, List.count_append, rd_nat P i _ (List.getElem?_eq_getElem h)]
  congr 1
  by_cases e : P[i] = -1
  · rw [if_pos e, e]; rfl
  · rw [if_neg e]
    exact List.count_eq_zero.2 (by simpa using fun h => e h.symm)
theorem good_all {P : List Int} (h : ∀ j, j < P.length → parGood P j = true) : parsGood P = true := List.all_eq_true.2 (fun j hj => h j (List.mem_range.1 hj))
theorem rtree_end {P : List Int} (B : List (List Int)) (hB : P.length = B.length) (hl : P.length < 1000000) (hg : parsGood P = true) (b : Bool) (hb : b = !rootsB P) : Ev (fun k => arboristref12_Tree.j2 k (P.length : Int) b B P) (treeB B P) := by
  have ht : treeB B P = (rootsB P && reachB P) := by
    unfold treeB
    rw [hg, hB]
    simp
  cases hr : rootsB P with
  | false =>
    rw [ht, hr, hb, hr]
    refine evs0 (fun k => ?_)
    simp only [arboristref12_Tree.j2]
    rw [if_pos (by rfl)]
    rfl
  | true =>
    rw [ht, hr, hb, hr]
    refine evs1 (rtree_l1 hg B hl P.length 0 (by omega)) (fun k e => ?_)
    simp only [arboristref12_Tree.j2]
    rw [if_neg (by simp), Bool.true_and]
    unfold reachB
    rw [List.range_eq_range']
    exact e
theorem rtree_l0 {P : List Int} (B : List (List Int)) (hB : P.length = B.length) (hl : P.length < 1000000) : ∀ (d i : Nat), P.length = i + d → (∀ j, j < i → parGood P j = true) → Ev (fun k => arboristref12_Tree.l0 k (P.length : Int) ((P.take i).count (-1) : Nat) (i : Int) B P) (treeB B P) := by
  intro d
  induction d with
  | zero =>
    intro i h hj
    have hg : parsGood P = true := good_all (fun j hj2 => hj j (by omega))
    rw [List.take_of_length_le (by omega)]
    by_cases hp : 0 < P.length
    · refine evs1 (rtree_end B hB hl hg (((P.count (-1) : Nat) : Int) != 1) ?_) (fun k e => ?_)
      · unfold rootsB
        have : (P.length == 0) = false := by simpa using (by omega : ¬ P.length = 0)
        rw [this, Bool.false_or]
        by_cases e : P.count (-1) = 1
        · rw [e]; rfl
        · have h1 : (((P.count (-1) : Nat) : Int) != 1) = true := by simp; omega
          have h2 : (P.count (-1) == 1) = false := by simpa using e
          rw [h1, h2]; rfl
      · simp only [arboristref12_Tree.l0]
        rw [if_neg (by omega), if_pos (by omega)]
        exact e
    · refine evs1 (rtree_end B hB hl hg false ?_) (fun k e => ?_)
      · unfold rootsB
        have : (P.length == 0) = true := by simpa using (by omega : P.length = 0)
        rw [this]; rfl
      · simp only [arboristref12_Tree.l0]
        rw [if_neg (by omega), if_neg (by omega)]
        exact e
  | succ d ih =>
    intro i h hj
    have hi : i < P.length := by omega
    have hcl := count_take_le P i
    cases hq : parGood P i with
    | false =>
      have ht : treeB B P = false := by
        unfold treeB
        have : parsGood P = false := by
          rw [← Bool.not_eq_true]
          intro hc
          have := List.all_eq_true.1 hc i (List.mem_range.2 hi)
          rw [hq] at this
          cases this
        rw [this]; simp
      rw [ht]
      have hq2 : rd P (i : Int) < -1 ∨ rd P (i : Int) ≥ (P.length : Int) ∨ rd P (i : Int) = (i : Int) := by
        unfold parGood at hq
        simp only [Bool.not_eq_false', Bool.or_eq_true, decide_eq_true_eq, beq_iff_eq] at hq
        omega
      have hf : Ev (fun k => arboristref12_Tree.j1 k (P.length : Int) ((P.take i).count (-1) : Nat) (i : Int) true B P) false := evs0 (fun k => by simp only [arboristref12_Tree.j1]; rw [if_pos trivial])
      refine evs1 hf (fun k e => ?_)
      simp only [arboristref12_Tree.l0]
      rw [if_pos (by omega), if_pos (by omega), if_pos (by omega)]
      by_cases c1 : rd P (i : Int) < -1
      · rw [if_pos c1]; exact e
      · rw [if_neg c1]
        by_cases c2 : rd P (i : Int) ≥ (P.length : Int)
        · rw [if_pos c2]; exact e
        · rw [if_neg c2, show (rd P (i : Int) == (i : Int)) = true by simpa using (by omega : rd P (i : Int) = (i : Int))]
          exact e
    | true =>
      have hq2 : ¬ rd P (i : Int) < -1 ∧ ¬ rd P (i : Int) ≥ (P.length : Int) ∧ ¬ rd P (i : Int) = (i : Int) := by
        unfold parGood at hq
        simp only [Bool.not_eq_true', Bool.or_eq_false_iff, decide_eq_false_iff_not, beq_eq_false_iff_ne] at hq
        omega
      have h2 := ih (i + 1) (by omega) (fun j hj2 => by
        by_cases e : j = i
        · rw [e]; exact hq
        · exact hj j (by omega))
      rw [count_take_succ P i hi] at h2
      have h3 : Ev (fun k => arboristref12_Tree.j1 k (P.length : Int) ((P.take i).count (-1) : Nat) (i : Int) false B P) (treeB B P) := by
        refine evs1 h2 (fun k e => ?_)
        simp only [arboristref12_Tree.j1]
        rw [if_neg (by simp), if_pos (by omega), if_pos (by omega), wrap_nat i (by omega)]
        by_cases c : rd P (i : Int) = -1
        · rw [if_pos c] at e ⊢
          rw [wrap_nat _ (by omega)]
          exact e
        · rw [if_neg c] at e ⊢
          exact e
      refine evs1 h3 (fun k e => ?_)
      simp only [arboristref12_Tree.l0]
      rw [if_pos (by omega), if_pos (by omega), if_pos (by omega), if_neg hq2.1, if_neg hq2.2.1, show (rd P (i : Int) == (i : Int)) = false by simpa using hq2.2.2]
      exact e
theorem rtree_ev (B : List (List Int)) (P : List Int) (hl : P.length < 1000000) : Ev (fun k => arboristref12_Tree.f k B P) (treeB B P) := by
  by_cases hB : P.length = B.length
  · refine evu1 (rtree_l0 B hB hl P.length 0 (by omega) (by omega)) (fun k e => ?_)
    simp only [arboristref12_Tree.f]
    rw [if_pos (by omega), ← hB]
    simpa using e
  · refine evu0 (fun k => ?_)
    simp only [arboristref12_Tree.f]
    rw [if_neg (by omega)]
    unfold treeB
    rw [show (P.length == B.length) = false by simpa using hB]
    rfl
end Go.Proofs.Ytpmfdggbccbfaaa.Pr

set_option linter.unusedVariables false
set_option linter.unusedSimpArgs false
namespace Go.Proofs.Ytpmfdggbccbfaaa.Pr
open Go.RowKit Go.Proofs.YtpmfdggbccbfaaaW.PrintWords Go.Proofs.YtpmfdggbccbfaaaW.PrintLast

/-! #### the program's Tree -/
def mark (g : List Bool) (w : List Int) : List Bool := w.foldl (fun g a => g.set a.toNat true) g
theorem mark_len : ∀ (w : List Int) (g : List Bool), (mark g w).length = g.length
  | [], g => rfl
  | a :: w, g => by
    have := mark_len w (g.set a.toNat true)
    simpa [mark] using this
theorem mark_get : ∀ (w : List Int) (g : List Bool) (j : Nat), (∀ a ∈ w, 0 ≤ a ∧ a < g.length) → j < g.length → ((mark g w).getD j false = true ↔ g.getD j false = true ∨ (j : Int) ∈ w)
  | [], g, j, _, _ => by simp [mark]
  | a :: w, g, j, h, hj => by
    have ha := h a (by simp)
    have ih := mark_get w (g.set a.toNat true) j (fun b hb => by rw [List.length_set]; exact h b (List.mem_cons_of_mem _ hb)) (by rw [List.length_set]; exact hj)
    have e : mark g (a :: w) = mark (g.set a.toNat true) w := rfl
    rw [e, ih, List.mem_cons]
    by_cases c : (j : Int) = a
    · have c2 : a.toNat = j := by omega
      rw [c2]
      simp [List.getD_eq_getElem?_getD, c, hj]
    · have c2 : a.toNat ≠ j := by omega
      rw [List.getD_eq_getElem?_getD, List.getElem?_set_ne c2, ← List.getD_eq_getElem?_getD]
      simp [c]
def GoodM (P : List Int) (g : List Bool) (i : Nat) : Prop := g.length = P.length ∧ (∀ j : Nat, j < P.length → g.getD j false = true → ∃ K, upP P K (j : Int) < 0) ∧ ∀ j : Nat, j < i → g.getD j false = true
theorem vtree_l3 {P : List Int} (B : List (List Int)) (N : Int) (i : Int) (w : List Int) (hw : ∀ a ∈ w, 0 ≤ a ∧ a < P.length) (hwl : w.length < 1000000) (r : Bool) : ∀ (d t : Nat) (g : List Bool), w.length = t + d → g.length = P.length → Ev (fun k => valid_Tree.l1 k (P.length : Int) (mark g (w.drop t)) N (wrap64 (i + 1)) B P) r → Ev (fun k => valid_Tree.l3 k (P.length : Int) g N i w (w.length : Int) (t : Int) B P) r := by
  intro d
  induction d with
  | zero =>
    intro t g h hg hr
    rw [List.drop_eq_nil_of_le (by omega)] at hr
    refine evs1 hr (fun k e => ?_)
    simp only [valid_Tree.l3]
    rw [if_neg (by omega)]
    exact e
  | succ d ih =>
    intro t g h hg hr
    have ht : t < w.length := by omega
    rw [List.drop_eq_getElem_cons ht] at hr
    have hm := hw _ (List.getElem_mem ht)
    have e1 : rd w (t : Int) = w[t] := rd_nat _ _ _ (List.getElem?_eq_getElem ht)
    refine evs1 (ih (t + 1) (g.set (w[t]).toNat true) (by omega) (by rw [List.length_set]; exact hg) hr) (fun k e => ?_)
    simp only [valid_Tree.l3]
    rw [if_pos (by omega), if_pos (by omega), if_pos (by omega), e1, if_pos hm.1, if_pos (by omega), wrap_nat t (by omega)]
    exact e
theorem up_last (P : List Int) (k : Nat) (i : Int) (h : 0 ≤ upP P k i) : upP P (k + 1) i = rd P (upP P k i) := by
  rw [up_add P k 1 i]
  show stepP P (upP P k i) = _
  unfold stepP
  rw [if_neg (by omega)]
theorem marked {P : List Int} (hg : parsGood P = true) (i : Nat) (hi : i < P.length) (g : List Bool) (hG : GoodM P g i) (w : List Int) (hw : w = (List.range w.length).map (fun t => upP P t (i : Int))) (hwr : ∀ a ∈ w, 0 ≤ a ∧ a < P.length) (hK : ∃ K, upP P K (i : Int) < 0) (h0 : w = [] → g.getD i false = true) : GoodM P (mark g w) (i + 1) := by
  obtain ⟨g1, g2, g3⟩ := hG
  have hm := fun (j : Nat) (hj : j < P.length) => mark_get w g j (fun a ha => by rw [g1]; exact hwr a ha) (by omega)
  refine ⟨by rw [mark_len]; exact g1, fun j hj h => ?_, fun j hj => ?_⟩
  · rcases (hm j hj).1 h with h | h
    · exact g2 j hj h
    · rw [hw] at h
      obtain ⟨t, _, ht⟩ := List.mem_map.1 h
      obtain ⟨K, hK⟩ := hK
      refine ⟨K, ?_⟩
      rw [← ht, ← up_add, Nat.add_comm]
      exact up_stays hK t
  · refine (hm j (by omega)).2 ?_
    by_cases e : j = i
    · subst e
      cases hw2 : w with
      | nil => exact .inl (h0 hw2)
      | cons a w' =>
        right
        rw [← hw2, hw, List.mem_map]
        exact ⟨0, by rw [List.mem_range, hw2]; simp, rfl⟩
    · exact .inl (g3 j (by omega))
theorem vtree_l2 {P : List Int} (hg : parsGood P = true) (B : List (List Int)) (hl : P.length < 1000000) (ht : treeB B P = reachB P) (N : Int) (i : Nat) (hi : i < P.length) (g : List Bool) (hG : GoodM P g i)
    (hnext : ∀ g' : List Bool, GoodM P g' (i + 1) → Ev (fun k => valid_Tree.l1 k (P.length : Int) g' N (wrap64 ((i : Int) + 1)) B P) (treeB B P)) :
    ∀ (d : Nat) (w : List Int), P.length = w.length + d → w = (List.range w.length).map (fun t => upP P t (i : Int)) → (∀ a ∈ w, 0 ≤ a ∧ a < P.length) → Ev (fun k => valid_Tree.l2 k (P.length : Int) g w (upP P w.length (i : Int)) N (i : Int) B P) (treeB B P) := by
  intro d
  induction d with
  | zero =>
    intro w hd hw hwr
    have hr := up_range hg w.length (i : Int) (by omega) (by omega)
    by_cases c : upP P w.length (i : Int) = -1
    · have h3 := vtree_l3 B N (i : Int) w hwr (by omega) (treeB B P) w.length 0 g (by omega) hG.1 (hnext _ (marked hg i hi g hG w hw hwr ⟨w.length, by omega⟩ (fun e => by rw [e] at c; simp [upP] at c)))
      refine evs1 (g1 := fun k => valid_Tree.j5 k (P.length : Int) g w (upP P w.length (i : Int)) N (i : Int) false B P) (a1 := treeB B P) (evs1 h3 (fun k e => ?_)) (fun k e => ?_)
      · simp only [valid_Tree.j5]; rw [if_neg (by simp)]; exact e
      · simp only [valid_Tree.l2]; rw [if_pos c]; exact e
    · have hge : 0 ≤ upP P w.length (i : Int) := by omega
      cases hgd : rdOf false g (upP P w.length (i : Int)) with
      | true =>
        have hK : ∃ K, upP P K (i : Int) < 0 := by
          obtain ⟨a, ha⟩ := Int.eq_ofNat_of_zero_le hge
          rw [ha] at hgd
          obtain ⟨K, hK⟩ := hG.2.1 a (by omega) hgd
          refine ⟨w.length + K, ?_⟩
          rw [up_add, ha]
          exact hK
        have h3 := vtree_l3 B N (i : Int) w hwr (by omega) (treeB B P) w.length 0 g (by omega) hG.1 (hnext _ (marked hg i hi g hG w hw hwr hK (fun e => by rw [e] at hgd; exact hgd)))
        refine evs1 (g1 := fun k => valid_Tree.j5 k (P.length : Int) g w (upP P w.length (i : Int)) N (i : Int) false B P) (a1 := treeB B P) (evs1 h3 (fun k e => ?_)) (fun k e => ?_)
        · simp only [valid_Tree.j5]; rw [if_neg (by simp)]; exact e
        · simp only [valid_Tree.l2]; rw [if_neg c, if_pos hge, if_pos (by rw [hG.1]; exact hr.2), hgd]; exact e
      | false =>
        have hf : treeB B P = false := by
          rw [ht, ← Bool.not_eq_true]
          intro hc
          have := List.all_eq_true.1 hc i (List.mem_range.2 hi)
          rw [decide_eq_true_eq, show P.length = w.length by omega] at this
          omega
        rw [hf]
        refine evs1 (g1 := fun k => valid_Tree.j5 k (P.length : Int) g w (upP P w.length (i : Int)) N (i : Int) true B P) (r := false) (a1 := false) (evs0 (fun k => ?_)) (fun k e => ?_)
        · simp only [valid_Tree.j5, Option.bind_some]
          rw [if_pos trivial, if_pos (by omega), if_pos (by simp; omega)]
        · simp only [valid_Tree.l2]; rw [if_neg c, if_pos hge, if_pos (by rw [hG.1]; exact hr.2), hgd]; exact e
  | succ d ih =>
    intro w hd hw hwr
    have hr := up_range hg w.length (i : Int) (by omega) (by omega)
    by_cases c : upP P w.length (i : Int) = -1
    · have h3 := vtree_l3 B N (i : Int) w hwr (by omega) (treeB B P) w.length 0 g (by omega) hG.1 (hnext _ (marked hg i hi g hG w hw hwr ⟨w.length, by omega⟩ (fun e => by rw [e] at c; simp [upP] at c)))
      refine evs1 (g1 := fun k => valid_Tree.j5 k (P.length : Int) g w (upP P w.length (i : Int)) N (i : Int) false B P) (a1 := treeB B P) (evs1 h3 (fun k e => ?_)) (fun k e => ?_)
      · simp only [valid_Tree.j5]; rw [if_neg (by simp)]; exact e
      · simp only [valid_Tree.l2]; rw [if_pos c]; exact e
    · have hge : 0 ≤ upP P w.length (i : Int) := by omega
      cases hgd : rdOf false g (upP P w.length (i : Int)) with
      | true =>
        have hK : ∃ K, upP P K (i : Int) < 0 := by
          obtain ⟨a, ha⟩ := Int.eq_ofNat_of_zero_le hge
          rw [ha] at hgd
          obtain ⟨K, hK⟩ := hG.2.1 a (by omega) hgd
          refine ⟨w.length + K, ?_⟩
          rw [up_add, ha]
          exact hK
        have h3 := vtree_l3 B N (i : Int) w hwr (by omega) (treeB B P) w.length 0 g (by omega) hG.1 (hnext _ (marked hg i hi g hG w hw hwr hK (fun e => by rw [e] at hgd; exact hgd)))
        refine evs1 (g1 := fun k => valid_Tree.j5 k (P.length : Int) g w (upP P w.length (i : Int)) N (i : Int) false B P) (a1 := treeB B P) (evs1 h3 (fun k e => ?_)) (fun k e => ?_)
        · simp only [valid_Tree.j5]; rw [if_neg (by simp)]; exact e
        · simp only [valid_Tree.l2]; rw [if_neg c, if_pos hge, if_pos (by rw [hG.1]; exact hr.2), hgd]; exact e
      | false =>
        have h2 := ih (w ++ [upP P w.length (i : Int)]) (by simp; omega) (by
          rw [List.length_append, List.length_singleton, List.range_succ, List.map_append, ← hw]
          rfl) (fun a ha => by
          rcases List.mem_append.1 ha with ha | ha
          · exact hwr a ha
          · rw [List.mem_singleton] at ha
            subst ha
            exact ⟨hge, hr.2⟩)
        rw [List.length_append, List.length_singleton, up_last P w.length (i : Int) hge] at h2
        refine evs1 (g1 := fun k => valid_Tree.j5 k (P.length : Int) g w (upP P w.length (i : Int)) N (i : Int) true B P) (a1 := treeB B P) (evs1 h2 (fun k e => ?_)) (fun k e => ?_)
        · simp only [valid_Tree.j5, Option.bind_some]
          rw [if_pos trivial, if_pos (by omega), if_neg (by simp; omega), if_pos hge, if_pos hr.2]
          exact e
        · simp only [valid_Tree.l2]; rw [if_neg c, if_pos hge, if_pos (by rw [hG.1]; exact hr.2), hgd]; exact e
theorem vtree_l1 {P : List Int} (hg : parsGood P = true) (B : List (List Int)) (hB : P.length = B.length) (hl : P.length < 1000000) (ht : treeB B P = reachB P) : ∀ (d i : Nat) (g : List Bool), P.length = i + d → GoodM P g i → Ev (fun k => valid_Tree.l1 k (P.length : Int) g (B.length : Int) (i : Int) B P) (treeB B P) := by
  intro d
  induction d with
  | zero =>
    intro i g h hG
    have hr : reachB P = true := by
      unfold reachB
      rw [List.all_eq_true]
      intro j hj
      rw [List.mem_range] at hj
      exact decide_eq_true (up_soon hg (j : Int) (by omega) (by omega) (hG.2.1 j hj (hG.2.2 j (by omega))))
    rw [ht, hr]
    refine evs0 (fun k => ?_)
    simp only [valid_Tree.l1]
    rw [if_neg (by omega)]
  | succ d ih =>
    intro i g h hG
    have h2 := vtree_l2 hg B hl ht (B.length : Int) i (by omega) g hG (fun g' hG' => by rw [wrap_nat i (by omega)]; exact ih (i + 1) g' (by omega) hG') P.length [] (by simp) rfl (by simp)
    refine evs1 h2 (fun k e => ?_)
    simp only [valid_Tree.l1]
    rw [if_pos (by omega)]
    exact e
theorem vtree_end {P : List Int} (B : List (List Int)) (hB : P.length = B.length) (hl : P.length < 1000000) (hg : parsGood P = true) (b : Bool) (hb : b = !rootsB P) : Ev (fun k => valid_Tree.j2 k (P.length : Int) b B P) (treeB B P) := by
  have ht : treeB B P = (rootsB P && reachB P) := by
    unfold treeB
    rw [hg, hB]
    simp
  cases hr : rootsB P with
  | false =>
    rw [ht, hr, hb, hr]
    refine evs0 (fun k => ?_)
    simp only [valid_Tree.j2]
    rw [if_pos (by rfl)]
    rfl
  | true =>
    rw [hr, Bool.true_and] at ht
    rw [hb, hr]
    refine evs1 (vtree_l1 hg B hB hl ht P.length 0 (List.replicate P.length false) (by omega) ⟨by simp, fun j hj h => ?_, fun j hj => by omega⟩) (fun k e => ?_)
    · rw [List.getD_eq_getElem?_getD, List.getElem?_replicate, if_pos hj] at h
      cases h
    · simp only [valid_Tree.j2]
      rw [if_neg (by simp), if_pos (by omega), if_pos (by omega), Int.toNat_natCast]
      exact e
theorem vtree_l0 {P : List Int} (B : List (List Int)) (hB : P.length = B.length) (hl : P.length < 1000000) : ∀ (d i : Nat), P.length = i + d → (∀ j, j < i → parGood P j = true) → Ev (fun k => valid_Tree.l0 k (P.length : Int) ((P.take i).count (-1) : Nat) P (P.length : Int) (i : Int) B P) (treeB B P) := by
  intro d
  induction d with
  | zero =>
    intro i h hj
    have hg : parsGood P = true := good_all (fun j hj2 => hj j (by omega))
    rw [List.take_of_length_le (by omega)]
    by_cases hp : 0 < P.length
    · refine evs1 (vtree_end B hB hl hg (((P.count (-1) : Nat) : Int) != 1) ?_) (fun k e => ?_)
      · unfold rootsB
        have : (P.length == 0) = false := by simpa using (by omega : ¬ P.length = 0)
        rw [this, Bool.false_or]
        by_cases e : P.count (-1) = 1
        · rw [e]; rfl
        · have h1 : (((P.count (-1) : Nat) : Int) != 1) = true := by simp; omega
          have h2 : (P.count (-1) == 1) = false := by simpa using e
          rw [h1, h2]; rfl
      · simp only [valid_Tree.l0]
        rw [if_neg (by omega), if_pos (by omega)]
        exact e
    · refine evs1 (vtree_end B hB hl hg false ?_) (fun k e => ?_)
      · unfold rootsB
        have : (P.length == 0) = true := by simpa using (by omega : P.length = 0)
        rw [this]; rfl
      · simp only [valid_Tree.l0]
        rw [if_neg (by omega), if_neg (by omega)]
        exact e
  | succ d ih =>
    intro i h hj
    have hi : i < P.length := by omega
    have hcl := count_take_le P i
    cases hq : parGood P i with
    | false =>
      have ht : treeB B P = false := by
        unfold treeB
        have : parsGood P = false := by
          rw [← Bool.not_eq_true]
          intro hc
          have := List.all_eq_true.1 hc i (List.mem_range.2 hi)
          rw [hq] at this
          cases this
        rw [this]; simp
      rw [ht]
      have hq2 : rd P (i : Int) < -1 ∨ rd P (i : Int) ≥ (P.length : Int) ∨ rd P (i : Int) = (i : Int) := by
        unfold parGood at hq
        simp only [Bool.not_eq_false', Bool.or_eq_true, decide_eq_true_eq, beq_iff_eq] at hq
        omega
      have hf : Ev (fun k => valid_Tree.j1 k (P.length : Int) ((P.take i).count (-1) : Nat) (rd P (i : Int)) P (P.length : Int) (i : Int) true B P) false := evs0 (fun k => by simp only [valid_Tree.j1]; rw [if_pos trivial])
      refine evs1 hf (fun k e => ?_)
      simp only [valid_Tree.l0]
      rw [if_pos (by omega), if_pos (by omega), if_pos (by omega)]
      by_cases c1 : rd P (i : Int) < -1
      · rw [if_pos c1]; exact e
      · rw [if_neg c1]
        by_cases c2 : rd P (i : Int) ≥ (P.length : Int)
        · rw [if_pos c2]; exact e
        · rw [if_neg c2, show (rd P (i : Int) == (i : Int)) = true by simpa using (by omega : rd P (i : Int) = (i : Int))]
          exact e
    | true =>
      have hq2 : ¬ rd P (i : Int) < -1 ∧ ¬ rd P (i : Int) ≥ (P.length : Int) ∧ ¬ rd P (i : Int) = (i : Int) := by
        unfold parGood at hq
        simp only [Bool.not_eq_true', Bool.or_eq_false_iff, decide_eq_false_iff_not, beq_eq_false_iff_ne] at hq
        omega
      have h2 := ih (i + 1) (by omega) (fun j hj2 => by
        by_cases e : j = i
        · rw [e]; exact hq
        · exact hj j (by omega))
      rw [count_take_succ P i hi] at h2
      have h3 : Ev (fun k => valid_Tree.j1 k (P.length : Int) ((P.take i).count (-1) : Nat) (rd P (i : Int)) P (P.length : Int) (i : Int) false B P) (treeB B P) := by
        refine evs1 h2 (fun k e => ?_)
        simp only [valid_Tree.j1]
        rw [if_neg (by simp), wrap_nat i (by omega)]
        by_cases c : rd P (i : Int) = -1
        · rw [if_pos c] at e ⊢
          rw [wrap_nat _ (by omega)]
          exact e
        · rw [if_neg c] at e ⊢
          exact e
      refine evs1 h3 (fun k e => ?_)
      simp only [valid_Tree.l0]
      rw [if_pos (by omega), if_pos (by omega), if_pos (by omega), if_neg hq2.1, if_neg hq2.2.1, show (rd P (i : Int) == (i : Int)) = false by simpa using hq2.2.2]
      exact e
theorem vtree_ev (B : List (List Int)) (P : List Int) (hl : P.length < 1000000) : Ev (fun k => valid_Tree.f k B P) (treeB B P) := by
  by_cases hB : P.length = B.length
  · refine evu1 (vtree_l0 B hB hl P.length 0 (by omega) (by omega)) (fun k e => ?_)
    simp only [valid_Tree.f]
    rw [if_pos (by omega), ← hB]
    simpa using e
  · refine evu0 (fun k => ?_)
    simp only [valid_Tree.f]
    rw [if_neg (by omega)]
    unfold treeB
    rw [show (P.length == B.length) = false by simpa using hB]
    rfl
/-! #### the program's Connected, Check -/
theorem tree_parts {B : List (List Int)} {P : List Int} (h : treeB B P = true) : P.length = B.length ∧ parsGood P = true ∧ rootsB P = true ∧ reachB P = true := by
  unfold treeB at h
  simp only [Bool.and_eq_true, beq_iff_eq] at h
  exact ⟨h.1.1.1, h.1.1.2, h.1.2, h.2⟩
theorem tree_ok {B : List (List Int)} {P : List Int} (h : treeB B P = true) (hl : B.length < 1000000) (hb : ∀ b ∈ B, b.length < 1000000 ∧ ∀ v ∈ b, -9223372036854775808 ≤ v ∧ v < 9223372036854775808) : connOk B P := by
  obtain ⟨h1, h2, _, _⟩ := tree_parts h
  refine ⟨h1, hl, hb, fun p hp => ?_⟩
  obtain ⟨i, hi, rfl⟩ := List.mem_iff_getElem.1 hp
  have := good_step h2 (i : Int) (by omega) (by omega)
  rw [rd_nat P i _ (List.getElem?_eq_getElem hi)] at this
  omega
theorem vconn_ev (n : Int) (B : List (List Int)) (P : List Int) (hp : P.length < 1000000) (hl : B.length < 1000000) (hb : ∀ b ∈ B, b.length < 1000000 ∧ ∀ v ∈ b, -9223372036854775808 ≤ v ∧ v < 9223372036854775808) : Ev (fun k => valid_Connected.f k n B P) (treeB B P && connB n B P) := by
  refine evu1 (vtree_ev B P hp) (fun k e => ?_)
  simp only [valid_Connected.f]
  rw [e, Option.bind_some]
  cases h : treeB B P with
  | false => rfl
  | true =>
    rw [if_pos rfl, if_pos (tree_ok h hl hb)]
    rfl
def checkB (n : Int) (S B : List (List Int)) (P : List Int) : Bool := treeB B P && coversB n S B && connB n B P
theorem vcovers (n : Int) (S B : List (List Int)) (P : List Int) (hn : n ≤ 9223372036854775807) : valid_Covers.f n S B P = some (coversB n S B) := by
  unfold valid_Covers.f
  rw [if_pos hn]
theorem vcheck_ev (n : Int) (S B : List (List Int)) (P : List Int) (hn : n ≤ 9223372036854775807) (hp : P.length < 1000000) (hl : B.length < 1000000) (hb : ∀ b ∈ B, b.length < 1000000 ∧ ∀ v ∈ b, -9223372036854775808 ≤ v ∧ v < 9223372036854775808) : Ev (fun k => valid_Check.f k n S B P) (checkB n S B P) := by
  refine evu2 (vtree_ev B P hp) (vconn_ev n B P hp hl hb) (fun k e1 e2 => ?_)
  simp only [valid_Check.f]
  rw [e1, Option.bind_some]
  unfold checkB
  cases h : treeB B P with
  | false => rfl
  | true =>
    rw [if_pos rfl, vcovers n S B P hn, Option.bind_some]
    cases h2 : coversB n S B with
    | false => rfl
    | true =>
      rw [if_pos rfl, e2, Option.bind_some, h]
      rfl
end Go.Proofs.Ytpmfdggbccbfaaa.Pr

set_option linter.unusedVariables false
set_option linter.unusedSimpArgs false
namespace Go.Proofs.Ytpmfdggbccbfaaa.Pr
open Go.RowKit Go.Proofs.YtpmfdggbccbfaaaW.PrintWords Go.Proofs.YtpmfdggbccbfaaaW.PrintLast

theorem rrising_loop (l : List Int) (hl : l.length ≤ 9223372036854775807) : ∀ (d i : Nat), l.length ≤ i + 1 + d → Ev (fun k => arboristref01_Rising.l0 k l ((i : Int) + 1)) (risingB (l.drop i)) := by
  intro d
  induction d with
  | zero =>
    intro i h
    refine evs0 (fun k => ?_)
    simp only [arboristref01_Rising.l0]
    rw [if_neg (by omega), rising_end l i (by omega)]
  | succ d ih =>
    intro i h
    by_cases hlt : i + 1 < l.length
    · have h1 : l[i]? = some l[i] := List.getElem?_eq_getElem (by omega)
      have h2 : l[i + 1]? = some l[i + 1] := List.getElem?_eq_getElem hlt
      have e1 : rd l ((i : Int) + 1) = l[i + 1] := rd_nat l (i + 1) _ h2
      have e2 : rd l (i : Int) = l[i] := rd_nat l i _ h1
      have w1 : wrap64 ((i : Int) + 1 - 1) = (i : Int) := by rw [Int.add_sub_cancel]; exact wrap_id (by omega) (by omega)
      refine evs1 (ih (i + 1) (by omega)) (fun k e => ?_)
      simp only [arboristref01_Rising.l0]
      rw [if_pos (by omega), if_pos (by omega), w1, if_pos (by omega), if_pos (by omega), e1, e2, rising_step l i _ _ h1 h2]
      by_cases hq : l[i + 1] ≤ l[i]
      · rw [if_pos hq, if_pos hq]
      · rw [if_neg hq, if_neg hq, wrap_succ (by omega) (by omega)]
        exact e
    · refine evs0 (fun k => ?_)
      simp only [arboristref01_Rising.l0]
      rw [if_neg (by omega), rising_end l i (by omega)]
theorem rrising_ev (l : List Int) (hl : l.length ≤ 9223372036854775807) : Ev (fun k => arboristref01_Rising.f k l) (risingB l) := by
  have := rrising_loop l hl l.length 0 (by omega)
  simpa [arboristref01_Rising.f] using this
theorem within_has (s b : List Int) : withinR s b = !(s.any fun v => !(b.any fun x => x == v)) := by
  rw [Bool.eq_iff_iff, withinR_iff]
  simp
theorem all_ev (s b : List Int) (hs : s.length < 17592186044416) (hb : b.length ≤ 9223372036854775807) : Ev (fun k => arboristref12_all.f k s b) (!(s.any fun v => !(b.any fun x => x == v))) := by
  refine evu1 (Within_ev s b hs hb) (fun k e => ?_)
  simp only [arboristref12_all.f]
  rw [e, Option.bind_some, within_has]
def hasIn (s : List Int) (b : List Int) : Bool := !(s.any fun v => !(b.any fun x => x == v))
theorem hasB_eq (B : List (List Int)) (s : List Int) : hasB B s = B.any (hasIn s) := rfl
theorem rcov_l4 (S : List (List Int)) (hS : S.length < 1000000) (B : List (List Int)) (P : List Int) (hB : B.length < 1000000) (hs : ∀ s ∈ S, s.length < 17592186044416) (hb : ∀ b ∈ B, b.length ≤ 9223372036854775807) (j : Nat) (hj : j < S.length) (r : Bool) : ∀ (d i : Nat) (f : Bool), B.length = i + d → ((f || (B.drop i).any (hasIn S[j])) = true → Ev (fun k => arboristref12_Covers.l3 k S (wrap64 ((j : Int) + 1)) B P) r) → ((f || (B.drop i).any (hasIn S[j])) = false → r = false) → Ev (fun k => arboristref12_Covers.l4 k S (j : Int) f (i : Int) B P) r := by
  intro d
  induction d with
  | zero =>
    intro i f h hy hn
    rw [List.drop_eq_nil_of_le (by omega)] at hy hn
    cases f with
    | true =>
      refine evs1 (hy rfl) (fun k e => ?_)
      simp only [arboristref12_Covers.l4]
      rw [if_neg (by omega), if_pos trivial]
      exact e
    | false =>
      rw [hn rfl]
      refine evs0 (fun k => ?_)
      simp only [arboristref12_Covers.l4]
      rw [if_neg (by omega), if_neg (by simp)]
  | succ d ih =>
    intro i f h hy hn
    have hi : i < B.length := by omega
    rw [List.drop_eq_getElem_cons hi, List.any_cons] at hy hn
    cases f with
    | true =>
      refine evs1 (ih (i + 1) true (by omega) (fun _ => hy rfl) (fun h => by cases h)) (fun k e => ?_)
      simp only [arboristref12_Covers.l4]
      rw [if_pos (by omega), if_pos trivial, wrap_nat i (by omega)]
      exact e
    | false =>
      refine evs2 (all_ev S[j] B[i] (hs _ (List.getElem_mem hj)) (hb _ (List.getElem_mem hi))) (ih (i + 1) (hasIn S[j] B[i]) (by omega) (by simpa using hy) (by simpa using hn)) (fun k e1 e2 => ?_)
      simp only [arboristref12_Covers.l4]
      rw [if_pos (by omega), if_neg (by simp), if_pos (by omega), if_pos (by omega), if_pos (by omega), L1_at S j hj, L1_at B i hi, e1, Option.bind_some, wrap_nat i (by omega)]
      exact e2
theorem rcov_l3 (S : List (List Int)) (hS : S.length < 1000000) (B : List (List Int)) (P : List Int) (hB : B.length < 1000000) (hs : ∀ s ∈ S, s.length < 17592186044416) (hb : ∀ b ∈ B, b.length ≤ 9223372036854775807) : ∀ (d j : Nat), S.length = j + d → Ev (fun k => arboristref12_Covers.l3 k S (j : Int) B P) ((S.drop j).all (fun s => hasB B s)) := by
  intro d
  induction d with
  | zero =>
    intro j h
    rw [List.drop_eq_nil_of_le (by omega)]
    refine evs0 (fun k => ?_)
    simp only [arboristref12_Covers.l3]
    rw [if_neg (by omega)]
    rfl
  | succ d ih =>
    intro j h
    have hj : j < S.length := by omega
    have h1 := ih (j + 1) (by omega)
    rw [← wrap_nat j (by omega)] at h1
    rw [List.drop_eq_getElem_cons hj, List.all_cons]
    refine evs1 (rcov_l4 S hS B P hB hs hb j hj (hasB B S[j] && (S.drop (j + 1)).all (fun s => hasB B s)) B.length 0 false (by omega) (fun hy => ?_) (fun hn => ?_)) (fun k e => ?_)
    · rw [List.drop_zero, Bool.false_or, ← hasB_eq] at hy
      rw [hy, Bool.true_and]
      exact h1
    · rw [List.drop_zero, Bool.false_or, ← hasB_eq] at hn
      rw [hn, Bool.false_and]
    · simp only [arboristref12_Covers.l3]
      rw [if_pos (by omega)]
      exact e
theorem rcov_l2 (n : Int) (S B : List (List Int)) (P : List Int) (hB : B.length < 1000000) (hb : ∀ b ∈ B, b.length ≤ 9223372036854775807) (v : Int) (r : Bool) : ∀ (d i : Nat) (f : Bool), B.length = i + d → ((f || (B.drop i).any (hasIn [v])) = true → Ev (fun k => arboristref12_Covers.l1 k n S (wrap64 (v + 1)) B P) r) → ((f || (B.drop i).any (hasIn [v])) = false → r = false) → Ev (fun k => arboristref12_Covers.l2 k n S v f (i : Int) B P) r := by
  intro d
  induction d with
  | zero =>
    intro i f h hy hn
    rw [List.drop_eq_nil_of_le (by omega)] at hy hn
    cases f with
    | true =>
      refine evs1 (hy rfl) (fun k e => ?_)
      simp only [arboristref12_Covers.l2]
      rw [if_neg (by omega), if_pos trivial]
      exact e
    | false =>
      rw [hn rfl]
      refine evs0 (fun k => ?_)
      simp only [arboristref12_Covers.l2]
      rw [if_neg (by omega), if_neg (by simp)]
  | succ d ih =>
    intro i f h hy hn
    have hi : i < B.length := by omega
    rw [List.drop_eq_getElem_cons hi, List.any_cons] at hy hn
    cases f with
    | true =>
      refine evs1 (ih (i + 1) true (by omega) (fun _ => hy rfl) (fun h => by cases h)) (fun k e => ?_)
      simp only [arboristref12_Covers.l2]
      rw [if_pos (by omega), if_pos trivial, wrap_nat i (by omega)]
      exact e
    | false =>
      refine evs2 (all_ev [v] B[i] (by simp) (hb _ (List.getElem_mem hi))) (ih (i + 1) (hasIn [v] B[i]) (by omega) (by simpa using hy) (by simpa using hn)) (fun k e1 e2 => ?_)
      simp only [arboristref12_Covers.l2]
      rw [if_pos (by omega), if_neg (by simp), if_pos (by omega), L1_at B i hi, e1, Option.bind_some, wrap_nat i (by omega)]
      exact e2
theorem rcov_l1 (n : Int) (hn : n < 1000000) (S : List (List Int)) (hS : S.length < 1000000) (B : List (List Int)) (P : List Int) (hB : B.length < 1000000) (hs : ∀ s ∈ S, s.length < 17592186044416) (hb : ∀ b ∈ B, b.length ≤ 9223372036854775807) : ∀ (d v : Nat), n.toNat = v + d → Ev (fun k => arboristref12_Covers.l1 k n S (v : Int) B P) ((List.range' v d).all (fun v => hasB B [(v : Int)]) && S.all (fun s => hasB B s)) := by
  intro d
  induction d with
  | zero =>
    intro v h
    refine evs1 (rcov_l3 S hS B P hB hs hb S.length 0 (by omega)) (fun k e => ?_)
    simp only [arboristref12_Covers.l1]
    rw [if_neg (by omega)]
    exact e
  | succ d ih =>
    intro v h
    have h1 := ih (v + 1) (by omega)
    rw [← wrap_nat v (by omega)] at h1
    rw [List.range'_succ, List.all_cons]
    refine evs1 (rcov_l2 n S B P hB hb (v : Int) ((hasB B [(v : Int)] && (List.range' (v + 1) d).all (fun v => hasB B [(v : Int)])) && S.all (fun s => hasB B s)) B.length 0 false (by omega) (fun hy => ?_) (fun hn => ?_)) (fun k e => ?_)
    · rw [List.drop_zero, Bool.false_or, ← hasB_eq] at hy
      rw [hy, Bool.true_and]
      exact h1
    · rw [List.drop_zero, Bool.false_or, ← hasB_eq] at hn
      rw [hn, Bool.false_and, Bool.false_and]
    · simp only [arboristref12_Covers.l1]
      rw [if_pos (by omega)]
      exact e
theorem rcov_l0 (n : Int) (hn : n < 1000000) (S : List (List Int)) (hS : S.length < 1000000) (B : List (List Int)) (P : List Int) (hB : B.length < 1000000) (hs : ∀ s ∈ S, s.length < 17592186044416) (hb : ∀ b ∈ B, b.length < 1000000) : ∀ (d i : Nat), B.length = i + d → Ev (fun k => arboristref12_Covers.l0 k n S (i : Int) B P) ((B.drop i).all (insideB n) && ((List.range n.toNat).all (fun v => hasB B [(v : Int)]) && S.all (fun s => hasB B s))) := by
  intro d
  induction d with
  | zero =>
    intro i h
    rw [List.drop_eq_nil_of_le (by omega)]
    refine evs1 (rcov_l1 n hn S hS B P hB hs (fun b h => by have := hb b h; omega) n.toNat 0 (by omega)) (fun k e => ?_)
    simp only [arboristref12_Covers.l0]
    rw [if_neg (by omega), List.all_nil, Bool.true_and, List.range_eq_range']
    exact e
  | succ d ih =>
    intro i h
    have hi : i < B.length := by omega
    have hbl := hb _ (List.getElem_mem hi)
    rw [List.drop_eq_getElem_cons hi, List.all_cons]
    have h1 := ih (i + 1) (by omega)
    refine evs2 (rrising_ev B[i] (by omega)) h1 (fun k e1 e2 => ?_)
    simp only [arboristref12_Covers.l0]
    rw [if_pos (by omega), if_pos (by omega), L1_at B i hi, e1, Option.bind_some]
    cases hr : risingB B[i] with
    | false => rw [if_neg (by simp), inside_false1 n _ hr]; simp
    | true =>
      rw [if_pos rfl]
      by_cases hz : B[i].length = 0
      · rw [if_neg (by omega), inside_nil n _ hz, wrap_nat i (by omega), Bool.true_and]
        exact e2
      · rw [if_pos (by omega), if_pos (by omega)]
        have g0 : B[i][0]? = some (B[i][0]'(by omega)) := List.getElem?_eq_getElem (by omega)
        have gq : B[i][B[i].length - 1]? = some (B[i][B[i].length - 1]'(by omega)) := List.getElem?_eq_getElem (by omega)
        have r0 : rd B[i] 0 = B[i][0]'(by omega) := rd_nat B[i] 0 _ g0
        have w1 : wrap64 ((B[i].length : Int) - 1) = ((B[i].length - 1 : Nat) : Int) := by rw [wrap_id (by omega) (by omega)]; omega
        have rq : rd B[i] ((B[i].length - 1 : Nat) : Int) = B[i][B[i].length - 1]'(by omega) := rd_nat B[i] _ _ gq
        rw [r0, w1, rq]
        by_cases c1 : B[i][0]'(by omega) < 0
        · rw [if_pos c1, inside_neg n _ _ g0 c1]; simp
        · rw [if_neg c1, if_pos (by omega), if_pos (by omega)]
          by_cases c2 : B[i][B[i].length - 1]'(by omega) ≥ n
          · rw [if_pos c2, inside_big n _ (B[i].length - 1) _ _ (by omega) g0 gq c2]; simp
          · rw [if_neg c2, inside_yes n _ (B[i].length - 1) _ _ (by omega) g0 gq hr (by omega) (by omega), wrap_nat i (by omega), Bool.true_and]
            exact e2
theorem covers_eq (n : Int) (S B : List (List Int)) : coversB n S B = (B.all (insideB n) && ((List.range n.toNat).all (fun v => hasB B [(v : Int)]) && S.all (fun s => hasB B s))) := by
  unfold coversB
  rw [Bool.and_assoc]
  congr 2
  rw [Bool.eq_iff_iff]
  simp
theorem rcovers_ev (n : Int) (hn : n < 1000000) (S : List (List Int)) (hS : S.length < 1000000) (B : List (List Int)) (P : List Int) (hB : B.length < 1000000) (hs : ∀ s ∈ S, s.length < 17592186044416) (hb : ∀ b ∈ B, b.length < 1000000) : Ev (fun k => arboristref12_Covers.f k n S B P) (coversB n S B) := by
  rw [covers_eq]
  refine evu1 (rcov_l0 n hn S hS B P hB hs hb B.length 0 (by omega)) (fun k e => ?_)
  simpa [arboristref12_Covers.f] using e
/-! #### Connected -/
/-- is v in bag i, and in none of its parent's? -/
def topC (B : List (List Int)) (P : List Int) (v : Int) (i : Nat) : Bool := inB (B.getD i []) v && !(upB B (P.getD i 0) v)
def topsN (B : List (List Int)) (P : List Int) (v : Int) : Nat := (List.range B.length).countP (topC B P v)
def connR (n : Int) (B : List (List Int)) (P : List Int) : Bool := (List.range n.toNat).all (fun v => decide (topsN B P (v : Int) ≤ 1))
theorem rconn_l1 (n : Int) (B : List (List Int)) (P : List Int) (hg : parsGood P = true) (hPB : P.length = B.length) (hB : B.length < 1000000) (hb : ∀ b ∈ B, b.length < 1000000) (v : Int) (r : Bool) : ∀ (d i c : Nat), B.length = i + d → c ≤ i → (c + (List.range' i d).countP (topC B P v) ≤ 1 → Ev (fun k => arboristref12_Connected.l0 k n (wrap64 (v + 1)) B P) r) → (¬ c + (List.range' i d).countP (topC B P v) ≤ 1 → r = false) → Ev (fun k => arboristref12_Connected.l1 k n v (c : Int) (i : Int) B P) r := by
  intro d
  induction d with
  | zero =>
    intro i c h hc hy hn
    simp only [List.range'_zero, List.countP_nil, Nat.add_zero] at hy hn
    by_cases e : c ≤ 1
    · refine evs1 (hy e) (fun k e => ?_)
      simp only [arboristref12_Connected.l1]
      rw [if_neg (by omega), if_neg (by omega)]
      exact e
    · rw [hn e]
      refine evs0 (fun k => ?_)
      simp only [arboristref12_Connected.l1]
      rw [if_neg (by omega), if_pos (by omega)]
  | succ d ih =>
    intro i c h hc hy hn
    have hi : i < B.length := by omega
    have gi : B.getD i [] = B[i] := by rw [List.getD_eq_getElem?_getD, List.getElem?_eq_getElem hi]; rfl
    have er : rd P (i : Int) = P.getD i 0 := rfl
    have hbl := hb _ (List.getElem_mem hi)
    have hst := good_step hg (i : Int) (by omega) (by omega)
    rw [List.range'_succ, List.countP_cons] at hy hn
    have hin := In_ev B[i] (by omega) v
    have same : ∀ t : Bool, topC B P v i = t → ∀ c2 : Nat, c2 = c + (if t = true then 1 else 0) → Ev (fun k => arboristref12_Connected.l1 k n v (c2 : Int) ((i + 1 : Nat) : Int) B P) r := by
      intro t ht c2 hc2
      rw [ht] at hy hn
      refine ih (i + 1) c2 (by omega) (by rw [hc2]; split <;> omega) (fun h2 => hy (by omega)) (fun h2 => hn (by omega))
    by_cases h1 : inB B[i] v = true
    · by_cases hp : rd P (i : Int) ≥ 0
      · obtain ⟨p, hpp⟩ := Int.eq_ofNat_of_zero_le hp
        have hpl : p < B.length := by omega
        have hin2 := In_ev B[p] (by have := hb _ (List.getElem_mem hpl); omega) v
        have hu : upB B (P.getD i 0) v = inB B[p] v := by
          unfold upB
          rw [← er, hpp]
          have e1 : ((p : Int) == -1) = false := beq_false_of_ne (by omega)
          rw [e1, Int.toNat_natCast, List.getD_eq_getElem?_getD, List.getElem?_eq_getElem hpl]
          rfl
        cases h2 : inB B[p] v with
        | true =>
          rw [h2] at hin2
          rw [h1] at hin
          refine evs3 hin hin2 (same false (by unfold topC; rw [hu, h2]; simp) c (by simp)) (fun k e1 e2 e3 => ?_)
          simp only [arboristref12_Connected.l1]
          rw [if_pos (by omega), if_pos (by omega), L1_at B i hi, e1, Option.bind_some, if_pos rfl, if_pos (by omega), if_pos hp, hpp, if_pos (by omega), if_pos (by omega), L1_at B p hpl, e2, Option.bind_some, if_pos rfl, wrap_nat i (by omega)]
          exact e3
        | false =>
          rw [h2] at hin2
          rw [h1] at hin
          refine evs3 hin hin2 (same true (by unfold topC; rw [hu, h2, gi, h1]; rfl) (c + 1) (by simp)) (fun k e1 e2 e3 => ?_)
          simp only [arboristref12_Connected.l1]
          rw [if_pos (by omega), if_pos (by omega), L1_at B i hi, e1, Option.bind_some, if_pos rfl, if_pos (by omega), if_pos hp, hpp, if_pos (by omega), if_pos (by omega), L1_at B p hpl, e2, Option.bind_some, if_neg (by simp), wrap_nat i (by omega), wrap_nat c (by omega)]
          exact e3
      · have hu : upB B (P.getD i 0) v = false := by
          unfold upB
          rw [← er, show rd P (i : Int) = -1 by omega]
          rfl
        rw [h1] at hin
        refine evs2 hin (same true (by unfold topC; rw [hu, gi, h1]; rfl) (c + 1) (by simp)) (fun k e1 e3 => ?_)
        simp only [arboristref12_Connected.l1]
        rw [if_pos (by omega), if_pos (by omega), L1_at B i hi, e1, Option.bind_some, if_pos rfl, if_pos (by omega), if_neg hp, wrap_nat i (by omega), wrap_nat c (by omega)]
        exact e3
    · have h1f : inB B[i] v = false := by simpa using h1
      rw [h1f] at hin
      refine evs2 hin (same false (by unfold topC; rw [gi, h1f]; rfl) c (by simp)) (fun k e1 e3 => ?_)
      simp only [arboristref12_Connected.l1]
      rw [if_pos (by omega), if_pos (by omega), L1_at B i hi, e1, Option.bind_some, if_neg (by simp), wrap_nat i (by omega)]
      exact e3
theorem rconn_l0 (n : Int) (hn : n < 1000000) (B : List (List Int)) (P : List Int) (hg : parsGood P = true) (hPB : P.length = B.length) (hB : B.length < 1000000) (hb : ∀ b ∈ B, b.length < 1000000) : ∀ (d v : Nat), n.toNat = v + d → Ev (fun k => arboristref12_Connected.l0 k n (v : Int) B P) ((List.range' v d).all (fun v => decide (topsN B P (v : Int) ≤ 1))) := by
  intro d
  induction d with
  | zero =>
    intro v h
    refine evs0 (fun k => ?_)
    simp only [arboristref12_Connected.l0]
    rw [if_neg (by omega)]
    rfl
  | succ d ih =>
    intro v h
    have h1 := ih (v + 1) (by omega)
    rw [← wrap_nat v (by omega)] at h1
    rw [List.range'_succ, List.all_cons]
    refine evs1 (rconn_l1 n B P hg hPB hB hb (v : Int) (decide (topsN B P (v : Int) ≤ 1) && (List.range' (v + 1) d).all (fun v => decide (topsN B P (v : Int) ≤ 1))) B.length 0 0 (by omega) (by omega) (fun hy => ?_) (fun hn => ?_)) (fun k e => ?_)
    · rw [Nat.zero_add, ← List.range_eq_range'] at hy
      rw [show decide (topsN B P (v : Int) ≤ 1) = true from decide_eq_true hy, Bool.true_and]
      exact h1
    · rw [Nat.zero_add, ← List.range_eq_range'] at hn
      rw [show decide (topsN B P (v : Int) ≤ 1) = false from decide_eq_false hn, Bool.false_and]
    · simp only [arboristref12_Connected.l0]
      rw [if_pos (by omega)]
      exact e
theorem rconn_ev (n : Int) (hn : n < 1000000) (B : List (List Int)) (P : List Int) (hp : P.length < 1000000) (hB : B.length < 1000000) (hb : ∀ b ∈ B, b.length < 1000000) : Ev (fun k => arboristref12_Connected.f k n B P) (treeB B P && connR n B P) := by
  cases h : treeB B P with
  | false =>
    have ht := rtree_ev B P hp
    rw [h] at ht
    refine evu1 ht (fun k e => ?_)
    simp only [arboristref12_Connected.f]
    rw [e, Option.bind_some, if_neg (by simp)]
    rfl
  | true =>
    have ht := rtree_ev B P hp
    rw [h] at ht
    obtain ⟨h1, h2, _, _⟩ := tree_parts h
    refine evu2 ht (rconn_l0 n hn B P h2 h1 hB hb n.toNat 0 (by omega)) (fun k e e2 => ?_)
    simp only [arboristref12_Connected.f]
    rw [e, Option.bind_some, if_pos rfl, Bool.true_and]
    unfold connR
    rw [List.range_eq_range']
    exact e2
end Go.Proofs.Ytpmfdggbccbfaaa.Pr

set_option linter.unusedVariables false
set_option linter.unusedSimpArgs false
namespace Go.Proofs.Ytpmfdggbccbfaaa.Pr
open Go.RowKit Go.Proofs.YtpmfdggbccbfaaaW.PrintWords Go.Proofs.YtpmfdggbccbfaaaW.PrintLast

theorem inB_con (x : Int) (l : List Int) (v : Int) : inB (x :: l) v = (x == v || inB l v) := rfl
theorem inB_app (a l : List Int) (v : Int) : inB (a ++ l) v = (inB a v || inB l v) := by simp [inB, List.any_append]
def newT (bags : List (List Int)) (p : Int) (b l : List Int) (k : Nat) (v : Int) : Bool := inB l v && !(inB (b.take k) v) && !(upB bags p v)
theorem skip_eq (bags : List (List Int)) (p : Int) (b : List Int) (k : Nat) (v : Int) : skipB bags p b k v = (inB (b.take k) v || upB bags p v) := rfl
theorem take_of_drop {b : List Int} {k : Nat} {x : Int} {l : List Int} (h : x :: l = b.drop k) : b.take (k + 1) = b.take k ++ [x] ∧ l = b.drop (k + 1) := by
  have hk : k < b.length := by
    rcases Nat.lt_or_ge k b.length with hk | hk
    · exact hk
    · rw [List.drop_eq_nil_of_le hk] at h; cases h
  rw [List.drop_eq_getElem_cons hk] at h
  injection h with h1 h2
  exact ⟨by rw [List.take_succ_eq_append_getElem hk, h1], h2⟩
theorem conn1_spec (n : Int) (bags : List (List Int)) (p : Int) (b : List Int) : ∀ (l : List Int) (k : Nat) (ts : List Int), l = b.drop k →
    (∃ us, conn1 n bags p b l k ts = some us ∧ (∀ v, us.count v = ts.count v + (if newT bags p b l k v = true then 1 else 0)) ∧ ∀ v, 0 ≤ v → v < n → newT bags p b l k v = true → ts.count v = 0) ∨
    (conn1 n bags p b l k ts = none ∧ ∃ v, 0 ≤ v ∧ v < n ∧ newT bags p b l k v = true ∧ 0 < ts.count v)
  | [], k, ts, _ => .inl ⟨ts, rfl, fun v => by simp [newT, inB], fun v _ _ h => by simp [newT, inB] at h⟩
  | x :: l, k, ts, h => by
    obtain ⟨ht, hl⟩ := take_of_drop h
    have hne : ∀ v, v ≠ x → newT bags p b (x :: l) k v = newT bags p b l (k + 1) v := fun v hv => by
      have e : (x == v) = false := beq_false_of_ne (fun e => hv e.symm)
      unfold newT
      rw [inB_con, ht, inB_app, inB_con, e]
      simp [inB]
    have hx1 : newT bags p b l (k + 1) x = false := by
      unfold newT
      rw [ht, inB_app, inB_con]
      simp
    cases hs : skipB bags p b k x with
    | true =>
      have hx2 : newT bags p b (x :: l) k x = false := by
        rw [skip_eq] at hs
        unfold newT
        rw [inB_con]
        cases h1 : inB (b.take k) x <;> cases h2 : upB bags p x <;> simp [h1, h2] at hs ⊢
      have hall : ∀ v, newT bags p b (x :: l) k v = newT bags p b l (k + 1) v := fun v => by
        by_cases e : v = x
        · rw [e, hx1, hx2]
        · exact hne v e
      rw [conn1_skip hs]
      rcases conn1_spec n bags p b l (k + 1) ts hl with ⟨us, h1, h2, h3⟩ | ⟨h1, v, h2, h3, h4, h5⟩
      · exact .inl ⟨us, h1, fun v => by rw [hall]; exact h2 v, fun v a c d => h3 v a c (by rw [← hall]; exact d)⟩
      · exact .inr ⟨h1, v, h2, h3, by rw [hall]; exact h4, h5⟩
    | false =>
      have hx2 : newT bags p b (x :: l) k x = true := by
        rw [skip_eq] at hs
        unfold newT
        rw [inB_con]
        cases h1 : inB (b.take k) x <;> cases h2 : upB bags p x <;> simp [h1, h2] at hs ⊢
      by_cases hc : 0 < ts.count x ∧ 0 ≤ x ∧ x < n
      · exact .inr ⟨conn1_end hs hc, x, hc.2.1, hc.2.2, hx2, hc.1⟩
      · rw [conn1_go hs hc]
        rcases conn1_spec n bags p b l (k + 1) (x :: ts) hl with ⟨us, h1, h2, h3⟩ | ⟨h1, v, h2, h3, h4, h5⟩
        · refine .inl ⟨us, h1, fun v => ?_, fun v a c d => ?_⟩
          · rw [h2 v]
            by_cases e : v = x
            · subst e
              rw [hx1, hx2, List.count_cons_self]
              simp
            · rw [hne v e, List.count_cons_of_ne (fun h => e h.symm)]
          · by_cases e : v = x
            · subst e
              omega
            · have := h3 v a c (by rw [← hne v e]; exact d)
              rwa [List.count_cons_of_ne (fun h => e h.symm)] at this
        · have e : v ≠ x := fun e => by rw [e, hx1] at h4; cases h4
          exact .inr ⟨h1, v, h2, h3, by rw [hne v e]; exact h4, by rwa [List.count_cons_of_ne (fun h => e h.symm)] at h5⟩
theorem conn0_spec (n : Int) (bags : List (List Int)) (par : List Int) : ∀ (l : List (List Int)) (i : Nat) (ts : List Int), l = bags.drop i →
    ((conn0 n bags par l i ts).isSome = true ↔ ∀ v, 0 ≤ v → v < n → ts.count v + (List.range' i l.length).countP (topC bags par v) ≤ 1 ∨ (List.range' i l.length).countP (topC bags par v) = 0)
  | [], i, ts, _ => by simp [conn0]
  | b :: l, i, ts, h => by
    have hi : i < bags.length := by
      rcases Nat.lt_or_ge i bags.length with hi | hi
      · exact hi
      · rw [List.drop_eq_nil_of_le hi] at h; cases h
    rw [List.drop_eq_getElem_cons hi] at h
    injection h with h1 h2
    have gi : bags.getD i [] = b := by rw [List.getD_eq_getElem?_getD, List.getElem?_eq_getElem hi, h1]; rfl
    have hT : ∀ v, newT bags (par.getD i 0) b b 0 v = topC bags par v i := fun v => by
      unfold newT topC
      rw [gi, List.take_zero]
      simp [inB]
    have hc : ∀ v, (List.range' i (b :: l).length).countP (topC bags par v) = (List.range' (i + 1) l.length).countP (topC bags par v) + (if topC bags par v i = true then 1 else 0) := fun v => by
      rw [List.length_cons, List.range'_succ, List.countP_cons]
    unfold conn0
    rcases conn1_spec n bags (par.getD i 0) b b 0 ts (by simp) with ⟨us, e1, e2, e3⟩ | ⟨e1, v, e2, e3, e4, e5⟩
    · rw [e1, Option.bind_some, conn0_spec n bags par l (i + 1) us h2]
      constructor
      · intro hh v a c
        have k1 := hh v a c
        have k2 := e2 v
        have k3 := e3 v a c
        have k4 := hc v
        rw [hT] at k2 k3
        cases ht : topC bags par v i with
        | false => rw [ht] at k2 k4; simp only [Bool.false_eq_true, if_false, Nat.add_zero] at k2 k4; omega
        | true => rw [ht] at k2 k4; have := k3 ht; simp only [if_true] at k2 k4; omega
      · intro hh v a c
        have k1 := hh v a c
        have k2 := e2 v
        have k3 := e3 v a c
        have k4 := hc v
        rw [hT] at k2 k3
        cases ht : topC bags par v i with
        | false => rw [ht] at k2 k4; simp only [Bool.false_eq_true, if_false, Nat.add_zero] at k2 k4; omega
        | true => rw [ht] at k2 k4; have := k3 ht; simp only [if_true] at k2 k4; omega
    · rw [e1, Option.bind_none]
      constructor
      · intro h; cases h
      · intro hh
        have k1 := hh v e2 e3
        have k4 := hc v
        rw [hT] at e4
        rw [e4] at k4
        simp only [if_true] at k4
        omega
theorem conn_eq (n : Int) (bags : List (List Int)) (par : List Int) : connB n bags par = connR n bags par := by
  rw [Bool.eq_iff_iff]
  unfold connB connR
  rw [conn0_spec n bags par bags 0 [] (by simp), List.all_eq_true]
  constructor
  · intro h v hv
    rw [List.mem_range] at hv
    have := h (v : Int) (by omega) (by omega)
    rw [← List.range_eq_range'] at this
    simp only [List.count_nil, Nat.zero_add] at this
    exact decide_eq_true (by unfold topsN; omega)
  · intro h v a c
    obtain ⟨m, rfl⟩ := Int.eq_ofNat_of_zero_le a
    have := of_decide_eq_true (h m (List.mem_range.2 (by omega)))
    unfold topsN at this
    rw [← List.range_eq_range']
    simp only [List.count_nil, Nat.zero_add]
    exact .inl this
end Go.Proofs.Ytpmfdggbccbfaaa.Pr

set_option linter.unusedVariables false
namespace Go.Proofs.Ytpmfdggbccbfaaa.Pr
open Go.RowKit Go.Proofs.YtpmfdggbccbfaaaW.PrintWords Go.Proofs.YtpmfdggbccbfaaaW.PrintLast

theorem valid_shown : arboristlaw12_shown.f 100 = some true := by decide +kernel
theorem mn30 (n : Int) : mn n 30 ≤ 9223372036854775807 := by
  unfold mn
  split <;> omega
theorem wf_range {a : Int} (h : (Lit.int .i64 a).wf = true) : -9223372036854775808 ≤ a ∧ a < 9223372036854775808 := by
  simp [Lit.wf, IntKind.min, IntKind.max, IntKind.signed, IntKind.bits] at h
  omega
theorem cutIn {B : List (List Int)} (hB : B.length ≤ maxLen ∧ ∀ z0 ∈ B, (z0.length ≤ maxLen ∧ ∀ z1 ∈ z0, (Lit.int .i64 z1).wf = true)) : (cutB B).length < 1000000 ∧ ∀ b ∈ cutB B, b.length < 1000000 ∧ ∀ v ∈ b, -9223372036854775808 ≤ v ∧ v < 9223372036854775808 := by
  unfold cutB
  refine ⟨by simp; omega, fun b hb => ?_⟩
  obtain ⟨b0, hb0, rfl⟩ := List.mem_map.1 hb
  have h2 := hB.2 b0 (List.mem_of_mem_take hb0)
  exact ⟨by simp; omega, fun v hv => wf_range (h2.2 v (List.mem_of_mem_take hv))⟩
end Go.Proofs.Ytpmfdggbccbfaaa.Pr

set_option linter.unusedVariables false
set_option linter.unusedSimpArgs false
namespace Go.Proofs.Ytpmfdggbccbfaaa.Pure
open Go.RowKit Go.Proofs.Ytpmfdggbccbfaaa.Pr Go.Proofs.YtpmfdggbccbfaaaW.PrintWords Go.Proofs.YtpmfdggbccbfaaaW.PrintLast

theorem cut_cut (B : List (List Int)) : cutB (cutB B) = cutB B := by
  unfold cutB
  rw [← List.map_take, List.take_take, List.map_map, Nat.min_self]
  apply List.map_congr_left
  intro b _
  simp [List.take_take]
theorem covers_less (n : Int) (S B : List (List Int)) (h : coversB n S B = true) : coversB n (S.drop 1) B = true := by
  rw [covers_eq] at h ⊢
  simp only [Bool.and_eq_true, List.all_eq_true] at h ⊢
  exact ⟨h.1, h.2.1, fun s hs => h.2.2 s (List.mem_of_mem_drop hs)⟩
section
variable {B : List (List Int)} {P : List Int} {a : Nat} (ha : a < B.length) (hPB : P.length = B.length) (hlt : ∀ j : Nat, j < P.length → rd P (j : Int) < (B.length : Int))
theorem rd_snoc (j : Nat) (hj : j < P.length) : rd (P ++ [(a : Int)]) (j : Int) = rd P (j : Int) := by
  rw [rd_nat P j _ (List.getElem?_eq_getElem hj), rd_nat (P ++ [(a : Int)]) j P[j] (by rw [List.getElem?_append_left hj, List.getElem?_eq_getElem hj])]
theorem rd_last : rd (P ++ [(a : Int)]) ((P.length : Nat) : Int) = (a : Int) := by
  rw [rd_nat (P ++ [(a : Int)]) P.length (a : Int) (by simp)]
include ha hPB hlt in
theorem pars_snoc : parsGood (P ++ [(a : Int)]) = parsGood P := by
  have h1 : ∀ j : Nat, j < P.length → parGood (P ++ [(a : Int)]) j = parGood P j := fun j hj => by
    have := hlt j hj
    unfold parGood
    rw [rd_snoc j hj, List.length_append, List.length_singleton]
    have e1 : decide (rd P (j : Int) ≥ ((P.length + 1 : Nat) : Int)) = false := decide_eq_false (by omega)
    have e2 : decide (rd P (j : Int) ≥ (P.length : Int)) = false := decide_eq_false (by omega)
    rw [e1, e2]
  have h2 : parGood (P ++ [(a : Int)]) P.length = true := by
    unfold parGood
    rw [rd_last, List.length_append, List.length_singleton]
    have e1 : decide ((a : Int) < -1) = false := decide_eq_false (by omega)
    have e2 : decide ((a : Int) ≥ ((P.length + 1 : Nat) : Int)) = false := decide_eq_false (by omega)
    have e3 : ((a : Int) == (P.length : Int)) = false := beq_false_of_ne (by omega)
    rw [e1, e2, e3]; rfl
  unfold parsGood
  rw [List.length_append, List.length_singleton, List.range_succ, List.all_append, List.all_cons, h2]
  simp only [List.all_nil, Bool.and_true]
  rw [Bool.eq_iff_iff, List.all_eq_true, List.all_eq_true]
  constructor
  · intro h j hj
    rw [← h1 j (List.mem_range.1 hj)]; exact h j hj
  · intro h j hj
    rw [h1 j (List.mem_range.1 hj)]; exact h j hj
theorem roots_snoc (hp : 0 < P.length) : rootsB (P ++ [(a : Int)]) = rootsB P := by
  unfold rootsB
  rw [List.count_append, List.count_cons_of_ne (by omega), List.count_nil, Nat.add_zero, List.length_append, List.length_singleton]
  rw [show (P.length + 1 == 0) = false from rfl, show (P.length == 0) = false by simpa using (by omega : ¬ P.length = 0)]
theorem up_snoc (hg : parsGood P = true) : ∀ (m : Nat) (i : Int), -1 ≤ i → i < P.length → upP (P ++ [(a : Int)]) m i = upP P m i
  | 0, _, _, _ => rfl
  | m + 1, i, h0, h1 => by
    rw [upP, upP]
    have e : stepP (P ++ [(a : Int)]) i = stepP P i := by
      unfold stepP
      by_cases h : i < 0
      · rw [if_pos h, if_pos h]
      · rw [if_neg h, if_neg h]
        obtain ⟨j, rfl⟩ := Int.eq_ofNat_of_zero_le (show 0 ≤ i by omega)
        exact rd_snoc j (by omega)
    rw [e]
    have hr : -1 ≤ stepP P i ∧ stepP P i < P.length := by
      have := up_range hg 1 i h0 h1
      exact this
    exact up_snoc hg m _ hr.1 hr.2
include ha hPB in
theorem reach_snoc (hg : parsGood P = true) : reachB (P ++ [(a : Int)]) = reachB P := by
  unfold reachB
  rw [List.length_append, List.length_singleton, List.range_succ, List.all_append, Bool.eq_iff_iff]
  simp only [List.all_cons, List.all_nil, Bool.and_true, Bool.and_eq_true, List.all_eq_true, decide_eq_true_eq, List.mem_range]
  constructor
  · intro h j hj
    have := h.1 j hj
    rw [up_snoc hg _ (j : Int) (by omega) (by omega)] at this
    exact up_soon hg (j : Int) (by omega) (by omega) ⟨_, this⟩
  · intro h
    refine ⟨fun j hj => ?_, ?_⟩
    · rw [up_snoc hg _ (j : Int) (by omega) (by omega)]
      exact up_stays (h j hj) 1
    · have e : upP (P ++ [(a : Int)]) (P.length + 1) (P.length : Int) = upP (P ++ [(a : Int)]) P.length (a : Int) := by
        rw [upP]
        unfold stepP
        rw [if_neg (by omega), rd_last]
      rw [e, up_snoc hg _ (a : Int) (by omega) (by omega)]
      exact h a (by omega)
include ha hPB hlt in
theorem tree_snoc : treeB (B ++ [B[a]]) (P ++ [(a : Int)]) = treeB B P := by
  unfold treeB
  rw [pars_snoc ha hPB hlt, roots_snoc (by omega)]
  have e : ((P ++ [(a : Int)]).length == (B ++ [B[a]]).length) = (P.length == B.length) := by
    simp [hPB]
  rw [e]
  cases hg : parsGood P with
  | false => simp
  | true => rw [reach_snoc ha hPB hg]
theorem has_snoc (s : List Int) : hasB (B ++ [B[a]]) s = hasB B s := by
  rw [hasB_eq, hasB_eq, List.any_append]
  simp only [List.any_cons, List.any_nil, Bool.or_false]
  cases h : B.any (hasIn s) with
  | true => rfl
  | false =>
    rw [Bool.false_or]
    have := List.any_eq_false.1 h B[a] (List.getElem_mem ha)
    simpa using this
theorem covers_snoc (n : Int) (S : List (List Int)) : coversB n S (B ++ [B[a]]) = coversB n S B := by
  rw [covers_eq, covers_eq]
  congr 1
  · rw [List.all_append, Bool.eq_iff_iff]
    simp only [List.all_cons, List.all_nil, Bool.and_true, Bool.and_eq_true, List.all_eq_true]
    exact ⟨fun h => h.1, fun h => ⟨h, h _ (List.getElem_mem ha)⟩⟩
  · congr 1
    · congr 1
      funext v
      exact has_snoc ha _
    · congr 1
      funext s
      exact has_snoc ha s
theorem getD_snoc {α : Type} (L : List α) (x d : α) (j : Nat) (hj : j < L.length) : (L ++ [x]).getD j d = L.getD j d := by
  rw [List.getD_eq_getElem?_getD, List.getD_eq_getElem?_getD, List.getElem?_append_left hj]
include ha hPB hlt in
theorem conn_snoc (n : Int) (hg : parsGood P = true) : connR n (B ++ [B[a]]) (P ++ [(a : Int)]) = connR n B P := by
  unfold connR
  congr 1
  funext v
  congr 2
  unfold topsN
  rw [List.length_append, List.length_singleton, List.range_succ, List.countP_append]
  have hlast : topC (B ++ [B[a]]) (P ++ [(a : Int)]) (v : Int) B.length = false := by
    unfold topC upB
    have e1 : (B ++ [B[a]]).getD B.length [] = B[a] := by rw [List.getD_eq_getElem?_getD]; simp
    have e2 : (P ++ [(a : Int)]).getD B.length 0 = (a : Int) := by rw [← hPB, List.getD_eq_getElem?_getD]; simp
    have e3 : ((a : Int) == -1) = false := beq_false_of_ne (by omega)
    rw [e1, e2, e3, Int.toNat_natCast, getD_snoc B _ _ a ha, List.getD_eq_getElem?_getD, List.getElem?_eq_getElem ha]
    unfold inB
    simp
  have e0 : List.countP (topC (B ++ [B[a]]) (P ++ [(a : Int)]) (v : Int)) [B.length] = 0 := by
    rw [List.countP_cons, hlast]; rfl
  rw [e0, Nat.add_zero]
  apply List.countP_congr
  intro j hj
  rw [List.mem_range] at hj
  have e : topC (B ++ [B[a]]) (P ++ [(a : Int)]) (v : Int) j = topC B P (v : Int) j := by
    unfold topC upB
    rw [getD_snoc B _ _ j hj, getD_snoc P _ _ j (by omega)]
    have h1 := good_step hg (j : Int) (by omega) (by omega)
    have h2 := hlt j (by omega)
    have er : rd P (j : Int) = P.getD j 0 := rfl
    rw [er] at h1 h2
    by_cases c : P.getD j 0 = -1
    · rw [c]; simp
    · obtain ⟨p, hp⟩ := Int.eq_ofNat_of_zero_le (show 0 ≤ P.getD j 0 by omega)
      rw [hp, Int.toNat_natCast, getD_snoc B _ _ p (by omega)]
  rw [e]
include ha hPB hlt in
theorem check_snoc (n : Int) (S : List (List Int)) : checkB n S (B ++ [B[a]]) (P ++ [(a : Int)]) = checkB n S B P := by
  unfold checkB
  rw [tree_snoc ha hPB hlt, covers_snoc ha, conn_eq, conn_eq]
  cases h : treeB B P with
  | false => rfl
  | true => rw [conn_snoc ha hPB hlt n (tree_parts h).2.1]
end
theorem more_l0 (n : Int) (hn : n ≤ 9223372036854775807) (S B : List (List Int)) (P : List Int) (x : Int) (hB10 : B.length ≤ 10) (hP10 : P.length ≤ 10) (hcut : cutB B = B) (hz : B.length ≠ 0) (hPB : P.length = B.length) (hb : ∀ b ∈ B, b.length < 100000 ∧ ∀ v ∈ b, -9223372036854775808 ≤ v ∧ v < 9223372036854775808) : ∀ (d i : Nat), P.length = i + d → (∀ j : Nat, j < i → rd P (j : Int) < (B.length : Int)) → Ev (fun k => arboristlaw12_ValidMore.l0 k n S x true (checkB n S B P) (i : Int) B P) true := by
  intro d
  induction d with
  | zero =>
    intro i h hlt
    have hm : Int.tmod (x % 65536) (B.length : Int) = (x % 65536) % (B.length : Int) := Int.tmod_eq_emod_of_nonneg (by omega)
    have h2 := Int.emod_nonneg (x % 65536) (show (B.length : Int) ≠ 0 by omega)
    have h3 := Int.emod_lt_of_pos (x % 65536) (show 0 < (B.length : Int) by omega)
    have hx : Int.tmod (Go.bits .and .i64 x 65535) (B.length : Int) = (x % 65536) % (B.length : Int) := by rw [i64_and65535, hm]
    obtain ⟨a, ha⟩ := Int.eq_ofNat_of_zero_le h2
    have hal : a < B.length := by omega
    have hc := check_snoc hal hPB (fun j hj => hlt j (by omega)) n S
    have hv := vcheck_ev n S (B ++ [B[a]]) (P ++ [(a : Int)]) hn (by simp; omega) (by simp; omega) (fun b hb2 => by
      rcases List.mem_append.1 hb2 with h | h
      · have := hb b h; exact ⟨by omega, this.2⟩
      · rw [List.mem_singleton] at h
        have := hb B[a] (List.getElem_mem hal)
        rw [h]; exact ⟨by omega, this.2⟩)
    rw [hc] at hv
    have hcu := cut_ev B P
    rw [hcut, List.take_of_length_le hP10] at hcu
    refine evs2 hcu hv (fun k e1 e2 => ?_)
    simp only [arboristlaw12_ValidMore.l0]
    rw [if_neg (by omega), if_neg (by omega), e1, Option.bind_some, hx, ha, if_pos (by omega), if_pos (by omega), if_pos (by simp only; omega), if_pos (by simp only; omega), if_pos trivial, L1_at B a hal]
    simp only
    rw [e2, Option.bind_some]
    simp
  | succ d ih =>
    intro i h hlt
    by_cases c : rd P (i : Int) ≥ (B.length : Int)
    · refine evs0 (fun k => ?_)
      simp only [arboristlaw12_ValidMore.l0]
      rw [if_pos (by omega), if_pos (by omega), if_pos c]
    · refine evs1 (ih (i + 1) (by omega) (fun j hj => by
        by_cases e : j = i
        · rw [e]; omega
        · exact hlt j (by omega))) (fun k e => ?_)
      simp only [arboristlaw12_ValidMore.l0]
      rw [if_pos (by omega), if_pos (by omega), if_neg c, wrap_nat i (by omega)]
      exact e
theorem ValidMore : arboristlaw12_ValidMore.Pure := by
  intro n S B P x hn hS hB hP _
  have hc := cutIn hB
  have hb8 : ∀ b ∈ cutB B, b.length < 100000 ∧ ∀ v ∈ b, -9223372036854775808 ≤ v ∧ v < 9223372036854775808 := fun b hb => by
    refine ⟨?_, (hc.2 b hb).2⟩
    obtain ⟨b0, _, rfl⟩ := List.mem_map.1 hb
    simp; omega
  have hB10 : (cutB B).length ≤ 10 := by unfold cutB; simp; omega
  have hP10 : (P.take 10).length ≤ 10 := by simp; omega
  have hs : Ev (fun k => arboristlaw12_shown.f k) true := Ev.of (fun k => arboristlaw12_shown.mono k) valid_shown
  have hm := mn30 n
  have v1 := vcheck_ev (mn n 30) (cutS S) (cutB B) (P.take 10) hm (by omega) hc.1 hc.2
  have v2 := vcheck_ev (mn n 30) ((cutS S).drop 1) (cutB B) (P.take 10) hm (by omega) hc.1 hc.2
  have j0 : Ev (fun k => arboristlaw12_ValidMore.j0 k (mn n 30) (cutS S) x true (checkB (mn n 30) (cutS S) (cutB B) (P.take 10)) false (cutB B) (P.take 10)) true := by
    by_cases hz : (cutB B).length = 0
    · refine evs1 (g1 := fun k => arboristlaw12_ValidMore.j1 k (mn n 30) (cutS S) x true (checkB (mn n 30) (cutS S) (cutB B) (P.take 10)) true (cutB B) (P.take 10)) (a1 := true) (evs0 (fun k => ?_)) (fun k e => ?_)
      · simp only [arboristlaw12_ValidMore.j1]; rw [if_pos trivial]
      · simp only [arboristlaw12_ValidMore.j0]; rw [if_neg (by simp), if_pos (by omega)]; exact e
    · by_cases hPB : (P.take 10).length = (cutB B).length
      · refine evs1 (g1 := fun k => arboristlaw12_ValidMore.j1 k (mn n 30) (cutS S) x true (checkB (mn n 30) (cutS S) (cutB B) (P.take 10)) false (cutB B) (P.take 10)) (a1 := true) (evs1 (more_l0 (mn n 30) hm (cutS S) (cutB B) (P.take 10) x hB10 hP10 (cut_cut B) hz hPB hb8 (P.take 10).length 0 (by omega) (fun j hj => by omega)) (fun k e => ?_)) (fun k e => ?_)
        · simp only [arboristlaw12_ValidMore.j1]; rw [if_neg (by simp)]; exact e
        · simp only [arboristlaw12_ValidMore.j0]
          rw [if_neg (by simp), if_neg (by omega), hPB, show ((((cutB B).length : Nat) : Int) != (((cutB B).length : Nat) : Int)) = false by simp]
          exact e
      · refine evs1 (g1 := fun k => arboristlaw12_ValidMore.j1 k (mn n 30) (cutS S) x true (checkB (mn n 30) (cutS S) (cutB B) (P.take 10)) true (cutB B) (P.take 10)) (a1 := true) (evs0 (fun k => ?_)) (fun k e => ?_)
        · simp only [arboristlaw12_ValidMore.j1]; rw [if_pos trivial]
        · simp only [arboristlaw12_ValidMore.j0]
          rw [if_neg (by simp), if_neg (by omega), show ((((P.take 10).length : Nat) : Int) != (((cutB B).length : Nat) : Int)) = true by simp only [bne_iff_ne]; omega]
          exact e
  refine (evu6 hs (cut_ev B P) (scopes_ev S) v1 v2 j0 (fun k e1 e2 e3 e4 e5 e6 => ?_)).rounds
  simp only [arboristlaw12_ValidMore.f]
  rw [e1, Option.bind_some, e2, Option.bind_some, e3, Option.bind_some, e4, Option.bind_some]
  cases hq : checkB (mn n 30) (cutS S) (cutB B) (P.take 10) with
  | false =>
    rw [hq] at e6
    rw [if_neg (by simp)]
    exact e6
  | true =>
    rw [hq] at e6
    have hd : checkB (mn n 30) ((cutS S).drop 1) (cutB B) (P.take 10) = true := by
      unfold checkB at hq ⊢
      simp only [Bool.and_eq_true] at hq ⊢
      exact ⟨⟨hq.1.1, covers_less _ _ _ hq.1.2⟩, hq.2⟩
    rw [if_pos rfl]
    by_cases hl : ((cutS S).length : Int) > 0
    · rw [if_pos hl, if_pos (by omega), e5, Option.bind_some, hd]
      exact e6
    · rw [if_neg hl]
      exact e6

end Go.Proofs.Ytpmfdggbccbfaaa.Pure
