/- BuiltFull: all rows are what the document says. -/
import Derived.Laws.BitsAllLaws
import Derived.Test.YtlckejeglchgmaaPr0
import Derived.Test.YtlckejeglchgmaaPr1
import Derived.Test.YtlckejeglchgmaaPr25
import Derived.Test.YtlckejeglchgmaaPr26
import Derived.Test.YtlckejeglchgmaaPr27
import Derived.Test.YtlckejeglchgmaaPr28
import Derived.Test.YtlckejeglchgmaaPr29
import Derived.Test.YtlckejeglchgmaaPr3
import Derived.Test.YtlckejeglchgmaaPr30
import Derived.Test.YtlckejeglchgmaaPr31
import Derived.Test.YtlckejeglchgmaaPr5
set_option linter.unusedVariables false
set_option linter.unusedSimpArgs false
set_option linter.unusedSectionVars false
namespace Go.Proofs.Ytlckejeglchgmaa.Pr
open Go.RowKit Go.Proofs.YtlckejeglchgmaaW.PrintWords Go.Proofs.YtlckejeglchgmaaW.PrintLast
theorem evs0 {ρ : Type} {F : Nat → Option ρ} {r : ρ} (H : ∀ k, F (k + 1) = some r) : Ev F r := ⟨1, fun k hk => by obtain ⟨m, rfl⟩ : ∃ m, k = m + 1 := ⟨k - 1, by omega⟩; exact H m⟩
theorem evu1 {ρ : Type} {F : Nat → Option ρ} {r : ρ} {α1 : Type} {g1 : Nat → Option α1} {a1 : α1} (h1 : Ev g1 a1) (H : ∀ k, g1 k = some a1 → F k = some r) : Ev F r := by
  obtain ⟨K1, e1⟩ := h1
  exact ⟨K1, fun k hk => H k (e1 _ (by omega))⟩
theorem evs1 {ρ : Type} {F : Nat → Option ρ} {r : ρ} {α1 : Type} {g1 : Nat → Option α1} {a1 : α1} (h1 : Ev g1 a1) (H : ∀ k, g1 k = some a1 → F (k + 1) = some r) : Ev F r := by
  obtain ⟨K1, e1⟩ := h1
  refine ⟨K1 + 1, fun k hk => ?_⟩
  obtain ⟨m, rfl⟩ : ∃ m, k = m + 1 := ⟨k - 1, by omega⟩
  exact H m (e1 _ (by omega))
theorem evu2 {ρ : Type} {F : Nat → Option ρ} {r : ρ} {α1 : Type} {g1 : Nat → Option α1} {a1 : α1} {α2 : Type} {g2 : Nat → Option α2} {a2 : α2} (h1 : Ev g1 a1) (h2 : Ev g2 a2) (H : ∀ k, g1 k = some a1 → g2 k = some a2 → F k = some r) : Ev F r := by
  obtain ⟨K1, e1⟩ := h1; obtain ⟨K2, e2⟩ := h2
  exact ⟨K1 + K2, fun k hk => H k (e1 _ (by omega)) (e2 _ (by omega))⟩
theorem evs2 {ρ : Type} {F : Nat → Option ρ} {r : ρ} {α1 : Type} {g1 : Nat → Option α1} {a1 : α1} {α2 : Type} {g2 : Nat → Option α2} {a2 : α2} (h1 : Ev g1 a1) (h2 : Ev g2 a2) (H : ∀ k, g1 k = some a1 → g2 k = some a2 → F (k + 1) = some r) : Ev F r := by
  obtain ⟨K1, e1⟩ := h1; obtain ⟨K2, e2⟩ := h2
  refine ⟨K1 + K2 + 1, fun k hk => ?_⟩
  obtain ⟨m, rfl⟩ : ∃ m, k = m + 1 := ⟨k - 1, by omega⟩
  exact H m (e1 _ (by omega)) (e2 _ (by omega))
end Go.Proofs.Ytlckejeglchgmaa.Pr
set_option linter.unusedVariables false
set_option linter.unusedSimpArgs false
namespace Go.Proofs.Ytlckejeglchgmaa.Pure
open Go.RowKit Go.Proofs.Ytlckejeglchgmaa.Pr Go.Proofs.YtlckejeglchgmaaW.PrintWords Go.Proofs.YtlckejeglchgmaaW.PrintLast Go.Proofs.YtlckejeglchgmaaW.PrintMore
theorem shown_7 : arboristlaw07_shown.f = some true := by decide +kernel
theorem wrap_n7 (i : Nat) (h : i < 9223372036854775807) : wrap64 ((i : Int) + 1) = ((i + 1 : Nat) : Int) := by rw [wrap_succ (by omega) (by omega)]; rfl
theorem rd_at (l : List Int) (i : Nat) (h : i < l.length) : rd l (i : Int) = l[i] := rd_nat l i _ (List.getElem?_eq_getElem h)
end Go.Proofs.Ytlckejeglchgmaa.Pure
set_option linter.unusedVariables false
set_option linter.unusedSimpArgs false
namespace Go.Proofs.Ytlckejeglchgmaa.Pr
open Go.RowKit Go.Proofs.YtlckejeglchgmaaW.PrintWords Go.Proofs.YtlckejeglchgmaaW.PrintLast
theorem drop_at (l : List Int) (i : Nat) (h : i < l.length) : l.drop i = rd l (i : Int) :: l.drop (i + 1) := by
  rw [List.drop_eq_getElem_cons h, rd_nat l i _ (List.getElem?_eq_getElem h)]
theorem wrap_nat (i : Nat) (h : i < 9223372036854775807) : wrap64 ((i : Int) + 1) = ((i + 1 : Nat) : Int) := by rw [wrap_succ (by omega) (by omega)]; rfl
def inB (l : List Int) (v : Int) : Bool := l.any (fun x => x == v)
theorem In_loop (l : List Int) (hl : l.length ≤ 9223372036854775807) (v : Int) : ∀ d i : Nat, l.length = i + d → Ev (fun k => arboristref01_In.l0 k l v (i : Int)) (inB (l.drop i) v) := by
  intro d
  induction d with
  | zero =>
    intro i h
    refine Ev.step (f := fun _ => some (inB (l.drop i) v)) (fun k => ?_) (Ev.now _)
    simp only [arboristref01_In.l0]
    rw [if_neg (by omega), List.drop_eq_nil_of_le (by omega)]
    rfl
  | succ d ih =>
    intro i h
    have hi : i < l.length := by omega
    by_cases e : rd l (i : Int) = v
    · refine Ev.step (f := fun _ => some (inB (l.drop i) v)) (fun k => ?_) (Ev.now _)
      simp only [arboristref01_In.l0]
      rw [if_pos (by omega), if_pos (by omega), if_pos e, drop_at l i hi]
      simp [inB, e]
    · refine Ev.step (f := fun k => arboristref01_In.l0 k l v ((i + 1 : Nat) : Int)) (fun k => ?_) ?_
      · simp only [arboristref01_In.l0]
        rw [if_pos (by omega), if_pos (by omega), if_neg e, wrap_nat i (by omega)]
      · have := ih (i + 1) (by omega)
        rw [drop_at l i hi]
        have e2 : (rd l (i : Int) == v) = false := by simpa using e
        simpa [inB, e2] using this
theorem In_ev (l : List Int) (hl : l.length ≤ 9223372036854775807) (v : Int) : Ev (fun k => arboristref01_In.f k l v) (inB l v) := by
  have := In_loop l hl v l.length 0 (by omega)
  simpa [arboristref01_In.f] using this
def withoutL (a b : List Int) : List Int := a.filter (fun x => !inB b x)
theorem Without_loop (a b : List Int) (ha : a.length < 17592186044416) (hb : b.length ≤ 9223372036854775807) : ∀ (d i : Nat) (out : List Int), a.length = i + d → out.length ≤ i → Ev (fun k => arboristref01_Without.l0 k a b out (i : Int)) (out ++ withoutL (a.drop i) b) := by
  intro d
  induction d with
  | zero =>
    intro i out h ho
    refine Ev.step (f := fun _ => some (out ++ withoutL (a.drop i) b)) (fun k => ?_) (Ev.now _)
    simp only [arboristref01_Without.l0]
    rw [if_neg (by omega), List.drop_eq_nil_of_le (by omega)]
    simp [withoutL]
  | succ d ih =>
    intro i out h ho
    have hi : i < a.length := by omega
    refine Ev.step (f := fun k => (arboristref01_In.f k b (rd a (i : Int))).bind fun t => if t = true then arboristref01_Without.l0 k a b out ((i + 1 : Nat) : Int) else if out.length < 17592186044416 then arboristref01_Without.l0 k a b (out ++ [rd a (i : Int)]) ((i + 1 : Nat) : Int) else none) (fun k => ?_) ?_
    · simp only [arboristref01_Without.l0]
      rw [if_pos (by omega), if_pos (by omega), wrap_nat i (by omega)]
    · refine Ev.bind (In_ev b hb _) ?_
      rw [drop_at a i hi]
      cases hc : inB b (rd a (i : Int)) with
      | true =>
        have := ih (i + 1) out (by omega) (by omega)
        simpa [withoutL, hc] using this
      | false =>
        have := ih (i + 1) (out ++ [rd a (i : Int)]) (by omega) (by simp; omega)
        have hlt : out.length < 17592186044416 := by omega
        simpa [withoutL, hc, hlt] using this
theorem Without_ev (a b : List Int) (ha : a.length < 17592186044416) (hb : b.length ≤ 9223372036854775807) : Ev (fun k => arboristref01_Without.f k a b) (withoutL a b) := by
  have := Without_loop a b ha hb a.length 0 [] (by omega) (by simp)
  simpa [arboristref01_Without.f] using this
def cmpL : List Int → List Int → Int
  | [], [] => 0
  | [], _ :: _ => -1
  | _ :: _, [] => 1
  | a :: l, b :: m => if a < b then -1 else if b < a then 1 else cmpL l m
theorem Compare_loop (a b : List Int) (ha : a.length ≤ 9223372036854775807) (hb : b.length ≤ 9223372036854775807) : ∀ (d i : Nat), a.length = i + d → i ≤ b.length → a.take i = b.take i → Ev (fun k => arboristref01_Compare.l0 k a b (i : Int)) (cmpL (a.drop i) (b.drop i)) := by
  intro d
  induction d with
  | zero =>
    intro i h hb2 he
    refine Ev.step (f := fun k => arboristref01_Compare.j1 k a b (i : Int) false) (fun k => ?_) ?_
    · simp only [arboristref01_Compare.l0]; rw [if_neg (by omega)]
    · refine Ev.step (f := fun _ => some (cmpL (a.drop i) (b.drop i))) (fun k => ?_) (Ev.now _)
      simp only [arboristref01_Compare.j1]
      rw [if_neg (by simp), List.drop_eq_nil_of_le (by omega)]
      by_cases hlt : i < b.length
      · rw [if_pos (by omega), drop_at b i hlt]; rfl
      · rw [if_neg (by omega), if_neg (by omega), List.drop_eq_nil_of_le (by omega)]; rfl
  | succ d ih =>
    intro i h hb2 he
    have hi : i < a.length := by omega
    by_cases hlt : i < b.length
    · refine Ev.step (f := fun k => arboristref01_Compare.j1 k a b (i : Int) true) (fun k => ?_) ?_
      · simp only [arboristref01_Compare.l0]; rw [if_pos (by omega), show decide ((i : Int) < (b.length : Int)) = true from decide_eq_true (by omega)]
      · rw [drop_at a i hi, drop_at b i hlt]
        by_cases h1 : rd a (i : Int) < rd b (i : Int)
        · refine Ev.step (f := fun _ => some (-1)) (fun k => ?_) (by simp only [cmpL, if_pos h1]; exact Ev.now _)
          simp only [arboristref01_Compare.j1]
          rw [if_pos trivial, if_pos (by omega), if_pos (by omega), if_pos (by omega), if_pos h1]
        · by_cases h2 : rd b (i : Int) < rd a (i : Int)
          · refine Ev.step (f := fun _ => some 1) (fun k => ?_) (by simp only [cmpL, if_neg h1, if_pos h2]; exact Ev.now _)
            simp only [arboristref01_Compare.j1]
            rw [if_pos trivial, if_pos (by omega), if_pos (by omega), if_pos (by omega), if_neg h1, if_pos h2]
          · refine Ev.step (f := fun k => arboristref01_Compare.l0 k a b ((i + 1 : Nat) : Int)) (fun k => ?_) ?_
            · simp only [arboristref01_Compare.j1]
              rw [if_pos trivial, if_pos (by omega), if_pos (by omega), if_pos (by omega), if_neg h1, if_neg (by omega), wrap_nat i (by omega)]
            · simp only [cmpL, if_neg h1, if_neg h2]
              refine ih (i + 1) (by omega) (by omega) ?_
              have e1 := rd_nat a i _ (List.getElem?_eq_getElem hi)
              have e2 := rd_nat b i _ (List.getElem?_eq_getElem hlt)
              rw [List.take_succ_eq_append_getElem hi, List.take_succ_eq_append_getElem hlt, he]
              have : a[i] = b[i] := by omega
              rw [this]
    · refine Ev.step (f := fun k => arboristref01_Compare.j1 k a b (i : Int) false) (fun k => ?_) ?_
      · simp only [arboristref01_Compare.l0]; rw [if_pos (by omega), show decide ((i : Int) < (b.length : Int)) = false from decide_eq_false (by omega)]
      · refine Ev.step (f := fun _ => some (cmpL (a.drop i) (b.drop i))) (fun k => ?_) (Ev.now _)
        simp only [arboristref01_Compare.j1]
        rw [if_neg (by simp), if_neg (by omega), if_pos (by omega), drop_at a i hi, show b.drop i = [] from List.drop_eq_nil_of_le (by omega)]
        rfl
theorem Compare_ev (a b : List Int) (ha : a.length ≤ 9223372036854775807) (hb : b.length ≤ 9223372036854775807) : Ev (fun k => arboristref01_Compare.f k a b) (cmpL a b) := by
  have := Compare_loop a b ha hb a.length 0 (by omega) (by omega) rfl
  simpa [arboristref01_Compare.f] using this
def uniteL : List Int → List Int → List Int
  | [], r => r
  | a :: l, [] => a :: l
  | a :: l, m :: r => if a < m then a :: uniteL l (m :: r) else m :: uniteL (a :: l) r
termination_by a b => a.length + b.length
theorem uniteL_nil (a : List Int) : uniteL a [] = a := by cases a <;> simp [uniteL]
theorem Unite_loop (a m : List Int) (hl : a.length + m.length < 17592186044416) : ∀ (d i j : Nat) (out : List Int), a.length + m.length = i + j + d → i ≤ a.length → j ≤ m.length → out.length ≤ i + j → Ev (fun k => arboristref01_Unite.l0 k a out m (i : Int) (j : Int)) (out ++ uniteL (a.drop i) (m.drop j)) := by
  intro d
  induction d with
  | zero =>
    intro i j out h hi hj ho
    refine Ev.step (f := fun k => arboristref01_Unite.j1 k a out m (i : Int) (j : Int) false) (fun k => ?_) ?_
    · simp only [arboristref01_Unite.l0]
      rw [if_neg (by omega), show decide ((j : Int) < (m.length : Int)) = false from decide_eq_false (by omega)]
    · refine Ev.step (f := fun _ => some (out ++ uniteL (a.drop i) (m.drop j))) (fun k => ?_) (Ev.now _)
      simp only [arboristref01_Unite.j1]
      rw [if_neg (by simp), show a.drop i = [] from List.drop_eq_nil_of_le (by omega), show m.drop j = [] from List.drop_eq_nil_of_le (by omega)]
      simp [uniteL]
  | succ d ih =>
    intro i j out h hi hj ho
    refine Ev.step (f := fun k => arboristref01_Unite.j1 k a out m (i : Int) (j : Int) true) (fun k => ?_) ?_
    · simp only [arboristref01_Unite.l0]
      by_cases h1 : i < a.length
      · rw [if_pos (by omega)]
      · rw [if_neg (by omega), show decide ((j : Int) < (m.length : Int)) = true from decide_eq_true (by omega)]
    · have hlt : out.length < 17592186044416 := by omega
      have left : i < a.length → (j = m.length ∨ (j < m.length ∧ rd a (i : Int) < rd m (j : Int))) → Ev (fun k => arboristref01_Unite.l0 k a (out ++ [rd a (i : Int)]) m ((i + 1 : Nat) : Int) (j : Int)) (out ++ uniteL (a.drop i) (m.drop j)) := by
        intro h1 h2
        have := ih (i + 1) j (out ++ [rd a (i : Int)]) (by omega) (by omega) hj (by simp; omega)
        rw [drop_at a i h1]
        rcases h2 with h2 | ⟨h2, h3⟩
        · rw [show m.drop j = [] from List.drop_eq_nil_of_le (by omega)] at this ⊢
          simpa [uniteL, uniteL_nil] using this
        · rw [drop_at m j h2] at this ⊢
          rw [uniteL, if_pos h3]
          simpa using this
      have right : j < m.length → (i = a.length ∨ (i < a.length ∧ ¬ rd a (i : Int) < rd m (j : Int))) → Ev (fun k => arboristref01_Unite.l0 k a (out ++ [rd m (j : Int)]) m (i : Int) ((j + 1 : Nat) : Int)) (out ++ uniteL (a.drop i) (m.drop j)) := by
        intro h1 h2
        have := ih i (j + 1) (out ++ [rd m (j : Int)]) (by omega) hi (by omega) (by simp; omega)
        rw [drop_at m j h1]
        rcases h2 with h2 | ⟨h2, h3⟩
        · rw [show a.drop i = [] from List.drop_eq_nil_of_le (by omega)] at this ⊢
          simpa [uniteL] using this
        · rw [drop_at a i h2] at this ⊢
          rw [uniteL, if_neg h3]
          simpa using this
      by_cases h1 : j = m.length
      · refine Ev.step (f := fun k => arboristref01_Unite.l0 k a (out ++ [rd a (i : Int)]) m ((i + 1 : Nat) : Int) (j : Int)) (fun k => ?_) (left (by omega) (.inl h1))
        simp only [arboristref01_Unite.j1]
        rw [if_pos trivial, if_pos (by omega), if_pos (by omega), if_pos (by omega), if_pos hlt, wrap_nat i (by omega)]
      · by_cases h2 : i < a.length
        · by_cases h3 : rd a (i : Int) < rd m (j : Int)
          · refine Ev.step (f := fun k => arboristref01_Unite.l0 k a (out ++ [rd a (i : Int)]) m ((i + 1 : Nat) : Int) (j : Int)) (fun k => ?_) (left h2 (.inr ⟨by omega, h3⟩))
            simp only [arboristref01_Unite.j1]
            rw [if_pos trivial, if_neg (by omega), if_pos (by omega), if_pos (by omega), if_pos (by omega), if_pos (by omega), if_pos h3, if_pos hlt, wrap_nat i (by omega)]
          · refine Ev.step (f := fun k => arboristref01_Unite.l0 k a (out ++ [rd m (j : Int)]) m (i : Int) ((j + 1 : Nat) : Int)) (fun k => ?_) (right (by omega) (.inr ⟨h2, h3⟩))
            simp only [arboristref01_Unite.j1]
            rw [if_pos trivial, if_neg (by omega), if_pos (by omega), if_pos (by omega), if_pos (by omega), if_pos (by omega), if_neg h3, if_pos hlt, wrap_nat j (by omega)]
        · refine Ev.step (f := fun k => arboristref01_Unite.l0 k a (out ++ [rd m (j : Int)]) m (i : Int) ((j + 1 : Nat) : Int)) (fun k => ?_) (right (by omega) (.inl (by omega)))
          simp only [arboristref01_Unite.j1]
          rw [if_pos trivial, if_neg (by omega), if_neg (by omega), if_pos (by omega), if_pos (by omega), if_pos hlt, wrap_nat j (by omega)]
theorem withoutL_len (a b : List Int) : (withoutL a b).length ≤ a.length := List.length_filter_le _ _
theorem Unite_ev (a b : List Int) (h : a.length + b.length < 17592186044416) : Ev (fun k => arboristref01_Unite.f k a b) (uniteL a (withoutL b a)) := by
  refine Ev.congr (f := fun k => (arboristref01_Without.f k b a).bind fun t => arboristref01_Unite.l0 k a ([] : List Int) t 0 0) (fun k => rfl) ?_
  have hw := withoutL_len b a
  refine Ev.bind (f := fun k (t : List Int) => arboristref01_Unite.l0 k a ([] : List Int) t 0 0) (Without_ev b a (by omega) (by omega)) ?_
  have := Unite_loop a (withoutL b a) (by omega) (a.length + (withoutL b a).length) 0 0 [] (by omega) (by omega) (by omega) (by simp)
  simpa using this
theorem cmpL_self : ∀ a : List Int, cmpL a a = 0
  | [] => rfl
  | a :: l => by simp [cmpL, cmpL_self l]
end Go.Proofs.Ytlckejeglchgmaa.Pr
set_option linter.unusedVariables false
set_option linter.unusedSimpArgs false
namespace Go.Proofs.Ytlckejeglchgmaa.Pure
open Go.RowKit Go.Proofs.Ytlckejeglchgmaa.Pr Go.Proofs.YtlckejeglchgmaaW.PrintWords Go.Proofs.YtlckejeglchgmaaW.PrintLast Go.Proofs.YtlckejeglchgmaaW.PrintMore
end Go.Proofs.Ytlckejeglchgmaa.Pure
set_option linter.unusedVariables false
set_option linter.unusedSimpArgs false
namespace Go.Proofs.Ytlckejeglchgmaa.Pure
open Go.RowKit Go.Proofs.Ytlckejeglchgmaa.Pr Go.Proofs.YtlckejeglchgmaaW.PrintWords Go.Proofs.YtlckejeglchgmaaW.PrintLast Go.Proofs.YtlckejeglchgmaaW.PrintMore
theorem low16_7 (x : Int) : 0 ≤ Go.bits .and .i64 x 65535 ∧ Go.bits .and .i64 x 65535 ≤ 65535 := by
  have h2 : (BitVec.ofInt 64 (65535 : Int)).toNat = 65535 := by decide
  have h3 : (BitVec.ofInt 64 x &&& BitVec.ofInt 64 (65535 : Int)).toNat ≤ 65535 := by
    rw [BitVec.toNat_and, h2]; exact Nat.and_le_right
  have e : Go.bits .and .i64 x 65535 = IntKind.i64.wrap ((BitVec.ofInt 64 x &&& BitVec.ofInt 64 (65535 : Int)).toNat : Int) := rfl
  rw [e, IntKind.wrap_i64]
  omega
theorem kT_7 {n : Nat} (h : 0 < n) (x : Int) : ∃ k : Nat, k < n ∧ Int.tmod (Go.bits .and .i64 x 65535) (n : Int) = (k : Int) := by
  obtain ⟨h1, h2⟩ := low16_7 x
  have a := Int.tmod_nonneg (n : Int) h1
  have b := Int.tmod_lt_of_pos (Go.bits .and .i64 x 65535) (show (0 : Int) < (n : Int) by omega)
  exact ⟨(Int.tmod (Go.bits .and .i64 x 65535) (n : Int)).toNat, by omega, by omega⟩
theorem at_L1_7 (B : List (List Int)) (i : Nat) (h : i < B.length) : rd_L1 B (i : Int) = B[i] := by
  unfold rd_L1
  rw [Int.toNat_natCast]
  simp [h]
end Go.Proofs.Ytlckejeglchgmaa.Pure
set_option linter.unusedVariables false
set_option linter.unusedSimpArgs false
namespace Go.Proofs.Ytlckejeglchgmaa.Pr
open Go.RowKit Go.Proofs.YtlckejeglchgmaaW.PrintWords Go.Proofs.YtlckejeglchgmaaW.PrintLast
def Rise (l : List Int) : Prop := l.Pairwise (· < ·)
end Go.Proofs.Ytlckejeglchgmaa.Pr
set_option linter.unusedVariables false
set_option linter.unusedSimpArgs false
namespace Go.Proofs.Ytlckejeglchgmaa.Pr
open Go.RowKit Go.Proofs.YtlckejeglchgmaaW.PrintWords Go.Proofs.YtlckejeglchgmaaW.PrintLast
theorem inB_iff (l : List Int) (v : Int) : inB l v = true ↔ v ∈ l := by simp [inB]
theorem one_spec : ∀ (a : List Int) (v : Int), Rise a → v ∉ a → (∀ x, x ∈ uniteL a [v] ↔ x ∈ a ∨ x = v) ∧ Rise (uniteL a [v])
  | [], v, _, _ => by simp [uniteL, Rise]
  | y :: l, v, h, hn => by
    obtain ⟨h1, h2⟩ := List.pairwise_cons.1 h
    rw [uniteL]
    simp only [List.mem_cons, not_or] at hn
    split
    · rename_i hc
      obtain ⟨i1, i2⟩ := one_spec l v h2 hn.2
      refine ⟨fun x => ?_, List.pairwise_cons.2 ⟨fun x hx => ?_, i2⟩⟩
      · rw [List.mem_cons, i1, List.mem_cons]
        constructor <;> (intro h; grind)
      · rcases (i1 x).1 hx with hx | rfl
        · exact h1 x hx
        · omega
    · rename_i hc
      rw [uniteL_nil]
      refine ⟨fun x => ?_, List.pairwise_cons.2 ⟨fun x hx => ?_, h⟩⟩
      · simp only [List.mem_cons]
        constructor <;> (intro h; grind)
      · rcases List.mem_cons.1 hx with rfl | hx
        · omega
        · have := h1 x hx; omega
theorem add_spec (a : List Int) (v : Int) (h : Rise a) : (∀ x, x ∈ uniteL a (withoutL [v] a) ↔ x ∈ a ∨ x = v) ∧ Rise (uniteL a (withoutL [v] a)) ∧ (uniteL a (withoutL [v] a)).length ≤ a.length + 1 := by
  by_cases hv : v ∈ a
  · have e : withoutL [v] a = [] := by simp [withoutL, inB_iff, (inB_iff a v).2 hv]
    rw [e, uniteL_nil]
    refine ⟨fun x => ⟨.inl, fun hx => ?_⟩, h, by omega⟩
    rcases hx with hx | rfl
    · exact hx
    · exact hv
  · have hb : inB a v = false := by
      cases hc : inB a v
      · rfl
      · exact absurd ((inB_iff a v).1 hc) hv
    have e : withoutL [v] a = [v] := by simp [withoutL, hb]
    rw [e]
    obtain ⟨h1, h2⟩ := one_spec a v h hv
    refine ⟨h1, h2, ?_⟩
    have : ∀ (a : List Int) (v : Int), (uniteL a [v]).length ≤ a.length + 1 := by
      intro a
      induction a with
      | nil => intro v; simp [uniteL]
      | cons y l ih =>
        intro v
        rw [uniteL]
        split
        · simp only [List.length_cons]
          have := ih v
          omega
        · rw [uniteL_nil]; simp
    exact this a v
end Go.Proofs.Ytlckejeglchgmaa.Pr
set_option linter.unusedVariables false
set_option linter.unusedSimpArgs false
namespace Go.Proofs.Ytlckejeglchgmaa.Pure
open Go.RowKit Go.Proofs.Ytlckejeglchgmaa.Pr Go.Proofs.YtlckejeglchgmaaW.PrintWords Go.Proofs.YtlckejeglchgmaaW.PrintLast Go.Proofs.YtlckejeglchgmaaW.PrintMore
def mulL (out : List (List Int)) (d : List Int) : List (List Int) := out.flatMap fun r => d.map fun x => r ++ [x]
def fullL : List (List Int) → List (List Int) → List (List Int)
  | out, [] => out
  | out, d :: ds => fullL (mulL out d) ds
theorem fullL_is : ∀ (ds out : List (List Int)), fullL out ds = out.flatMap fun r => (prodL ds).map fun q => r ++ q
  | [], out => by
    rw [fullL, prodL]
    simp
  | d :: ds, out => by
    rw [fullL, fullL_is ds, prodL, mulL, List.flatMap_assoc]
    congr 1
    funext r
    rw [List.flatMap_map, List.map_flatMap]
    congr 1
    funext x
    rw [List.map_map]
    congr 1
    funext q
    simp
theorem mulL_len (out : List (List Int)) (d : List Int) (n : Nat) (hd : d.length ≤ n) : (mulL out d).length ≤ out.length * n := by
  unfold mulL
  induction out with
  | nil => simp
  | cons r out ih =>
    rw [List.flatMap_cons, List.length_append, List.length_map, List.length_cons, Nat.succ_mul]
    omega
theorem mulL_mem {out : List (List Int)} {d : List Int} {m : Nat} (h : ∀ r ∈ out, r.length ≤ m) : ∀ r ∈ mulL out d, r.length ≤ m + 1 := fun r hr => by
  obtain ⟨q, hq, hr⟩ := List.mem_flatMap.1 hr
  obtain ⟨x, _, rfl⟩ := List.mem_map.1 hr
  have := h q hq
  simp
  omega
theorem rc_7 (l : List Int) (h : l.length < 17592186044416) : arboristref01_Copy.f l = some l := by
  simp only [arboristref01_Copy.f, Option.bind_some]
  rw [if_pos (by simpa using h)]
  rfl
theorem rf_l2 (dom : List (List Int)) (s : List Int) (out : List (List Int)) (i a : Nat) (hout : out.length ≤ 1000) (ha : a < out.length) (hra : out[a].length ≤ 1000) (d : List Int) (hd : d.length ≤ 1000) (R : List (List Int))
    (acc : List (List Int)) (hacc : acc.length ≤ 1000000) (H : Ev (fun k => arboristref07_Full.l1 k dom s out (i : Int) (acc ++ d.map fun x => out[a] ++ [x]) ((a + 1 : Nat) : Int)) R) : ∀ (e j : Nat), j + e = d.length → Ev (fun k => arboristref07_Full.l2 k dom s out (i : Int) (acc ++ (d.take j).map fun x => out[a] ++ [x]) (a : Int) d (j : Int)) R
  | 0, j, h => by
    rw [List.take_of_length_le (by omega)]
    refine evs1 H (fun k q => ?_)
    rw [arboristref07_Full.l2, if_neg (by omega), wrap_n7 a (by omega)]
    exact q
  | e + 1, j, h => by
    have hj : j < d.length := by omega
    have ih := rf_l2 dom s out i a hout ha hra d hd R acc hacc H e (j + 1) (by omega)
    have htk : acc ++ (d.take (j + 1)).map (fun x => out[a] ++ [x]) = (acc ++ (d.take j).map fun x => out[a] ++ [x]) ++ [out[a] ++ [d[j]]] := by
      rw [List.take_succ_eq_append_getElem hj, List.map_append, List.append_assoc]
      rfl
    rw [htk] at ih
    refine evs1 ih (fun k q => ?_)
    rw [arboristref07_Full.l2, if_pos (by omega), if_pos (by omega), if_pos (by omega), at_L1_7 out a ha, rc_7 _ (by omega), Option.bind_some, if_pos (by omega), rd_at d j hj]
    simp only [Option.bind_some]
    rw [if_pos (by simp only [List.length_cons, List.length_nil]; omega), if_pos (by simp only [List.length_append, List.length_map, List.length_take, List.length_cons, List.length_nil]; omega), wrap_n7 j (by omega)]
    exact q
theorem rf_l1 (dom : List (List Int)) (s : List Int) (out : List (List Int)) (hout : out.length ≤ 1000) (hr : ∀ r ∈ out, r.length ≤ 1000) (i : Nat) (hi : i < s.length) (v : Nat) (hv : rd s (i : Int) = (v : Int)) (hvd : v < dom.length) (hd : dom[v].length ≤ 1000) (R : List (List Int))
    (H : Ev (fun k => arboristref07_Full.l0 k dom s (mulL out dom[v]) ((i + 1 : Nat) : Int)) R) (hi2 : i < 1000) : ∀ (e a : Nat), a + e = out.length → Ev (fun k => arboristref07_Full.l1 k dom s out (i : Int) (mulL (out.take a) dom[v]) (a : Int)) R
  | 0, a, h => by
    rw [List.take_of_length_le (by omega)]
    refine evs1 H (fun k q => ?_)
    rw [arboristref07_Full.l1, if_neg (by omega), wrap_n7 i (by omega)]
    exact q
  | e + 1, a, h => by
    have ha : a < out.length := by omega
    have ih := rf_l1 dom s out hout hr i hi v hv hvd hd R H hi2 e (a + 1) (by omega)
    have htk : mulL (out.take (a + 1)) dom[v] = mulL (out.take a) dom[v] ++ dom[v].map fun x => out[a] ++ [x] := by
      unfold mulL
      rw [List.take_succ_eq_append_getElem ha, List.flatMap_append]
      simp
    rw [htk] at ih
    have hml := mulL_len (out.take a) dom[v] 1000 hd
    have hacc : (mulL (out.take a) dom[v]).length ≤ 1000000 := by
      have : (out.take a).length ≤ 1000 := by rw [List.length_take]; omega
      omega
    have h2 := rf_l2 dom s out i a hout ha (hr _ (List.getElem_mem ha)) dom[v] hd R (mulL (out.take a) dom[v]) hacc ih dom[v].length 0 (by omega)
    rw [List.take_zero, List.map_nil, List.append_nil] at h2
    refine evs1 h2 (fun k q => ?_)
    rw [arboristref07_Full.l1, if_pos (by omega), if_pos (by omega), if_pos (by omega), hv, if_pos (by omega), if_pos (by omega), at_L1_7 dom v hvd]
    exact q
theorem rf_l0 (dom : List (List Int)) (hdl : ∀ d ∈ dom, d.length ≤ 5) (s : List Int) (hs4 : s.length ≤ 4) (hok : ∀ v ∈ s, 0 ≤ v ∧ v < (dom.length : Int)) : ∀ (e i : Nat) (out : List (List Int)), i + e = s.length → out.length ≤ 5 ^ i → (∀ r ∈ out, r.length ≤ i) → Ev (fun k => arboristref07_Full.l0 k dom s out (i : Int)) (fullL out (domsL dom (s.drop i)))
  | 0, i, out, h, ho, hr => by
    rw [List.drop_eq_nil_of_le (by omega)]
    exact evs0 (fun k => by rw [arboristref07_Full.l0, if_neg (by omega)]; rfl)
  | e + 1, i, out, h, ho, hr => by
    have hi : i < s.length := by omega
    obtain ⟨h0, h1⟩ := hok _ (List.getElem_mem hi)
    obtain ⟨v, hv⟩ := Int.eq_ofNat_of_zero_le h0
    have hvd : v < dom.length := by omega
    have hd5 := hdl _ (List.getElem_mem hvd)
    have hp : 5 ^ i ≤ 5 ^ 3 := Nat.pow_le_pow_right (by omega) (by omega)
    have hp3 : (5 : Nat) ^ 3 = 125 := by decide
    have hml := mulL_len out dom[v] 5 hd5
    have hrec := rf_l0 dom hdl s hs4 hok e (i + 1) (mulL out dom[v]) (by omega) (by rw [Nat.pow_succ]; exact Nat.le_trans hml (Nat.mul_le_mul_right _ ho)) (mulL_mem hr)
    have hdr : domsL dom (s.drop i) = dom[v] :: domsL dom (s.drop (i + 1)) := by
      rw [List.drop_eq_getElem_cons hi]
      unfold domsL
      rw [List.map_cons, hv, Int.toNat_natCast, List.getD_eq_getElem?_getD, List.getElem?_eq_getElem hvd]
      rfl
    rw [hdr, fullL]
    have hl1 := rf_l1 dom s out (by omega) (fun r hr' => by have := hr r hr'; omega) i hi v (by rw [rd_at s i hi]; exact hv) hvd (by omega) _ hrec (by omega) out.length 0 (by omega)
    have hz : mulL (out.take 0) dom[v] = [] := by simp [mulL]
    rw [hz] at hl1
    refine evs1 hl1 (fun k q => ?_)
    rw [arboristref07_Full.l0, if_pos (by omega)]
    exact q
theorem prodL_len5 : ∀ ds : List (List Int), (∀ d ∈ ds, d.length ≤ 5) → (prodL ds).length ≤ 5 ^ ds.length
  | [], _ => by simp [prodL]
  | d :: ds, h => by
    have ih := prodL_len5 ds (fun x hx => h x (List.mem_cons_of_mem _ hx))
    have hd := h d List.mem_cons_self
    have key : ∀ l : List Int, (l.flatMap fun x => (prodL ds).map (x :: ·)).length = l.length * (prodL ds).length := fun l => by
      induction l with
      | nil => simp
      | cons x l ih2 => rw [List.flatMap_cons, List.length_append, ih2, List.length_map, List.length_cons, Nat.succ_mul]; omega
    rw [prodL, key, List.length_cons, Nat.pow_succ, Nat.mul_comm (5 ^ ds.length)]
    exact Nat.mul_le_mul hd ih
theorem prodL_row : ∀ (ds : List (List Int)), ∀ t ∈ prodL ds, t.length = ds.length
  | [], t, h => by rw [prodL, List.mem_singleton] at h; rw [h]; rfl
  | d :: ds, t, h => by
    rw [prodL] at h
    obtain ⟨x, _, h⟩ := List.mem_flatMap.1 h
    obtain ⟨q, hq, rfl⟩ := List.mem_map.1 h
    rw [List.length_cons, List.length_cons, prodL_row ds q hq]
theorem rfull_ev (dom : List (List Int)) (hdl : ∀ d ∈ dom, d.length ≤ 5) (s : List Int) (hs4 : s.length ≤ 4) (hok : ∀ v ∈ s, 0 ≤ v ∧ v < (dom.length : Int)) : Ev (fun k => arboristref07_Full.f k dom s) (prodL (domsL dom s)) := by
  have h := rf_l0 dom hdl s hs4 hok s.length 0 [[]] (by omega) (by simp) (fun r hr => by rw [List.mem_singleton.1 hr]; simp)
  rw [List.drop_zero, fullL_is] at h
  have e : ([[]] : List (List Int)).flatMap (fun r => (prodL (domsL dom s)).map fun q => r ++ q) = prodL (domsL dom s) := by simp
  rw [e] at h
  refine evu1 h (fun k q => ?_)
  rw [arboristref07_Full.f]
  exact q
theorem same_l0_7 (u v : List Int) (A : List (List Int)) (hA : A.length ≤ 1000000) (h6 : ∀ x ∈ A, x.length ≤ 1000) : ∀ (d i : Nat), i + d = A.length → Ev (fun k => arboristref02_Same.l0 k (i : Int) u A v A) true
  | 0, i, h => evs0 (fun k => by rw [arboristref02_Same.l0, if_neg (by omega)])
  | d + 1, i, h => by
    have hi : i < A.length := by omega
    have b := h6 _ (List.getElem_mem hi)
    have e := Compare_ev A[i] A[i] (by omega) (by omega)
    rw [cmpL_self] at e
    refine evs2 e (same_l0_7 u v A hA h6 d (i + 1) (by omega)) (fun k q1 q2 => ?_)
    rw [arboristref02_Same.l0, if_pos (by omega), if_pos (by omega), if_pos (by omega), at_L1_7 A i hi, q1, Option.bind_some, if_pos rfl, wrap_n7 i (by omega)]
    exact q2
theorem same_7 (s : List Int) (hs : s.length ≤ 1000) (A : List (List Int)) (hA : A.length ≤ 1000000) (h6 : ∀ x ∈ A, x.length ≤ 1000) : Ev (fun k => arboristref02_Same.f k s A s A) true := by
  have e := Compare_ev s s (by omega) (by omega)
  rw [cmpL_self] at e
  have hj : Ev (fun k => arboristref02_Same.j0 k false s A s A) true := evs1 (same_l0_7 s s A hA h6 A.length 0 (by omega)) (fun k q => by
    rw [arboristref02_Same.j0, if_neg (by decide)]
    exact q)
  refine evu2 e hj (fun k q1 q2 => ?_)
  rw [arboristref02_Same.f, if_pos rfl, q1, Option.bind_some]
  exact q2
theorem filter_yes (l : List (List Int)) : l.filter (fun _ => true) = l := by simp
theorem full_f (dom : List (List Int)) (hdl : ∀ d ∈ dom, d.length ≤ 5) (s : List Int) (hs4 : s.length ≤ 4) (hok : ∀ v ∈ s, 0 ≤ v ∧ v < (dom.length : Int)) (most : Int) : built_Full.f dom s most = some (if ((prodL (domsL dom s)).length : Int) ≤ most then (s, prodL (domsL dom s), 0) else ([], [], 9)) := by
  have hdm : ∀ d ∈ domsL dom s, d.length ≤ 5 := fun d hd => by
    unfold domsL at hd
    obtain ⟨v, hv, rfl⟩ := List.mem_map.1 hd
    obtain ⟨h0, h1⟩ := hok v hv
    have : v.toNat < dom.length := by omega
    rw [List.getD_eq_getElem?_getD, List.getElem?_eq_getElem this]
    exact hdl _ (List.getElem_mem this)
  have hl := prodL_len5 (domsL dom s) hdm
  have hln : (domsL dom s).length = s.length := by unfold domsL; rw [List.length_map]
  have hp : 5 ^ (domsL dom s).length ≤ 5 ^ 4 := Nat.pow_le_pow_right (by omega) (by omega)
  have hp4 : (5 : Nat) ^ 4 = 625 := by decide
  unfold built_Full.f rowsF
  rw [if_pos ⟨by omega, fun d hd => by have := hdl d hd; omega, by omega⟩, if_pos hok]
  generalize prodL (domsL dom s) = P at *
  congr 1
  by_cases h0 : 0 ≤ most
  · rcases procL_out (fun _ => true) most P [] (by simpa using h0) with ⟨h1, h2⟩ | ⟨h1, h2⟩
    · rw [List.nil_append, filter_yes] at h1 h2
      rw [h1, if_pos ⟨rfl, h2⟩, if_pos h2]
    · rw [List.nil_append, filter_yes] at h2
      rw [if_neg (fun e => by rw [h1] at e; cases e.1), if_neg (by omega)]
  · rw [if_neg (fun e => by have := e.2; omega), if_neg (show ¬ ((P.length : Int) ≤ most) by omega)]
theorem bf_j4 (dom : List (List Int)) (hdl : ∀ d ∈ dom, d.length ≤ 5) (s : List Int) (hs4 : s.length ≤ 4) (hok : ∀ v ∈ s, 0 ≤ v ∧ v < (dom.length : Int)) (most : Int) : Ev (fun k => arboristlaw07_BuiltFull.j4 k most true dom s) true := by
  have hf := full_f dom hdl s hs4 hok most
  have hdm : (domsL dom s).length = s.length := by unfold domsL; rw [List.length_map]
  have hrow := prodL_row (domsL dom s)
  have hl5 : (prodL (domsL dom s)).length ≤ 1000000 := by
    have hdm5 : ∀ d ∈ domsL dom s, d.length ≤ 5 := fun d hd => by
      unfold domsL at hd
      obtain ⟨v, hv, rfl⟩ := List.mem_map.1 hd
      obtain ⟨h0, h1⟩ := hok v hv
      have : v.toNat < dom.length := by omega
      rw [List.getD_eq_getElem?_getD, List.getElem?_eq_getElem this]
      exact hdl _ (List.getElem_mem this)
    have hl := prodL_len5 (domsL dom s) hdm5
    have hp : 5 ^ (domsL dom s).length ≤ 5 ^ 4 := Nat.pow_le_pow_right (by omega) (by omega)
    have hp4 : (5 : Nat) ^ 4 = 625 := by decide
    omega
  have hsm := same_7 s (by omega) (prodL (domsL dom s)) hl5 (fun x hx => by have := hrow x hx; omega)
  refine evs2 (rfull_ev dom hdl s hs4 hok) hsm (fun k q1 q2 => ?_)
  rw [arboristlaw07_BuiltFull.j4, q1, Option.bind_some, hf, Option.bind_some]
  by_cases c : ((prodL (domsL dom s)).length : Int) ≤ most
  · rw [if_pos c, if_neg (by omega), if_pos rfl, if_pos rfl, q2, Option.bind_some]
  · rw [if_neg c, if_pos (by omega), if_pos rfl, if_pos rfl]
    rfl
theorem bf_l2 (sc : List Int) (most : Int) (dom : List (List Int)) (hdl : ∀ d ∈ dom, d.length ≤ 5) : ∀ (e i : Nat) (s : List Int), i + e = 4 → s.length ≤ i → Rise s → (∀ v ∈ s, 0 ≤ v ∧ v < (dom.length : Int)) → Ev (fun k => arboristlaw07_BuiltFull.l2 k sc most true dom s (i : Int)) true
  | e, i, s, hi, hs, hr, hok => by
    have hj := bf_j4 dom hdl s (by omega) hok most
    by_cases c : i < sc.length
    · by_cases c4 : i < 4
      · by_cases cd : 0 < dom.length
        · obtain ⟨p, hp, hpe⟩ := kT_7 cd (rd sc (i : Int))
          obtain ⟨a1, a2, a3⟩ := add_spec s (p : Int) hr
          match e, hi with
          | 0, hi => omega
          | e + 1, hi =>
            refine evs2 (Unite_ev s [(p : Int)] (by simp; omega)) (bf_l2 sc most dom hdl e (i + 1) (uniteL s (withoutL [(p : Int)] s)) (by omega) (by omega) a2 (fun v hv => by
              rcases (a1 v).1 hv with h | h
              · exact hok v h
              · rw [h]; omega)) (fun k q1 q2 => ?_)
            rw [arboristlaw07_BuiltFull.l2, if_pos (by omega), if_pos (by omega), if_pos (by omega), if_pos (by omega), if_neg (by omega), hpe, q1, Option.bind_some, wrap_n7 i (by omega)]
            exact q2
        · refine evs1 hj (fun k q => ?_)
          rw [arboristlaw07_BuiltFull.l2, if_pos (by omega), if_pos (by omega), if_neg (by omega)]
          exact q
      · refine evs1 hj (fun k q => ?_)
        rw [arboristlaw07_BuiltFull.l2, if_pos (by omega), if_neg (by omega)]
        exact q
    · refine evs1 hj (fun k q => ?_)
      rw [arboristlaw07_BuiltFull.l2, if_neg (by omega)]
      exact q
theorem bf_l1 (x0 : List (List Int)) (sc : List Int) (most : Int) (dom : List (List Int)) (i : Nat) (hi : i < x0.length) (hdom : dom.length ≤ 6) (H : ∀ r : List Int, r.length ≤ 5 → Ev (fun k => arboristlaw07_BuiltFull.l0 k x0 sc most true (dom ++ [r]) ((i + 1 : Nat) : Int)) true) (hi6 : i < 1000) : ∀ (e j : Nat) (r : List Int), j + e = 4 → r.length ≤ j + 1 → Rise r → Ev (fun k => arboristlaw07_BuiltFull.l1 k x0 sc most true dom (i : Int) r (j : Int)) true
  | e, j, r, hj, hr, hri => by
    have h0 := H r (by omega)
    by_cases c : j < x0[i].length
    · match e, hj with
      | 0, hj =>
        refine evs1 h0 (fun k q => ?_)
        rw [arboristlaw07_BuiltFull.l1, if_pos (by omega), if_pos (by omega), at_L1_7 x0 i hi, if_pos (by omega), if_neg (by omega), if_pos (by omega), wrap_n7 i (by omega)]
        exact q
      | e + 1, hj =>
        obtain ⟨a1, a2, a3⟩ := add_spec r (Int.tmod (rd x0[i] (j : Int)) 1000000) hri
        refine evs2 (Unite_ev r [Int.tmod (rd x0[i] (j : Int)) 1000000] (by simp; omega)) (bf_l1 x0 sc most dom i hi hdom H hi6 e (j + 1) _ (by omega) (by omega) a2) (fun k q1 q2 => ?_)
        rw [arboristlaw07_BuiltFull.l1, if_pos (by omega), if_pos (by omega), at_L1_7 x0 i hi, if_pos (by omega), if_pos (by omega), if_pos (by omega), q1, Option.bind_some, wrap_n7 j (by omega)]
        exact q2
    · refine evs1 h0 (fun k q => ?_)
      rw [arboristlaw07_BuiltFull.l1, if_pos (by omega), if_pos (by omega), at_L1_7 x0 i hi, if_neg (by omega), if_pos (by omega), wrap_n7 i (by omega)]
      exact q
theorem bf_l0 (x0 : List (List Int)) (sc : List Int) (most : Int) : ∀ (e i : Nat) (dom : List (List Int)), i + e = 6 → dom.length = i → (∀ d ∈ dom, d.length ≤ 5) → Ev (fun k => arboristlaw07_BuiltFull.l0 k x0 sc most true dom (i : Int)) true
  | e, i, dom, hi, hl, hdl => by
    have hno : Ev (fun k => arboristlaw07_BuiltFull.j1 k x0 sc most true dom (i : Int) false) true := evs1 (bf_l2 sc most dom hdl 4 0 [] (by omega) (by simp) List.Pairwise.nil (fun v hv => by cases hv)) (fun k q => by
      rw [arboristlaw07_BuiltFull.j1, if_neg (by decide)]
      exact q)
    by_cases c : i < x0.length
    · match e, hi with
      | 0, hi =>
        refine evs1 hno (fun k q => ?_)
        rw [arboristlaw07_BuiltFull.l0, if_pos (by omega), decide_eq_false (by omega)]
        exact q
      | e + 1, hi =>
        have h1 := bf_l1 x0 sc most dom i c (by omega) (fun r hr => bf_l0 x0 sc most e (i + 1) (dom ++ [r]) (by omega) (by simp; omega) (fun d hd => by
          rcases List.mem_append.1 hd with hd | hd
          · exact hdl d hd
          · rw [List.mem_singleton.1 hd]; exact hr)) (by omega) 4 0 [0] (by omega) (by simp) (List.pairwise_singleton _ _)
        have hj : Ev (fun k => arboristlaw07_BuiltFull.j1 k x0 sc most true dom (i : Int) true) true := evs1 h1 (fun k q => by
          rw [arboristlaw07_BuiltFull.j1, if_pos rfl]
          exact q)
        refine evs1 hj (fun k q => ?_)
        rw [arboristlaw07_BuiltFull.l0, if_pos (by omega), decide_eq_true (by omega)]
        exact q
    · refine evs1 hno (fun k q => ?_)
      rw [arboristlaw07_BuiltFull.l0, if_neg (by omega)]
      exact q
theorem BuiltFull : arboristlaw07_BuiltFull.Pure := by
  intro x0 sc most _ _ _
  refine (evu1 (bf_l0 x0 sc most 6 0 [] (by omega) rfl (fun d hd => by cases hd)) (fun k q => ?_)).rounds
  unfold arboristlaw07_BuiltFull.f
  rw [shown_7, Option.bind_some]
  exact q
end Go.Proofs.Ytlckejeglchgmaa.Pure
