/- BuiltRows: a table of rows, over domains that have them, is just these; what is forbidden is the rest. -/
import Derived.Laws.BitsAllLaws
import Derived.Test.YtlckejeglchgmaaPr0
import Derived.Test.YtlckejeglchgmaaPr1
import Derived.Test.YtlckejeglchgmaaPr19
import Derived.Test.YtlckejeglchgmaaPr25
import Derived.Test.YtlckejeglchgmaaPr27
import Derived.Test.YtlckejeglchgmaaPr29
import Derived.Test.YtlckejeglchgmaaPr3
import Derived.Test.YtlckejeglchgmaaPr32
import Derived.Test.YtlckejeglchgmaaPr33
import Derived.Test.YtlckejeglchgmaaPr34
import Derived.Test.YtlckejeglchgmaaPr38
import Derived.Test.YtlckejeglchgmaaPr39
import Derived.Test.YtlckejeglchgmaaPr5
set_option linter.unusedVariables false
set_option linter.unusedSimpArgs false
set_option linter.unusedSectionVars false
namespace Go.Proofs.Ytlckejeglchgmaa.Pr
open Go.RowKit Go.Proofs.YtlckejeglchgmaaW.PrintWords Go.Proofs.YtlckejeglchgmaaW.PrintLast
theorem evs0 {ρ : Type} {F : Nat → Option ρ} {r : ρ} (H : ∀ k, F (k + 1) = some r) : Ev F r := ⟨1, fun k hk => by obtain ⟨m, rfl⟩ : ∃ m, k = m + 1 := ⟨k - 1, by omega⟩; exact H m⟩
theorem evu1 {ρ : Type} {F : Nat → Option ρ} {r : ρ} {α1 : Type} {g1 : Nat → Option α1} {a1 : α1} (h1 : Ev g1 a1) (H : ∀ k, g1 k = some a1 → F k = some r) : Ev F r := by
  obtain ⟨K1, e1⟩ := h1
  exact ⟨K1, fun k hk => H k (e1 _ (by omega))⟩
theorem evs1 {ρ : Type} {F : Nat → Option ρ} {r : ρ} {α1 : Type} {g1 : Nat → Option α1} {a1 : α1} (h1 : Ev g1 a1) (H : ∀ k, g1 k = some a1 → F (k + 1) = some r) : Ev F r := by
  obtain ⟨K1, e1⟩ := h1
  refine ⟨K1 + 1, fun k hk => ?_⟩
  obtain ⟨m, rfl⟩ : ∃ m, k = m + 1 := ⟨k - 1, by omega⟩
  exact H m (e1 _ (by omega))
theorem evs2 {ρ : Type} {F : Nat → Option ρ} {r : ρ} {α1 : Type} {g1 : Nat → Option α1} {a1 : α1} {α2 : Type} {g2 : Nat → Option α2} {a2 : α2} (h1 : Ev g1 a1) (h2 : Ev g2 a2) (H : ∀ k, g1 k = some a1 → g2 k = some a2 → F (k + 1) = some r) : Ev F r := by
  obtain ⟨K1, e1⟩ := h1; obtain ⟨K2, e2⟩ := h2
  refine ⟨K1 + K2 + 1, fun k hk => ?_⟩
  obtain ⟨m, rfl⟩ : ∃ m, k = m + 1 := ⟨k - 1, by omega⟩
  exact H m (e1 _ (by omega)) (e2 _ (by omega))
theorem evs3 {ρ : Type} {F : Nat → Option ρ} {r : ρ} {α1 : Type} {g1 : Nat → Option α1} {a1 : α1} {α2 : Type} {g2 : Nat → Option α2} {a2 : α2} {α3 : Type} {g3 : Nat → Option α3} {a3 : α3} (h1 : Ev g1 a1) (h2 : Ev g2 a2) (h3 : Ev g3 a3) (H : ∀ k, g1 k = some a1 → g2 k = some a2 → g3 k = some a3 → F (k + 1) = some r) : Ev F r := by
  obtain ⟨K1, e1⟩ := h1; obtain ⟨K2, e2⟩ := h2; obtain ⟨K3, e3⟩ := h3
  refine ⟨K1 + K2 + K3 + 1, fun k hk => ?_⟩
  obtain ⟨m, rfl⟩ : ∃ m, k = m + 1 := ⟨k - 1, by omega⟩
  exact H m (e1 _ (by omega)) (e2 _ (by omega)) (e3 _ (by omega))
end Go.Proofs.Ytlckejeglchgmaa.Pr
set_option linter.unusedVariables false
set_option linter.unusedSimpArgs false
namespace Go.Proofs.Ytlckejeglchgmaa.Pure
open Go.RowKit Go.Proofs.Ytlckejeglchgmaa.Pr Go.Proofs.YtlckejeglchgmaaW.PrintWords Go.Proofs.YtlckejeglchgmaaW.PrintLast Go.Proofs.YtlckejeglchgmaaW.PrintMore
theorem shown_7 : arboristlaw07_shown.f = some true := by decide +kernel
theorem wrap_n7 (i : Nat) (h : i < 9223372036854775807) : wrap64 ((i : Int) + 1) = ((i + 1 : Nat) : Int) := by rw [wrap_succ (by omega) (by omega)]; rfl
end Go.Proofs.Ytlckejeglchgmaa.Pure
set_option linter.unusedVariables false
set_option linter.unusedSimpArgs false
namespace Go.Proofs.Ytlckejeglchgmaa.Pr
open Go.RowKit Go.Proofs.YtlckejeglchgmaaW.PrintWords Go.Proofs.YtlckejeglchgmaaW.PrintLast
theorem cmpT_self : ∀ a : List Int, cmpT a a = 0
  | [] => rfl
  | x :: l => by rw [cmpT, if_neg (by omega), if_neg (by omega)]; exact cmpT_self l
theorem cmpT_swap : ∀ a b : List Int, cmpT b a = - cmpT a b
  | [], [] => rfl
  | [], _ :: _ => rfl
  | _ :: _, [] => rfl
  | x :: l, y :: m => by
    rw [cmpT, cmpT]
    by_cases h1 : x < y
    · rw [if_neg (by omega), if_pos h1, if_pos h1]; rfl
    · by_cases h2 : y < x
      · rw [if_pos h2, if_neg h1, if_pos h2]
      · rw [if_neg h2, if_neg h1, if_neg h1, if_neg h2]; exact cmpT_swap l m
theorem cmpT_eq : ∀ a b : List Int, cmpT a b = 0 → a = b
  | [], [], _ => rfl
  | [], _ :: _, h => by simp [cmpT] at h
  | _ :: _, [], h => by simp [cmpT] at h
  | x :: l, y :: m, h => by
    rw [cmpT] at h
    by_cases h1 : x < y
    · rw [if_pos h1] at h; omega
    · by_cases h2 : y < x
      · rw [if_neg h1, if_pos h2] at h; omega
      · rw [if_neg h1, if_neg h2] at h
        rw [cmpT_eq l m h, show x = y by omega]
theorem cmpT_trans : ∀ a b c : List Int, cmpT a b ≤ 0 → cmpT b c ≤ 0 → cmpT a c ≤ 0
  | [], _, [], _, _ => by simp [cmpT]
  | [], _, _ :: _, _, _ => by simp [cmpT]
  | _ :: _, [], _, h, _ => by simp [cmpT] at h
  | _ :: _, _ :: _, [], _, h => by simp [cmpT] at h
  | x :: l, y :: m, z :: n, h1, h2 => by
    rw [cmpT] at h1 h2 ⊢
    by_cases a1 : x < y
    · by_cases b1 : y < z
      · rw [if_pos (by omega)]; omega
      · by_cases b2 : z < y
        · rw [if_neg b1, if_pos b2] at h2; omega
        · rw [if_pos (by omega)]; omega
    · by_cases a2 : y < x
      · rw [if_neg a1, if_pos a2] at h1; omega
      · rw [if_neg a1, if_neg a2] at h1
        by_cases b1 : y < z
        · rw [if_pos (by omega)]; omega
        · by_cases b2 : z < y
          · rw [if_neg b1, if_pos b2] at h2; omega
          · rw [if_neg b1, if_neg b2] at h2
            rw [if_neg (by omega), if_neg (by omega)]
            exact cmpT_trans l m n h1 h2
theorem drop_at (l : List Int) (i : Nat) (h : i < l.length) : l.drop i = rd l (i : Int) :: l.drop (i + 1) := by
  rw [List.drop_eq_getElem_cons h, rd_nat l i _ (List.getElem?_eq_getElem h)]
theorem wrap_nat (i : Nat) (h : i < 9223372036854775807) : wrap64 ((i : Int) + 1) = ((i + 1 : Nat) : Int) := by rw [wrap_succ (by omega) (by omega)]; rfl
def cmpL : List Int → List Int → Int
  | [], [] => 0
  | [], _ :: _ => -1
  | _ :: _, [] => 1
  | a :: l, b :: m => if a < b then -1 else if b < a then 1 else cmpL l m
theorem Compare_loop (a b : List Int) (ha : a.length ≤ 9223372036854775807) (hb : b.length ≤ 9223372036854775807) : ∀ (d i : Nat), a.length = i + d → i ≤ b.length → a.take i = b.take i → Ev (fun k => arboristref01_Compare.l0 k a b (i : Int)) (cmpL (a.drop i) (b.drop i)) := by
  intro d
  induction d with
  | zero =>
    intro i h hb2 he
    refine Ev.step (f := fun k => arboristref01_Compare.j1 k a b (i : Int) false) (fun k => ?_) ?_
    · simp only [arboristref01_Compare.l0]; rw [if_neg (by omega)]
    · refine Ev.step (f := fun _ => some (cmpL (a.drop i) (b.drop i))) (fun k => ?_) (Ev.now _)
      simp only [arboristref01_Compare.j1]
      rw [if_neg (by simp), List.drop_eq_nil_of_le (by omega)]
      by_cases hlt : i < b.length
      · rw [if_pos (by omega), drop_at b i hlt]; rfl
      · rw [if_neg (by omega), if_neg (by omega), List.drop_eq_nil_of_le (by omega)]; rfl
  | succ d ih =>
    intro i h hb2 he
    have hi : i < a.length := by omega
    by_cases hlt : i < b.length
    · refine Ev.step (f := fun k => arboristref01_Compare.j1 k a b (i : Int) true) (fun k => ?_) ?_
      · simp only [arboristref01_Compare.l0]; rw [if_pos (by omega), show decide ((i : Int) < (b.length : Int)) = true from decide_eq_true (by omega)]
      · rw [drop_at a i hi, drop_at b i hlt]
        by_cases h1 : rd a (i : Int) < rd b (i : Int)
        · refine Ev.step (f := fun _ => some (-1)) (fun k => ?_) (by simp only [cmpL, if_pos h1]; exact Ev.now _)
          simp only [arboristref01_Compare.j1]
          rw [if_pos trivial, if_pos (by omega), if_pos (by omega), if_pos (by omega), if_pos h1]
        · by_cases h2 : rd b (i : Int) < rd a (i : Int)
          · refine Ev.step (f := fun _ => some 1) (fun k => ?_) (by simp only [cmpL, if_neg h1, if_pos h2]; exact Ev.now _)
            simp only [arboristref01_Compare.j1]
            rw [if_pos trivial, if_pos (by omega), if_pos (by omega), if_pos (by omega), if_neg h1, if_pos h2]
          · refine Ev.step (f := fun k => arboristref01_Compare.l0 k a b ((i + 1 : Nat) : Int)) (fun k => ?_) ?_
            · simp only [arboristref01_Compare.j1]
              rw [if_pos trivial, if_pos (by omega), if_pos (by omega), if_pos (by omega), if_neg h1, if_neg (by omega), wrap_nat i (by omega)]
            · simp only [cmpL, if_neg h1, if_neg h2]
              refine ih (i + 1) (by omega) (by omega) ?_
              have e1 := rd_nat a i _ (List.getElem?_eq_getElem hi)
              have e2 := rd_nat b i _ (List.getElem?_eq_getElem hlt)
              rw [List.take_succ_eq_append_getElem hi, List.take_succ_eq_append_getElem hlt, he]
              have : a[i] = b[i] := by omega
              rw [this]
    · refine Ev.step (f := fun k => arboristref01_Compare.j1 k a b (i : Int) false) (fun k => ?_) ?_
      · simp only [arboristref01_Compare.l0]; rw [if_pos (by omega), show decide ((i : Int) < (b.length : Int)) = false from decide_eq_false (by omega)]
      · refine Ev.step (f := fun _ => some (cmpL (a.drop i) (b.drop i))) (fun k => ?_) (Ev.now _)
        simp only [arboristref01_Compare.j1]
        rw [if_neg (by simp), if_neg (by omega), if_pos (by omega), drop_at a i hi, show b.drop i = [] from List.drop_eq_nil_of_le (by omega)]
        rfl
theorem Compare_ev (a b : List Int) (ha : a.length ≤ 9223372036854775807) (hb : b.length ≤ 9223372036854775807) : Ev (fun k => arboristref01_Compare.f k a b) (cmpL a b) := by
  have := Compare_loop a b ha hb a.length 0 (by omega) (by omega) rfl
  simpa [arboristref01_Compare.f] using this
theorem cmpL_T : ∀ a b : List Int, cmpL a b = cmpT a b
  | [], [] => rfl
  | [], _ :: _ => rfl
  | _ :: _, [] => rfl
  | x :: l, y :: m => by rw [cmpL, cmpT, cmpL_T l m]
theorem rcmp (a b : List Int) (ha : a.length ≤ 9223372036854775807) (hb : b.length ≤ 9223372036854775807) : Ev (fun k => arboristref01_Compare.f k a b) (cmpT a b) := by
  rw [← cmpL_T]
  exact Compare_ev a b ha hb
def Asc (l : List (List Int)) : Prop := l.Pairwise (fun a b => cmpT a b < 0)
theorem cmpT_lt (a b c : List Int) (h1 : cmpT a b < 0) (h2 : cmpT b c ≤ 0) : cmpT a c < 0 := by
  have h3 := cmpT_trans a b c (by omega) h2
  by_cases e : cmpT a c = 0
  · have := cmpT_eq a c e
    subst this
    have := cmpT_swap a b
    omega
  · omega
theorem asc_ext : ∀ (a b : List (List Int)), Asc a → Asc b → (∀ x, x ∈ a ↔ x ∈ b) → a = b
  | [], [], _, _, _ => rfl
  | [], y :: m, _, _, h => absurd ((h y).2 (by simp)) (by simp)
  | x :: l, [], _, _, h => absurd ((h x).1 (by simp)) (by simp)
  | x :: l, y :: m, ha, hb, h => by
    obtain ⟨a1, a2⟩ := List.pairwise_cons.1 ha
    obtain ⟨b1, b2⟩ := List.pairwise_cons.1 hb
    have e : x = y := by
      rcases List.mem_cons.1 ((h x).1 (by simp)) with h1 | h1
      · exact h1
      · rcases List.mem_cons.1 ((h y).2 (by simp)) with h2 | h2
        · exact h2.symm
        · have q1 := a1 y h2
          have q2 := b1 x h1
          have := cmpT_swap x y
          omega
    subst e
    congr 1
    refine asc_ext l m a2 b2 (fun z => ?_)
    have hz := h z
    simp only [List.mem_cons] at hz
    constructor
    · intro hl
      have q := a1 z hl
      rcases hz.1 (.inr hl) with h | h
      · subst h; rw [cmpT_self] at q; omega
      · exact h
    · intro hm
      have q := b1 z hm
      rcases hz.2 (.inr hm) with h | h
      · subst h; rw [cmpT_self] at q; omega
      · exact h
def cntT : List (List Int) → List Int → Nat
  | [], _ => 0
  | x :: l, t => if cmpT x t < 0 then cntT l t + 1 else 0
theorem cnt_at : ∀ (l : List (List Int)) (t : List Int), Asc l → cntT l t ≤ l.length ∧ ∀ (m : Nat) (h : m < l.length), cmpT l[m] t < 0 ↔ m < cntT l t
  | [], t, _ => ⟨by simp [cntT], fun m h => absurd h (by simp)⟩
  | x :: l, t, ha => by
    obtain ⟨a1, a2⟩ := List.pairwise_cons.1 ha
    obtain ⟨i1, i2⟩ := cnt_at l t a2
    rw [cntT]
    by_cases c : cmpT x t < 0
    · rw [if_pos c]
      refine ⟨by simp only [List.length_cons]; omega, fun m h => ?_⟩
      cases m with
      | zero => simpa using c
      | succ m =>
        have := i2 m (by simpa using h)
        rw [List.getElem_cons_succ, this]
        omega
    · rw [if_neg c]
      refine ⟨by omega, fun m h => ⟨fun q => ?_, fun q => by omega⟩⟩
      exfalso
      cases m with
      | zero => exact c (by simpa using q)
      | succ m =>
        rw [List.getElem_cons_succ] at q
        have hm : m < l.length := by simpa using h
        exact c (cmpT_lt x l[m] t (a1 _ (List.getElem_mem hm)) (by omega))
theorem bsL_cnt (l : List (List Int)) (t : List Int) (ha : Asc l) : ∀ (f i j : Nat), i ≤ cntT l t → cntT l t ≤ j → j ≤ l.length → j - i ≤ f → bsL l t f i j = cntT l t
  | 0, i, j, h1, h2, h3, h4 => by rw [bsL]; omega
  | f + 1, i, j, h1, h2, h3, h4 => by
    rw [bsL]
    by_cases c : i < j
    · rw [if_pos c]
      have hm : (i + j) / 2 < l.length := by omega
      have e : l.getD ((i + j) / 2) [] = l[(i + j) / 2] := by rw [List.getD_eq_getElem?_getD, List.getElem?_eq_getElem hm]; rfl
      have q := (cnt_at l t ha).2 ((i + j) / 2) hm
      rw [e]
      by_cases c2 : cmpT l[(i + j) / 2] t < 0
      · rw [if_pos c2]
        have := q.1 c2
        exact bsL_cnt l t ha f _ j (by omega) h2 h3 (by omega)
      · rw [if_neg c2]
        have : ¬ (i + j) / 2 < cntT l t := fun h => c2 (q.2 h)
        exact bsL_cnt l t ha f i _ h1 (by omega) (by omega) (by omega)
    · rw [if_neg c]; omega
theorem bsI_cnt (l : List (List Int)) (t : List Int) (ha : Asc l) : bsI l t = cntT l t := bsL_cnt l t ha _ _ _ (Nat.zero_le _) (cnt_at l t ha).1 (Nat.le_refl _) (by omega)
def isT (l : List (List Int)) (t : List Int) : Bool := decide (cntT l t < l.length) && (cmpT (l.getD (cntT l t) []) t == 0)
theorem bsF_is (l : List (List Int)) (t : List Int) (ha : Asc l) : bsF l t = isT l t := by unfold bsF isT; rw [bsI_cnt l t ha]
theorem cnt_self (l : List (List Int)) (ha : Asc l) (i : Nat) (h : i < l.length) : cntT l l[i] = i := by
  obtain ⟨c1, c2⟩ := cnt_at l l[i] ha
  have q1 := c2 i h
  rw [cmpT_self] at q1
  have q2 : ¬ i < cntT l l[i] := fun h => by have := q1.2 h; omega
  by_cases e : cntT l l[i] < i
  · have q3 : cmpT l[cntT l l[i]] l[i] < 0 := (List.pairwise_iff_getElem.1 ha) _ _ (by omega) h e
    have := (c2 _ (by omega)).1 q3
    omega
  · omega
theorem is_self (l : List (List Int)) (ha : Asc l) (t : List Int) (h : t ∈ l) : isT l t = true := by
  obtain ⟨i, hi, rfl⟩ := List.getElem_of_mem h
  unfold isT
  rw [cnt_self l ha i hi, List.getD_eq_getElem?_getD, List.getElem?_eq_getElem hi]
  simp [hi, cmpT_self]
theorem atL1 (B : List (List Int)) (i : Nat) (h : i < B.length) : rd_L1 B (i : Int) = B[i] := by
  unfold rd_L1
  rw [List.getD_eq_getElem?_getD, Int.toNat_natCast, List.getElem?_eq_getElem h]
  rfl
end Go.Proofs.Ytlckejeglchgmaa.Pr
set_option linter.unusedVariables false
set_option linter.unusedSimpArgs false
namespace Go.Proofs.Ytlckejeglchgmaa.Pure
open Go.RowKit Go.Proofs.Ytlckejeglchgmaa.Pr Go.Proofs.YtlckejeglchgmaaW.PrintWords Go.Proofs.YtlckejeglchgmaaW.PrintLast Go.Proofs.YtlckejeglchgmaaW.PrintMore
theorem rcopy (l : List Int) (h : l.length < 17592186044416) : arboristref01_Copy.f l = some l := by
  simp only [arboristref01_Copy.f, Option.bind_some]
  rw [if_pos (by simpa using h)]
  rfl
theorem ins_spec (l : List (List Int)) (t : List Int) (ha : Asc l) (hn : t ∉ l) : Asc (l.take (cntT l t) ++ [t] ++ l.drop (cntT l t)) ∧ ∀ x, x ∈ l.take (cntT l t) ++ [t] ++ l.drop (cntT l t) ↔ x ∈ l ∨ x = t := by
  obtain ⟨c1, c2⟩ := cnt_at l t ha
  have hd : ∀ x ∈ l.drop (cntT l t), cmpT t x < 0 := fun x hx => by
    obtain ⟨m, hm, rfl⟩ := List.getElem_of_mem hx
    rw [List.getElem_drop]
    have hm2 : cntT l t + m < l.length := by have := hm; rw [List.length_drop] at this; omega
    have q := (c2 (cntT l t + m) hm2)
    have q2 : ¬ cmpT l[cntT l t + m] t < 0 := fun h => by have := q.1 h; omega
    have q3 := cmpT_swap l[cntT l t + m] t
    by_cases e : cmpT l[cntT l t + m] t = 0
    · have := cmpT_eq _ _ e
      exact absurd (this ▸ List.getElem_mem hm2) hn
    · omega
  have ht : ∀ x ∈ l.take (cntT l t), cmpT x t < 0 := fun x hx => by
    obtain ⟨m, hm, rfl⟩ := List.getElem_of_mem hx
    rw [List.getElem_take]
    have hm1 : m < cntT l t := by have := hm; rw [List.length_take] at this; omega
    exact (c2 m (by omega)).2 hm1
  refine ⟨?_, fun x => ?_⟩
  · unfold Asc
    rw [List.append_assoc, List.pairwise_append]
    refine ⟨List.Pairwise.sublist (List.take_sublist _ _) ha, ?_, fun x hx y hy => ?_⟩
    · rw [List.singleton_append, List.pairwise_cons]
      exact ⟨hd, List.Pairwise.sublist (List.drop_sublist _ _) ha⟩
    · rw [List.singleton_append, List.mem_cons] at hy
      rcases hy with rfl | hy
      · exact ht x hx
      · exact cmpT_lt x t y (ht x hx) (by have := hd y hy; omega)
  · have e : x ∈ l ↔ x ∈ l.take (cntT l t) ∨ x ∈ l.drop (cntT l t) := by rw [← List.mem_append, List.take_append_drop]
    rw [e, List.mem_append, List.mem_append, List.mem_singleton]
    constructor
    · rintro ((h | h) | h)
      · exact .inl (.inl h)
      · exact .inr h
      · exact .inl (.inr h)
    · rintro ((h | h) | h)
      · exact .inl (.inl h)
      · exact .inr h
      · exact .inl (.inr h)
theorem rsort_l1 (x0 out : List (List Int)) (i : Nat) (hi : i < x0.length) (h0 : ∀ x ∈ x0, x.length ≤ 6) (ho : ∀ x ∈ out, x.length ≤ 6) (hol : out.length ≤ 60) (ha : Asc out) (R : List (List Int))
    (H : Ev (fun k => arboristref01_Sort.j2 k x0 out (i : Int) ((cntT out x0[i] : Nat) : Int)) R) : ∀ (d j : Nat), j + d = cntT out x0[i] → Ev (fun k => arboristref01_Sort.l1 k x0 out (i : Int) (j : Int)) R
  | 0, j, h => by
    obtain rfl : j = cntT out x0[i] := by omega
    by_cases c : cntT out x0[i] < out.length
    · have q : ¬ cmpT out[cntT out x0[i]] x0[i] < 0 := fun q => by have := ((cnt_at out x0[i] ha).2 _ c).1 q; omega
      have b1 := ho _ (List.getElem_mem c)
      have b2 := h0 _ (List.getElem_mem hi)
      refine evs2 (rcmp out[cntT out x0[i]] x0[i] (by omega) (by omega)) H (fun k e1 e2 => ?_)
      rw [arboristref01_Sort.l1, if_pos (by omega), if_pos (by omega), if_pos (by omega), if_pos (by omega), atL1 out _ c, atL1 x0 i hi, e1, Option.bind_some, if_neg q]
      exact e2
    · refine evs1 H (fun k e => ?_)
      rw [arboristref01_Sort.l1, if_neg (by omega)]
      exact e
  | d + 1, j, h => by
    have c1 := (cnt_at out x0[i] ha).1
    have c : j < out.length := by omega
    have q : cmpT out[j] x0[i] < 0 := ((cnt_at out x0[i] ha).2 _ c).2 (by omega)
    have b1 := ho _ (List.getElem_mem c)
    have b2 := h0 _ (List.getElem_mem hi)
    refine evs2 (rcmp out[j] x0[i] (by omega) (by omega)) (rsort_l1 x0 out i hi h0 ho hol ha R H d (j + 1) (by omega)) (fun k e1 e2 => ?_)
    rw [arboristref01_Sort.l1, if_pos (by omega), if_pos (by omega), if_pos (by omega), if_pos (by omega), atL1 out _ c, atL1 x0 i hi, e1, Option.bind_some, if_pos q, wrap_nat j (by omega)]
    exact e2
theorem rsort_l0 (x0 : List (List Int)) (hn : x0.length ≤ 60) (h0 : ∀ x ∈ x0, x.length ≤ 6) (S : List (List Int)) (hS : Asc S ∧ ∀ x, x ∈ S ↔ x ∈ x0) : ∀ (d i : Nat) (out : List (List Int)), i + d = x0.length → Asc out → (∀ x, x ∈ out ↔ x ∈ x0.take i) → out.length ≤ i → Ev (fun k => arboristref01_Sort.l0 k x0 out (i : Int)) S
  | 0, i, out, h, ha, hm, hl => by
    have e : out = S := asc_ext _ _ ha hS.1 (fun x => by rw [hm, hS.2, List.take_of_length_le (by omega)])
    rw [← e]
    exact evs0 (fun k => by rw [arboristref01_Sort.l0, if_neg (by omega)])
  | d + 1, i, out, h, ha, hm, hl => by
    have hi : i < x0.length := by omega
    have b2 := h0 _ (List.getElem_mem hi)
    have ho : ∀ x ∈ out, x.length ≤ 6 := fun x hx => h0 x (List.mem_of_mem_take ((hm x).1 hx))
    have hmt : ∀ x, x ∈ x0.take (i + 1) ↔ x ∈ x0.take i ∨ x = x0[i] := fun x => by rw [List.take_succ_eq_append_getElem hi, List.mem_append, List.mem_singleton]
    obtain ⟨c1, c2⟩ := cnt_at out x0[i] ha
    have H : Ev (fun k => arboristref01_Sort.j2 k x0 out (i : Int) ((cntT out x0[i] : Nat) : Int)) S := by
      have tk : ((cntT out x0[i] : Nat) : Int).toNat = cntT out x0[i] := by omega
      by_cases c0 : x0[i] ∈ out
      · have hs := is_self out ha x0[i] c0
        unfold isT at hs
        rw [Bool.and_eq_true] at hs
        obtain ⟨s1, s2⟩ := hs
        have c : cntT out x0[i] < out.length := of_decide_eq_true s1
        rw [List.getD_eq_getElem?_getD, List.getElem?_eq_getElem c] at s2
        have s3 : cmpT out[cntT out x0[i]] x0[i] = 0 := by simpa using s2
        have b1 := ho _ (List.getElem_mem c)
        refine evs2 (rcmp out[cntT out x0[i]] x0[i] (by omega) (by omega)) (rsort_l0 x0 hn h0 S hS d (i + 1) out (by omega) ha (fun x => ?_) (by omega)) (fun k e1 e2 => ?_)
        · rw [hmt, ← hm]
          constructor
          · exact .inl
          · rintro (h | rfl)
            · exact h
            · exact c0
        · rw [arboristref01_Sort.j2, if_pos (by omega), if_pos (by omega), if_pos (by omega), if_pos (by omega), atL1 out _ c, atL1 x0 i hi, e1, Option.bind_some, if_pos s3, wrap_nat i (by omega)]
          exact e2
      · obtain ⟨n1, n2⟩ := ins_spec out x0[i] ha c0
        have l1 : (out.take (cntT out x0[i])).length ≤ 60 := by simp; omega
        have l2 : (out.drop (cntT out x0[i])).length ≤ 60 := by simp; omega
        have l3 : (out.take (cntT out x0[i]) ++ [x0[i]] ++ out.drop (cntT out x0[i])).length ≤ i + 1 := by simp; omega
        have hrec := rsort_l0 x0 hn h0 S hS d (i + 1) (out.take (cntT out x0[i]) ++ [x0[i]] ++ out.drop (cntT out x0[i])) (by omega) n1 (fun x => by rw [n2, hmt, hm]) l3
        by_cases c : cntT out x0[i] < out.length
        · have s3 : ¬ cmpT out[cntT out x0[i]] x0[i] = 0 := fun e => c0 (cmpT_eq _ _ e ▸ List.getElem_mem c)
          have b1 := ho _ (List.getElem_mem c)
          refine evs2 (rcmp out[cntT out x0[i]] x0[i] (by omega) (by omega)) hrec (fun k e1 e2 => ?_)
          rw [arboristref01_Sort.j2, if_pos (by omega), if_pos (by omega), if_pos (by omega), if_pos (by omega), atL1 out _ c, atL1 x0 i hi, e1, Option.bind_some, if_neg s3]
          simp only [Option.bind_some, List.nil_append, tk]
          rw [if_pos (by omega), if_pos (by simp only [List.length_nil]; omega), rcopy _ (by omega)]
          simp only [Option.bind_some]
          rw [if_pos (by omega), if_pos (by rw [List.length_append]; simp only [List.length_cons, List.length_nil]; omega), wrap_nat i (by omega)]
          exact e2
        · refine evs1 hrec (fun k e2 => ?_)
          rw [arboristref01_Sort.j2, if_neg (by omega)]
          simp only [Option.bind_some, List.nil_append, tk]
          rw [if_pos (by omega), if_pos (by omega), if_pos (by simp only [List.length_nil]; omega), if_pos (by omega), if_pos (by omega), atL1 x0 i hi, rcopy _ (by omega)]
          simp only [Option.bind_some]
          rw [if_pos (by omega), if_pos (by rw [List.length_append]; simp only [List.length_cons, List.length_nil]; omega), wrap_nat i (by omega)]
          exact e2
    refine evs1 (rsort_l1 x0 out i hi h0 ho (by omega) ha _ H (cntT out x0[i]) 0 (by omega)) (fun k e => ?_)
    rw [arboristref01_Sort.l0, if_pos (by omega)]
    exact e
theorem rfind_l0 (l : List (List Int)) (t : List Int) (ha : Asc l) (hl : l.length ≤ 1000) (h6 : ∀ x ∈ l, x.length ≤ 6) (ht : t.length ≤ 6) : ∀ (d j : Nat), j + d = cntT l t → Ev (fun k => arboristref01_Find.l0 k l t (j : Int)) ((cntT l t : Int), isT l t)
  | 0, j, h => by
    obtain rfl : j = cntT l t := by omega
    by_cases c : cntT l t < l.length
    · have q : ¬ cmpT l[cntT l t] t < 0 := fun q => by have := ((cnt_at l t ha).2 _ c).1 q; omega
      have b1 := h6 _ (List.getElem_mem c)
      refine evs1 (rcmp l[cntT l t] t (by omega) (by omega)) (fun k e1 => ?_)
      rw [arboristref01_Find.l0, if_pos (by omega), if_pos (by omega), atL1 l _ c, e1, Option.bind_some, if_neg q, Option.bind_some]
      unfold isT
      rw [decide_eq_true c, List.getD_eq_getElem?_getD, List.getElem?_eq_getElem c]
      rfl
    · refine evs0 (fun k => ?_)
      rw [arboristref01_Find.l0, if_neg (by omega)]
      unfold isT
      rw [decide_eq_false c]
      rfl
  | d + 1, j, h => by
    have c1 := (cnt_at l t ha).1
    have c : j < l.length := by omega
    have q : cmpT l[j] t < 0 := ((cnt_at l t ha).2 _ c).2 (by omega)
    have b1 := h6 _ (List.getElem_mem c)
    refine evs2 (rcmp l[j] t (by omega) (by omega)) (rfind_l0 l t ha hl h6 ht d (j + 1) (by omega)) (fun k e1 e2 => ?_)
    rw [arboristref01_Find.l0, if_pos (by omega), if_pos (by omega), atL1 l _ c, e1, Option.bind_some, if_pos q, wrap_nat j (by omega)]
    exact e2
theorem sorted_ex : ∀ x0 : List (List Int), ∃ S, Asc S ∧ (∀ x, x ∈ S ↔ x ∈ x0) ∧ S.length ≤ x0.length
  | [] => ⟨[], List.Pairwise.nil, fun x => Iff.rfl, Nat.le_refl _⟩
  | t :: l => by
    obtain ⟨S, h1, h2, h3⟩ := sorted_ex l
    by_cases c : t ∈ S
    · refine ⟨S, h1, fun x => ?_, by rw [List.length_cons]; omega⟩
      rw [h2, List.mem_cons]
      constructor
      · exact .inr
      · rintro (rfl | h)
        · exact (h2 x).1 c
        · exact h
    · obtain ⟨n1, n2⟩ := ins_spec S t h1 c
      refine ⟨_, n1, fun x => ?_, ?_⟩
      · rw [n2, h2, List.mem_cons]
        exact Or.comm
      · simp only [List.length_append, List.length_take, List.length_drop, List.length_cons, List.length_nil]
        have := (cnt_at S t h1).1
        omega
theorem sort_ev (x0 : List (List Int)) (hn : x0.length ≤ 60) (h0 : ∀ x ∈ x0, x.length ≤ 6) : ∃ S, Asc S ∧ (∀ x, x ∈ S ↔ x ∈ x0) ∧ S.length ≤ x0.length ∧ Ev (fun k => arboristref01_Sort.f k x0) S := by
  obtain ⟨S, h1, h2, h3⟩ := sorted_ex x0
  refine ⟨S, h1, h2, h3, evu1 (rsort_l0 x0 hn h0 S ⟨h1, h2⟩ x0.length 0 [] (by omega) List.Pairwise.nil (fun x => by simp) (Nat.zero_le _)) (fun k e => ?_)⟩
  rw [arboristref01_Sort.f]
  exact e
theorem find_ev (l : List (List Int)) (t : List Int) (ha : Asc l) (hl : l.length ≤ 1000) (h6 : ∀ x ∈ l, x.length ≤ 6) (ht : t.length ≤ 6) : Ev (fun k => arboristref01_Find.f k l t) ((cntT l t : Int), isT l t) :=
  evu1 (rfind_l0 l t ha hl h6 ht (cntT l t) 0 (by omega)) (fun k e => by rw [arboristref01_Find.f]; exact e)
theorem isT_iff (l : List (List Int)) (ha : Asc l) (t : List Int) : isT l t = true ↔ t ∈ l := by
  constructor
  · intro h
    unfold isT at h
    rw [Bool.and_eq_true] at h
    have c := of_decide_eq_true h.1
    have h2 := h.2
    rw [List.getD_eq_getElem?_getD, List.getElem?_eq_getElem c] at h2
    have := cmpT_eq _ _ (by simpa using h2 : cmpT l[cntT l t] t = 0)
    exact this ▸ List.getElem_mem c
  · exact is_self l ha t
end Go.Proofs.Ytlckejeglchgmaa.Pure
set_option linter.unusedVariables false
set_option linter.unusedSimpArgs false
namespace Go.Proofs.Ytlckejeglchgmaa.Pure
open Go.RowKit Go.Proofs.Ytlckejeglchgmaa.Pr Go.Proofs.YtlckejeglchgmaaW.PrintWords Go.Proofs.YtlckejeglchgmaaW.PrintLast Go.Proofs.YtlckejeglchgmaaW.PrintMore
theorem low3_7 (x : Int) : 0 ≤ Go.bits .and .i64 x 7 ∧ Go.bits .and .i64 x 7 ≤ 7 := by
  have h2 : (BitVec.ofInt 64 (7 : Int)).toNat = 7 := by decide
  have h3 : (BitVec.ofInt 64 x &&& BitVec.ofInt 64 (7 : Int)).toNat ≤ 7 := by
    rw [BitVec.toNat_and, h2]; exact Nat.and_le_right
  have e : Go.bits .and .i64 x 7 = IntKind.i64.wrap ((BitVec.ofInt 64 x &&& BitVec.ofInt 64 (7 : Int)).toNat : Int) := rfl
  rw [e, IntKind.wrap_i64]
  omega
theorem round_l0 (l : List Int) (n : Nat) (hn : n ≤ 1000) : ∀ (d i : Nat) (out : List Int), i + d = n → out.length = n → ∃ r : List Int, r.length = n ∧ Ev (fun k => arboristlaw07_round.l0 k l (n : Int) out (i : Int)) r
  | 0, i, out, hi, ho => ⟨out, ho, evs0 (fun k => by rw [arboristlaw07_round.l0, if_neg (by omega)])⟩
  | d + 1, i, out, hi, ho => by
    by_cases c : i < l.length
    · obtain ⟨r, h1, h2⟩ := round_l0 l n hn d (i + 1) (out.set i (Go.bits .and .i64 (rd l (i : Int)) 15)) (by omega) (by rw [List.length_set]; exact ho)
      refine ⟨r, h1, evs1 h2 (fun k e => ?_)⟩
      rw [arboristlaw07_round.l0, if_pos (by omega), if_pos (by omega), if_pos (by omega), if_pos (by omega), Int.toNat_natCast, wrap_n7 i (by omega)]
      exact e
    · exact ⟨out, ho, evs0 (fun k => by rw [arboristlaw07_round.l0, if_pos (by omega), if_neg (by omega)])⟩
theorem round_ev (l : List Int) (n : Nat) (hn : n ≤ 1000) : ∃ r : List Int, r.length = n ∧ Ev (fun k => arboristlaw07_round.f k l (n : Int)) r := by
  obtain ⟨r, h1, h2⟩ := round_l0 l n hn n 0 (List.replicate n 0) (by omega) (by simp)
  refine ⟨r, h1, evu1 h2 (fun k e => ?_)⟩
  rw [arboristlaw07_round.f, if_pos (by omega), if_pos (by rw [Int.toNat_natCast]; omega), Int.toNat_natCast]
  exact e
theorem at_L1_7 (B : List (List Int)) (i : Nat) (h : i < B.length) : rd_L1 B (i : Int) = B[i] := by
  unfold rd_L1
  rw [Int.toNat_natCast]
  simp [h]
def e8 : List Int := [0, 1, 2, 3, 4, 5, 6, 7]
def P8 : List (List Int) := prodL [e8, e8]
theorem P8_asc : Asc P8 := by
  have h : (P8.Pairwise fun a b => cmpT a b < 0) := by decide +kernel
  exact h
theorem P8_len : P8.length = 64 := by decide +kernel
theorem mem_e8 {x : Int} (h0 : 0 ≤ x) (h7 : x ≤ 7) : x ∈ e8 := by
  unfold e8
  simp only [List.mem_cons, List.not_mem_nil, or_false]
  omega
theorem mem_P8 {x y : Int} (h0 : 0 ≤ x) (h7 : x ≤ 7) (g0 : 0 ≤ y) (g7 : y ≤ 7) : [x, y] ∈ P8 := by
  unfold P8 prodL
  refine List.mem_flatMap.2 ⟨x, mem_e8 h0 h7, List.mem_map.2 ⟨[y], ?_, rfl⟩⟩
  unfold prodL
  exact List.mem_flatMap.2 ⟨y, mem_e8 g0 g7, List.mem_map.2 ⟨[], by unfold prodL; exact List.mem_cons_self, rfl⟩⟩
theorem P8_two : ∀ t ∈ P8, t.length = 2 := by decide +kernel
theorem P8_sz (t : List Int) (h : t ∈ P8) : t.length = ([0, 1] : List Int).length := P8_two t h
theorem table_f (kind : Int) (S : List (List Int)) (hS : S.length ≤ 1000) : built_Table.f [e8, e8] kind [0, 1] S [] 64 = some ([0, 1], P8.filter (holdsV kind [0, 1] S []), 0) := by
  unfold built_Table.f rowsF
  rw [if_pos ⟨by omega, by decide⟩, if_pos (by decide +kernel), if_pos (by decide)]
  have hd : prodL (domsL [e8, e8] [0, 1]) = P8 := rfl
  rw [hd]
  have hl : (P8.filter (holdsV kind [0, 1] S [])).length ≤ 64 := by rw [← P8_len]; exact List.length_filter_le _ _
  rcases procL_out (holdsV kind [0, 1] S []) 64 P8 [] (by decide) with ⟨h1, h2⟩ | ⟨h1, h2⟩
  · rw [h1, List.nil_append]
    rw [if_pos ⟨rfl, (show ((P8.filter (holdsV kind [0, 1] S [])).length : Int) ≤ 64 by omega)⟩]
  · rw [List.nil_append] at h2
    omega
theorem br_l1 (S A B : List (List Int)) (hA : A = S) (hS : S.length ≤ 20) (hB : B.length ≤ 64) (ha : Asc B) (h2 : ∀ x ∈ S, x.length ≤ 6) (h2B : ∀ x ∈ B, x.length ≤ 6) (hno : ∀ x ∈ S, x ∉ B) (u v : List Int) : ∀ (d i : Nat), i + d = S.length → Ev (fun k => arboristlaw07_BuiltRows.l1 k true S (i : Int) u A v B) true
  | 0, i, hi => evs0 (fun k => by rw [arboristlaw07_BuiltRows.l1, if_neg (by omega)])
  | d + 1, i, hi => by
    subst hA
    have hil : i < A.length := by omega
    have hm := List.getElem_mem hil
    have h6 := h2 _ hm
    have e1 := find_ev B A[i] ha (by omega) h2B h6
    have e2 := rcmp A[i] A[i] (by omega) (by omega)
    rw [cmpT_self] at e2
    have e3 : isT B A[i] = false := by
      cases h : isT B A[i]
      · rfl
      · exact absurd ((isT_iff B ha _).1 h) (hno _ hm)
    refine evs3 e1 e2 (br_l1 A A B rfl hS hB ha h2 h2B hno u v d (i + 1) (by omega)) (fun k q1 q2 q3 => ?_)
    rw [arboristlaw07_BuiltRows.l1, if_pos (by omega), if_pos (by omega), at_L1_7 A i hil, q1, Option.bind_some, if_pos (by omega), q2, Option.bind_some, if_pos rfl, e3, if_neg (fun h => Bool.noConfusion h), wrap_n7 i (by omega)]
    exact q3
theorem countP_not (p : List Int → Bool) : ∀ l : List (List Int), (l.filter p).length + (l.filter fun x => !p x).length = l.length
  | [] => rfl
  | x :: l => by
    have := countP_not p l
    rw [List.filter_cons, List.filter_cons]
    cases p x <;> simp <;> omega
theorem br_j1 (L : List (List Int)) (hL : L.length ≤ 20) (h2 : ∀ x ∈ L, x ∈ P8) : Ev (fun k => arboristlaw07_BuiltRows.j1 k true [e8, e8] L) true := by
  obtain ⟨S, h1, h3, h4, h5⟩ := sort_ev L (by omega) (fun x hx => by have := P8_two x (h2 x hx); omega)
  have hSP : ∀ x ∈ S, x ∈ P8 := fun x hx => h2 x ((h3 x).1 hx)
  have e1 : P8.filter (holdsV 1 [0, 1] S []) = S := by
    refine asc_ext _ _ (P8_asc.sublist List.filter_sublist) h1 (fun x => ?_)
    rw [List.mem_filter]
    constructor
    · rintro ⟨hx, hh⟩
      unfold holdsV at hh
      rw [if_pos (P8_sz x hx), if_pos rfl, bsF_is S x h1] at hh
      exact (isT_iff S h1 x).1 hh
    · intro hx
      refine ⟨hSP x hx, ?_⟩
      unfold holdsV
      rw [if_pos (P8_sz x (hSP x hx)), if_pos rfl, bsF_is S x h1]
      exact (isT_iff S h1 x).2 hx
  have e2 : P8.filter (holdsV 2 [0, 1] S []) = P8.filter fun x => !holdsV 1 [0, 1] S [] x := by
    refine List.filter_congr (fun x hx => ?_)
    unfold holdsV
    rw [if_pos (P8_sz x hx), if_neg (by decide), if_pos rfl, if_pos (P8_sz x hx), if_pos rfl]
  have hc := countP_not (holdsV 1 [0, 1] S []) P8
  rw [e1, P8_len] at hc
  have hB6 : ∀ x ∈ P8.filter (holdsV 2 [0, 1] S []), x.length ≤ 6 := fun x hx => by have := P8_two x (List.mem_filter.1 hx).1; omega
  have hno : ∀ x ∈ S, x ∉ P8.filter (holdsV 2 [0, 1] S []) := fun x hx hb => by
    rw [e2] at hb
    have h8 := (List.mem_filter.1 hb).2
    have h9 : holdsV 1 [0, 1] S [] x = true := by rw [← e1] at hx; exact (List.mem_filter.1 hx).2
    rw [h9] at h8
    cases h8
  have hl := br_l1 S S (P8.filter (holdsV 2 [0, 1] S [])) rfl (by omega) (by rw [e2]; omega) (P8_asc.sublist List.filter_sublist) (fun x hx => by have := P8_two x (hSP x hx); omega) hB6 hno [0, 1] [0, 1] S.length 0 (by omega)
  have hj : Ev (fun k => arboristlaw07_BuiltRows.j2 k true S false [0, 1] S [0, 1] (P8.filter (holdsV 2 [0, 1] S []))) true := evs1 hl (fun k q => by
    rw [arboristlaw07_BuiltRows.j2, if_neg (by decide)]
    exact q)
  refine evs2 h5 hj (fun k q1 q2 => ?_)
  have hw : wrap64 ((S.length : Int) + ((P8.filter (holdsV 2 [0, 1] S [])).length : Int)) = 64 := by rw [e2, wrap_id (by omega) (by omega)]; omega
  rw [arboristlaw07_BuiltRows.j1, q1, Option.bind_some, table_f 1 S (by omega), Option.bind_some, table_f 2 S (by omega), Option.bind_some]
  simp only [if_true]
  rw [e1, if_pos rfl, hw]
  exact q2
theorem br_l0 (rows : List (List Int)) : ∀ (d i : Nat) (L : List (List Int)), i + d = 20 → L.length = i → (∀ x ∈ L, x ∈ P8) → Ev (fun k => arboristlaw07_BuiltRows.l0 k rows true [e8, e8] L (i : Int)) true
  | 0, i, L, hi, hl, h6 => by
    refine evs1 (br_j1 L (by omega) h6) (fun k q => ?_)
    rw [arboristlaw07_BuiltRows.l0]
    by_cases c : (i : Int) < (rows.length : Int)
    · rw [if_pos c, if_neg (by omega)]; exact q
    · rw [if_neg c]; exact q
  | d + 1, i, L, hi, hl, h6 => by
    by_cases c : i < rows.length
    · obtain ⟨r, hr, hre⟩ := round_ev rows[i] 2 (by omega)
      obtain ⟨a1, a2⟩ := low3_7 (rd r 0)
      obtain ⟨b1, b2⟩ := low3_7 (rd r 1)
      refine evs2 hre (br_l0 rows d (i + 1) (L ++ [[Go.bits .and .i64 (rd r 0) 7, Go.bits .and .i64 (rd r 1) 7]]) (by omega) (by simp; omega) (fun x hx => by
        rcases List.mem_append.1 hx with hx | hx
        · exact h6 x hx
        · rw [List.mem_singleton.1 hx]; exact mem_P8 a1 a2 b1 b2)) (fun k q1 q2 => ?_)
      have q1' : arboristlaw07_round.f k rows[i] 2 = some r := q1
      rw [arboristlaw07_BuiltRows.l0, if_pos (by omega), if_pos (by omega), if_pos (by omega), at_L1_7 rows i c, q1', Option.bind_some, if_pos (by omega), if_pos (by omega), if_pos (by omega), wrap_n7 i (by omega)]
      exact q2
    · refine evs1 (br_j1 L (by omega) h6) (fun k q => ?_)
      rw [arboristlaw07_BuiltRows.l0, if_neg (by omega)]
      exact q
theorem BuiltRows : arboristlaw07_BuiltRows.Pure := by
  intro rows _
  refine (evu1 (br_l0 rows 20 0 [] (by omega) rfl (fun x hx => by cases hx)) (fun k q => ?_)).rounds
  unfold arboristlaw07_BuiltRows.f
  rw [shown_7, Option.bind_some]
  exact q
end Go.Proofs.Ytlckejeglchgmaa.Pure
