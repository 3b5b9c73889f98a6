/- BuiltPairs: all are unlike just if each two are; all are the same just if each two are; all rise just if each two do. -/
import Derived.Laws.BitsAllLaws
import Derived.Test.YtlckejeglchgmaaPr1
import Derived.Test.YtlckejeglchgmaaPr19
import Derived.Test.YtlckejeglchgmaaPr25
import Derived.Test.YtlckejeglchgmaaPr37
set_option linter.unusedVariables false
set_option linter.unusedSimpArgs false
set_option linter.unusedSectionVars false
namespace Go.Proofs.Ytlckejeglchgmaa.Pr
open Go.RowKit Go.Proofs.YtlckejeglchgmaaW.PrintWords Go.Proofs.YtlckejeglchgmaaW.PrintLast
theorem evs0 {ρ : Type} {F : Nat → Option ρ} {r : ρ} (H : ∀ k, F (k + 1) = some r) : Ev F r := ⟨1, fun k hk => by obtain ⟨m, rfl⟩ : ∃ m, k = m + 1 := ⟨k - 1, by omega⟩; exact H m⟩
theorem evu1 {ρ : Type} {F : Nat → Option ρ} {r : ρ} {α1 : Type} {g1 : Nat → Option α1} {a1 : α1} (h1 : Ev g1 a1) (H : ∀ k, g1 k = some a1 → F k = some r) : Ev F r := by
  obtain ⟨K1, e1⟩ := h1
  exact ⟨K1, fun k hk => H k (e1 _ (by omega))⟩
theorem evs1 {ρ : Type} {F : Nat → Option ρ} {r : ρ} {α1 : Type} {g1 : Nat → Option α1} {a1 : α1} (h1 : Ev g1 a1) (H : ∀ k, g1 k = some a1 → F (k + 1) = some r) : Ev F r := by
  obtain ⟨K1, e1⟩ := h1
  refine ⟨K1 + 1, fun k hk => ?_⟩
  obtain ⟨m, rfl⟩ : ∃ m, k = m + 1 := ⟨k - 1, by omega⟩
  exact H m (e1 _ (by omega))
end Go.Proofs.Ytlckejeglchgmaa.Pr
set_option linter.unusedVariables false
set_option linter.unusedSimpArgs false
namespace Go.Proofs.Ytlckejeglchgmaa.Pure
open Go.RowKit Go.Proofs.Ytlckejeglchgmaa.Pr Go.Proofs.YtlckejeglchgmaaW.PrintWords Go.Proofs.YtlckejeglchgmaaW.PrintLast Go.Proofs.YtlckejeglchgmaaW.PrintMore
theorem shown_7 : arboristlaw07_shown.f = some true := by decide +kernel
theorem wrap_n7 (i : Nat) (h : i < 9223372036854775807) : wrap64 ((i : Int) + 1) = ((i + 1 : Nat) : Int) := by rw [wrap_succ (by omega) (by omega)]; rfl
theorem rd_at (l : List Int) (i : Nat) (h : i < l.length) : rd l (i : Int) = l[i] := rd_nat l i _ (List.getElem?_eq_getElem h)
theorem risingB_iff : ∀ l : List Int, risingB l = true ↔ l.Pairwise (· < ·)
  | [] => by simp [risingB]
  | [a] => by simp [risingB]
  | a :: b :: l => by
    rw [risingB]
    by_cases c : b ≤ a
    · rw [if_pos c]
      constructor
      · intro h; cases h
      · intro h
        have := (List.pairwise_cons.1 h).1 b List.mem_cons_self
        omega
    · rw [if_neg c, risingB_iff (b :: l)]
      constructor
      · intro h
        refine List.pairwise_cons.2 ⟨fun x hx => ?_, h⟩
        rcases List.mem_cons.1 hx with rfl | hx
        · omega
        · have := (List.pairwise_cons.1 h).1 x hx
          omega
      · exact fun h => (List.pairwise_cons.1 h).2
theorem sorted_lt (l : List Int) : risingB (SortedSeq.sortZ l) = true ↔ l.Nodup := by
  rw [risingB_iff, ← (SortedSeq.sortZ_perm l).nodup_iff]
  constructor
  · exact fun h => h.imp (fun {a b} hab e => by omega)
  · intro h
    have h1 := SortedSeq.sortZ_sorted l
    have h2 : (SortedSeq.sortZ l).Pairwise (fun a b => a ≤ b ∧ a ≠ b) := h1.and h
    exact h2.imp (fun {a b} hab => by have := hab.1; have := hab.2; omega)
theorem holds_f (kind : Int) (scope : List Int) (rows : List (List Int)) (args t : List Int) (h1 : rows.length < 17592186044416) (h2 : t.length < 1000000) : built_Holds.f kind scope rows args t = some (holdsV kind scope rows args t) := by
  unfold built_Holds.f
  rw [if_pos ⟨h1, h2⟩]
end Go.Proofs.Ytlckejeglchgmaa.Pure
set_option linter.unusedVariables false
set_option linter.unusedSimpArgs false
namespace Go.Proofs.Ytlckejeglchgmaa.Pure
open Go.RowKit Go.Proofs.Ytlckejeglchgmaa.Pr Go.Proofs.YtlckejeglchgmaaW.PrintWords Go.Proofs.YtlckejeglchgmaaW.PrintLast Go.Proofs.YtlckejeglchgmaaW.PrintMore
def AllP (R : Int → Int → Prop) (v : List Int) (i k : Nat) : Prop := ∀ a b : Nat, b < a → (a < i ∨ a = i ∧ b < k) → R (rd v (a : Int)) (rd v (b : Int))
theorem allP_step {R : Int → Int → Prop} {v : List Int} {i k : Nat} (hk : k < i) {x y : Bool} (hx : x = true ↔ AllP R v i k) (hy : y = true ↔ R (rd v (i : Int)) (rd v (k : Int))) : (x && y) = true ↔ AllP R v i (k + 1) := by
  rw [Bool.and_eq_true, hx, hy]
  constructor
  · rintro ⟨h1, h2⟩ a b hb h
    rcases h with h | ⟨rfl, h⟩
    · exact h1 a b hb (.inl h)
    · rcases Nat.lt_succ_iff_lt_or_eq.1 h with h | rfl
      · exact h1 a b hb (.inr ⟨rfl, h⟩)
      · exact h2
  · intro h
    exact ⟨fun a b hb h' => h a b hb (by omega), h i k hk (.inr ⟨rfl, by omega⟩)⟩
theorem allP_row {R : Int → Int → Prop} {v : List Int} {i : Nat} {x : Bool} (hx : x = true ↔ AllP R v i i) : x = true ↔ AllP R v (i + 1) 0 := by
  rw [hx]
  constructor
  · exact fun h a b hb h' => h a b hb (by omega)
  · exact fun h a b hb h' => h a b hb (by omega)
theorem allP_start {R : Int → Int → Prop} {v : List Int} : true = true ↔ AllP R v 0 0 := ⟨fun _ a b hb h => by omega, fun _ => rfl⟩
theorem bp_step (k : Nat) (x3 : Bool) (n : Nat) (v s : List Int) (x8 x9 x10 : Bool) (i j : Nat) (hj : j < i) (hi : i < v.length) (hl : v.length ≤ 6) : arboristlaw07_BuiltPairs.l2 (k + 1) x3 (n : Int) v s x8 x9 x10 (i : Int) (j : Int) =
    arboristlaw07_BuiltPairs.l2 k x3 (n : Int) v s (x8 && (rd v (i : Int) != rd v (j : Int))) (x9 && (rd v (i : Int) == rd v (j : Int))) (x10 && decide (rd v (j : Int) < rd v (i : Int))) (i : Int) ((j + 1 : Nat) : Int) := by
  rw [arboristlaw07_BuiltPairs.l2, if_pos (by omega), wrap_n7 j (by omega)]
  have h1 : (0 : Int) ≤ (i : Int) := by omega
  have h2 : (i : Int) < (v.length : Int) := by omega
  have h3 : (0 : Int) ≤ (j : Int) := by omega
  have h4 : (j : Int) < (v.length : Int) := by omega
  cases x8 <;> cases x9 <;> cases x10 <;> simp only [if_true, if_false, Bool.true_and, Bool.false_and, if_pos h1, if_pos h2, if_pos h3, if_pos h4, Bool.false_eq_true]
def PairsOk (v : List Int) (i k : Nat) (x8 x9 x10 : Bool) : Prop := (x8 = true ↔ AllP (fun a b => a ≠ b) v i k) ∧ (x9 = true ↔ AllP (fun a b => a = b) v i k) ∧ (x10 = true ↔ AllP (fun a b => b < a) v i k)
theorem bp_end (n : Nat) (v s : List Int) (hv : v.length = n) (hs : s.length = n) (h1 : 1 ≤ n) (hn : n ≤ 6) (x8 x9 x10 : Bool) (h : PairsOk v n 0 x8 x9 x10) : Ev (fun k => arboristlaw07_BuiltPairs.l1 k true (n : Int) v s x8 x9 x10 (n : Int)) true := by
  have e3 : holdsV 3 s [] [] v = x8 := by
    unfold holdsV
    rw [if_pos (by omega), if_neg (by decide), if_neg (by decide), if_pos rfl]
    rw [Bool.eq_iff_iff, h.1, sorted_lt]
    constructor
    · intro hd a b hb hab e
      have ha : a < v.length := by omega
      rw [rd_at v a ha, rd_at v b (by omega)] at e
      have := (List.getElem_inj hd).1 e
      omega
    · intro hp
      refine List.pairwise_iff_getElem.2 (fun i j hi hj hij e => ?_)
      have := hp j i hij (.inl (by omega))
      rw [rd_at v j hj, rd_at v i hi] at this
      exact this e.symm
  have e4 : holdsV 4 s [] [] v = x9 := by
    unfold holdsV
    rw [if_pos (by omega), if_neg (by decide), if_neg (by decide), if_neg (by decide), if_pos rfl]
    rw [Bool.eq_iff_iff, h.2.1, eqB_any v (by omega)]
    simp only [Bool.not_eq_true', List.any_eq_false, bne_iff_ne, ne_eq, Decidable.not_not]
    constructor
    · intro hp a b hb hab
      have ha : a < v.length := by omega
      rw [rd_at v a ha, rd_at v b (by omega), hp _ (List.getElem_mem ha), hp _ (List.getElem_mem (show b < v.length by omega))]
    · intro hp x hx
      obtain ⟨a, ha, rfl⟩ := List.getElem_of_mem hx
      by_cases c : a = 0
      · subst c; exact (rd_at v 0 ha).symm
      · have := hp a 0 (by omega) (.inl (by omega))
        rw [rd_at v a ha] at this
        exact this
  have e5 : holdsV 5 s [] [] v = x10 := by
    unfold holdsV
    rw [if_pos (by omega), if_neg (by decide), if_neg (by decide), if_neg (by decide), if_neg (by decide), if_pos rfl]
    rw [Bool.eq_iff_iff, h.2.2, risingB_iff, List.pairwise_iff_getElem]
    constructor
    · intro hp a b hb hab
      have ha : a < v.length := by omega
      have hbv : b < v.length := by omega
      have := hp b a hbv ha hb
      rw [← rd_at v a ha, ← rd_at v b hbv] at this
      exact this
    · intro hp i j hi hj hij
      have := hp j i hij (.inl (by omega))
      rw [rd_at v j hj, rd_at v i hi] at this
      exact this
  refine evs0 (fun k => ?_)
  rw [arboristlaw07_BuiltPairs.l1, if_neg (by omega), if_pos rfl, holds_f 3 s [] [] v (by simp) (by omega), Option.bind_some, e3, if_pos (by simp), holds_f 4 s [] [] v (by simp) (by omega), Option.bind_some, e4, if_pos (by simp), holds_f 5 s [] [] v (by simp) (by omega), Option.bind_some, e5]
  simp
theorem bp_l2 (n : Nat) (v s : List Int) (hv : v.length = n) (hn : n ≤ 6) (i : Nat) (hi : i < n) (H : ∀ x8 x9 x10, PairsOk v (i + 1) 0 x8 x9 x10 → Ev (fun k => arboristlaw07_BuiltPairs.l1 k true (n : Int) v s x8 x9 x10 ((i + 1 : Nat) : Int)) true) : ∀ (d j : Nat) (x8 x9 x10 : Bool), j + d = i → PairsOk v i j x8 x9 x10 → Ev (fun k => arboristlaw07_BuiltPairs.l2 k true (n : Int) v s x8 x9 x10 (i : Int) (j : Int)) true
  | 0, j, x8, x9, x10, hj, h => by
    obtain rfl : j = i := by omega
    refine evs1 (H x8 x9 x10 ⟨allP_row h.1, allP_row h.2.1, allP_row h.2.2⟩) (fun k q => ?_)
    rw [arboristlaw07_BuiltPairs.l2, if_neg (by omega), wrap_n7 j (by omega)]
    exact q
  | d + 1, j, x8, x9, x10, hj, h => by
    refine evs1 (bp_l2 n v s hv hn i hi H d (j + 1) _ _ _ (by omega) ⟨allP_step (by omega) h.1 (y := rd v (i : Int) != rd v (j : Int)) (by simp), allP_step (by omega) h.2.1 (y := rd v (i : Int) == rd v (j : Int)) (by simp), allP_step (by omega) h.2.2 (y := decide (rd v (j : Int) < rd v (i : Int))) (by simp)⟩) (fun k q => ?_)
    rw [bp_step k true n v s x8 x9 x10 i j (by omega) (by omega) (by omega)]
    exact q
theorem bp_l1 (n : Nat) (v s : List Int) (hv : v.length = n) (hs : s.length = n) (h1 : 1 ≤ n) (hn : n ≤ 6) : ∀ (d i : Nat) (x8 x9 x10 : Bool), i + d = n → PairsOk v i 0 x8 x9 x10 → Ev (fun k => arboristlaw07_BuiltPairs.l1 k true (n : Int) v s x8 x9 x10 (i : Int)) true
  | 0, i, x8, x9, x10, hi, h => by
    obtain rfl : i = n := by omega
    exact bp_end i v s hv hs h1 hn x8 x9 x10 h
  | d + 1, i, x8, x9, x10, hi, h => by
    refine evs1 (bp_l2 n v s hv hn i (by omega) (fun y8 y9 y10 h' => bp_l1 n v s hv hs h1 hn d (i + 1) y8 y9 y10 (by omega) h') i 0 x8 x9 x10 (by omega) h) (fun k q => ?_)
    rw [arboristlaw07_BuiltPairs.l1, if_pos (by omega)]
    exact q
theorem bp_l0 (l : List Int) (n : Nat) (h1 : 1 ≤ n) (hn : n ≤ 6) (hl : n ≤ l.length) : ∀ (d i : Nat) (v s : List Int), i + d = n → v.length = i → s.length = i → Ev (fun k => arboristlaw07_BuiltPairs.l0 k l true (n : Int) v s (i : Int)) true
  | 0, i, v, s, hi, hv, hs => by
    obtain rfl : i = n := by omega
    refine evs1 (bp_l1 i v s hv hs h1 hn i 0 true true true (by omega) ⟨allP_start, allP_start, allP_start⟩) (fun k q => ?_)
    rw [arboristlaw07_BuiltPairs.l0, if_neg (by omega)]
    exact q
  | d + 1, i, v, s, hi, hv, hs => by
    refine evs1 (bp_l0 l n h1 hn hl d (i + 1) (v ++ [Int.tmod (rd l (i : Int)) 1000000]) (s ++ [(i : Int)]) (by omega) (by simp; omega) (by simp; omega)) (fun k q => ?_)
    rw [arboristlaw07_BuiltPairs.l0, if_pos (by omega), if_pos (by omega), if_pos (by omega), if_pos (by omega), if_pos (by omega), wrap_n7 i (by omega)]
    exact q
theorem BuiltPairs : arboristlaw07_BuiltPairs.Pure := by
  intro l _ _ _
  have hmn : mn (l.length : Int) 6 = ((min l.length 6 : Nat) : Int) := by unfold mn; split <;> omega
  by_cases c : min l.length 6 = 0
  · refine ⟨0, ?_⟩
    unfold arboristlaw07_BuiltPairs.f
    rw [shown_7, Option.bind_some, hmn, if_pos (by omega)]
  · refine (evu1 (bp_l0 l (min l.length 6) (by omega) (by omega) (by omega) (min l.length 6) 0 [] [] (by omega) rfl rfl) (fun k q => ?_)).rounds
    unfold arboristlaw07_BuiltPairs.f
    rw [shown_7, Option.bind_some, hmn, if_neg (by omega)]
    exact q
end Go.Proofs.Ytlckejeglchgmaa.Pure
