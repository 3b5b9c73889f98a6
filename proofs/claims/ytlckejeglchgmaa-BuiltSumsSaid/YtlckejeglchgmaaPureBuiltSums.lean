/- BuiltSums: a sum is at most a number just if it is it, or another one that is less; one of the three ways of Linear is not another one. -/
import Derived.Laws.BitsAllLaws
import Derived.Test.YtlckejeglchgmaaPr1
import Derived.Test.YtlckejeglchgmaaPr19
import Derived.Test.YtlckejeglchgmaaPr25
import Derived.Test.YtlckejeglchgmaaPr36
set_option linter.unusedVariables false
set_option linter.unusedSimpArgs false
set_option linter.unusedSectionVars false
namespace Go.Proofs.Ytlckejeglchgmaa.Pr
open Go.RowKit Go.Proofs.YtlckejeglchgmaaW.PrintWords Go.Proofs.YtlckejeglchgmaaW.PrintLast
theorem evs0 {ρ : Type} {F : Nat → Option ρ} {r : ρ} (H : ∀ k, F (k + 1) = some r) : Ev F r := ⟨1, fun k hk => by obtain ⟨m, rfl⟩ : ∃ m, k = m + 1 := ⟨k - 1, by omega⟩; exact H m⟩
theorem evu1 {ρ : Type} {F : Nat → Option ρ} {r : ρ} {α1 : Type} {g1 : Nat → Option α1} {a1 : α1} (h1 : Ev g1 a1) (H : ∀ k, g1 k = some a1 → F k = some r) : Ev F r := by
  obtain ⟨K1, e1⟩ := h1
  exact ⟨K1, fun k hk => H k (e1 _ (by omega))⟩
theorem evs1 {ρ : Type} {F : Nat → Option ρ} {r : ρ} {α1 : Type} {g1 : Nat → Option α1} {a1 : α1} (h1 : Ev g1 a1) (H : ∀ k, g1 k = some a1 → F (k + 1) = some r) : Ev F r := by
  obtain ⟨K1, e1⟩ := h1
  refine ⟨K1 + 1, fun k hk => ?_⟩
  obtain ⟨m, rfl⟩ : ∃ m, k = m + 1 := ⟨k - 1, by omega⟩
  exact H m (e1 _ (by omega))
end Go.Proofs.Ytlckejeglchgmaa.Pr
set_option linter.unusedVariables false
set_option linter.unusedSimpArgs false
namespace Go.Proofs.Ytlckejeglchgmaa.Pure
open Go.RowKit Go.Proofs.Ytlckejeglchgmaa.Pr Go.Proofs.YtlckejeglchgmaaW.PrintWords Go.Proofs.YtlckejeglchgmaaW.PrintLast Go.Proofs.YtlckejeglchgmaaW.PrintMore
theorem shown_7 : arboristlaw07_shown.f = some true := by decide +kernel
theorem wrap_n7 (i : Nat) (h : i < 9223372036854775807) : wrap64 ((i : Int) + 1) = ((i + 1 : Nat) : Int) := by rw [wrap_succ (by omega) (by omega)]; rfl
theorem holds_f (kind : Int) (scope : List Int) (rows : List (List Int)) (args t : List Int) (h1 : rows.length < 17592186044416) (h2 : t.length < 1000000) : built_Holds.f kind scope rows args t = some (holdsV kind scope rows args t) := by
  unfold built_Holds.f
  rw [if_pos ⟨h1, h2⟩]
end Go.Proofs.Ytlckejeglchgmaa.Pure
set_option linter.unusedVariables false
set_option linter.unusedSimpArgs false
namespace Go.Proofs.Ytlckejeglchgmaa.Pure
open Go.RowKit Go.Proofs.Ytlckejeglchgmaa.Pr Go.Proofs.YtlckejeglchgmaaW.PrintWords Go.Proofs.YtlckejeglchgmaaW.PrintLast Go.Proofs.YtlckejeglchgmaaW.PrintMore
theorem sumZ_end : ∀ (a t m : List Int) (s : Int), a.length = t.length → sumZ (a ++ m) t s = sumZ a t s
  | [], [], m, s, _ => by cases m <;> rfl
  | [], _ :: _, _, _, h => by cases h
  | _ :: _, [], _, _, h => by cases h
  | x :: a, y :: t, m, s, h => by
    rw [List.cons_append, sumZ, sumZ]
    exact sumZ_end a t m _ (Nat.succ.inj h)
theorem sumZ_one : ∀ (a t : List Int) (x y s : Int), a.length = t.length → sumZ (a ++ [x]) (t ++ [y]) s = wrap64 (sumZ a t s + wrap64 (x * y))
  | [], [], x, y, s, _ => rfl
  | [], _ :: _, _, _, _, h => by cases h
  | _ :: _, [], _, _, _, h => by cases h
  | p :: a, q :: t, x, y, s, h => by
    rw [List.cons_append, List.cons_append, sumZ, sumZ]
    exact sumZ_one a t x y _ (Nat.succ.inj h)
theorem lin_is (args t : List Int) (h : args.length = t.length) (how n : Int) : linB (args ++ [how, n]) t = (if how = 0 then sumZ args t 0 == n else if how = 1 then decide (sumZ args t 0 ≤ n) else if how = 2 then sumZ args t 0 != n else false) := by
  unfold linB
  have e1 : rd (args ++ [how, n]) (t.length : Int) = how := rd_nat _ t.length _ (by rw [← h]; simp)
  have e2 : rd (args ++ [how, n]) ((t.length : Int) + 1) = n := rd_nat _ (t.length + 1) _ (by rw [← h, List.getElem?_append_right (by omega)]; simp)
  rw [if_pos (by rw [List.length_append, h]; rfl), e1, e2, sumZ_end args t _ 0 h]
theorem holds6 (s args t : List Int) (hs : t.length = s.length) (h : args.length = t.length) (how n : Int) : holdsV 6 s [] (args ++ [how, n]) t = (if how = 0 then sumZ args t 0 == n else if how = 1 then decide (sumZ args t 0 ≤ n) else if how = 2 then sumZ args t 0 != n else false) := by
  unfold holdsV
  rw [if_pos hs, if_neg (by decide), if_neg (by decide), if_neg (by decide), if_neg (by decide), if_neg (by decide), if_pos rfl]
  exact lin_is args t h how n
theorem bs_l0 (a b : List Int) (x2 : Int) (n : Nat) (hn : n ≤ 6) (ha : n ≤ a.length) (hb : n ≤ b.length) : ∀ (d i : Nat) (s t args : List Int), i + d = n → s.length = i → t.length = i → args.length = i → Ev (fun k => arboristlaw07_BuiltSums.l0 k a b x2 true (n : Int) s t args (sumZ args t 0) (i : Int)) true
  | 0, i, s, t, args, hi, hs, ht, hg => by
    refine evs0 (fun k => ?_)
    have e0 := holds6 s args t (by omega) (by omega) 0 x2
    have e1 := holds6 s args t (by omega) (by omega) 1 x2
    have e2 := holds6 s args t (by omega) (by omega) 2 x2
    rw [if_pos rfl] at e0
    rw [if_neg (by decide), if_pos rfl] at e1
    rw [if_neg (by decide), if_neg (by decide), if_pos rfl] at e2
    rw [arboristlaw07_BuiltSums.l0, if_neg (by omega)]
    simp only [Option.bind_some, List.nil_append, List.length_nil, Nat.zero_add]
    rw [if_pos (by omega), if_pos (by simp; omega), holds_f 6 s [] (args ++ [0, x2]) t (by simp) (by omega), e0, Option.bind_some, holds_f 6 s [] (args ++ [1, x2]) t (by simp) (by omega), e1, holds_f 6 s [] (args ++ [2, x2]) t (by simp) (by omega), e2]
    rw [if_pos (by omega), if_pos (by simp; omega), Option.bind_some, if_pos (by omega), if_pos (by simp; omega), Option.bind_some]
    simp only [if_true, beq_self_eq_true, bne]
  | d + 1, i, s, t, args, hi, hs, ht, hg => by
    have hsum : ∀ x : Int, wrap64 (sumZ args t 0 + wrap64 (Int.tmod (rd a (i : Int)) 1000 * x)) = sumZ (args ++ [x]) (t ++ [Int.tmod (rd a (i : Int)) 1000]) 0 := fun x => by
      rw [sumZ_one args t x _ 0 (by omega), Int.mul_comm x]
    by_cases c : Int.tmod (rd b (i : Int)) 1000 = 0
    · refine evs1 (bs_l0 a b x2 n hn ha hb d (i + 1) (s ++ [(i : Int)]) (t ++ [Int.tmod (rd a (i : Int)) 1000]) (args ++ [1]) (by omega) (by simp; omega) (by simp; omega) (by simp; omega)) (fun k q => ?_)
      rw [arboristlaw07_BuiltSums.l0, if_pos (by omega)]
      simp only [Option.bind_some]
      rw [if_pos (by omega), if_pos (by omega), if_pos (by omega), if_pos (by omega), if_pos (by omega), if_pos c, if_pos (by omega), hsum 1, wrap_n7 i (by omega)]
      exact q
    · refine evs1 (bs_l0 a b x2 n hn ha hb d (i + 1) (s ++ [(i : Int)]) (t ++ [Int.tmod (rd a (i : Int)) 1000]) (args ++ [Int.tmod (rd b (i : Int)) 1000]) (by omega) (by simp; omega) (by simp; omega) (by simp; omega)) (fun k q => ?_)
      rw [arboristlaw07_BuiltSums.l0, if_pos (by omega)]
      simp only [Option.bind_some]
      rw [if_pos (by omega), if_pos (by omega), if_pos (by omega), if_pos (by omega), if_pos (by omega), if_neg c, if_pos (by omega), hsum _, wrap_n7 i (by omega)]
      exact q
theorem BuiltSums : arboristlaw07_BuiltSums.Pure := by
  intro a b n _ _ _ _ _ _ _
  have hmn : mn (mn (a.length : Int) (b.length : Int)) 6 = ((min (min a.length b.length) 6 : Nat) : Int) := by
    have h1 : mn (a.length : Int) (b.length : Int) = ((min a.length b.length : Nat) : Int) := by unfold mn; split <;> omega
    rw [h1]
    unfold mn
    split <;> omega
  by_cases c : min (min a.length b.length) 6 = 0
  · refine ⟨0, ?_⟩
    unfold arboristlaw07_BuiltSums.f
    rw [shown_7, Option.bind_some, hmn, if_pos (by omega)]
  · refine (evu1 (bs_l0 a b (Int.tmod n 1000000) (min (min a.length b.length) 6) (by omega) (by omega) (by omega) (min (min a.length b.length) 6) 0 [] [] [] (by omega) rfl rfl rfl) (fun k q => ?_)).rounds
    unfold arboristlaw07_BuiltSums.f
    rw [shown_7, Option.bind_some, hmn, if_neg (by omega)]
    exact q
end Go.Proofs.Ytlckejeglchgmaa.Pure
