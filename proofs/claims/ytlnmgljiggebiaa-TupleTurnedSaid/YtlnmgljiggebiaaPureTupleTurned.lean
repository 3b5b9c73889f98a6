/- TupleTurned: of two tuples one is less just if the other one is greater. For every three tuples, cut. -/
-- merge
import Derived.Test.YtlnmgljiggebiaaPr1
import Derived.Test.YtlnmgljiggebiaaPr13
import Derived.Test.YtlnmgljiggebiaaPr21
import Derived.Test.YtlnmgljiggebiaaPr5
import Derived.Test.YtlnmgljiggebiaaPr8
namespace Go.Proofs.Ytlnmgljiggebiaa.Pr
open Go.RowKit Go.Proofs.YtlnmgljiggebiaaW.PrintWords Go.Proofs.YtlnmgljiggebiaaW.PrintLast
theorem evs0 {ρ : Type} {F : Nat → Option ρ} {r : ρ} (H : ∀ k, F (k + 1) = some r) : Ev F r := ⟨1, fun k hk => by obtain ⟨m, rfl⟩ : ∃ m, k = m + 1 := ⟨k - 1, by omega⟩; exact H m⟩
theorem evu0 {ρ : Type} {F : Nat → Option ρ} {r : ρ} (H : ∀ k, F k = some r) : Ev F r := ⟨0, fun k _ => H k⟩
theorem evu1 {ρ : Type} {F : Nat → Option ρ} {r : ρ} {α1 : Type} {g1 : Nat → Option α1} {a1 : α1} (h1 : Ev g1 a1) (H : ∀ k, g1 k = some a1 → F k = some r) : Ev F r := by
  obtain ⟨K1, e1⟩ := h1
  exact ⟨K1, fun k hk => H k (e1 _ (by omega))⟩
theorem evs1 {ρ : Type} {F : Nat → Option ρ} {r : ρ} {α1 : Type} {g1 : Nat → Option α1} {a1 : α1} (h1 : Ev g1 a1) (H : ∀ k, g1 k = some a1 → F (k + 1) = some r) : Ev F r := by
  obtain ⟨K1, e1⟩ := h1
  refine ⟨K1 + 1, fun k hk => ?_⟩
  obtain ⟨m, rfl⟩ : ∃ m, k = m + 1 := ⟨k - 1, by omega⟩
  exact H m (e1 _ (by omega))
theorem evu2 {ρ : Type} {F : Nat → Option ρ} {r : ρ} {α1 : Type} {g1 : Nat → Option α1} {a1 : α1} {α2 : Type} {g2 : Nat → Option α2} {a2 : α2} (h1 : Ev g1 a1) (h2 : Ev g2 a2) (H : ∀ k, g1 k = some a1 → g2 k = some a2 → F k = some r) : Ev F r := by
  obtain ⟨K1, e1⟩ := h1; obtain ⟨K2, e2⟩ := h2
  exact ⟨K1 + K2, fun k hk => H k (e1 _ (by omega)) (e2 _ (by omega))⟩
theorem evs2 {ρ : Type} {F : Nat → Option ρ} {r : ρ} {α1 : Type} {g1 : Nat → Option α1} {a1 : α1} {α2 : Type} {g2 : Nat → Option α2} {a2 : α2} (h1 : Ev g1 a1) (h2 : Ev g2 a2) (H : ∀ k, g1 k = some a1 → g2 k = some a2 → F (k + 1) = some r) : Ev F r := by
  obtain ⟨K1, e1⟩ := h1; obtain ⟨K2, e2⟩ := h2
  refine ⟨K1 + K2 + 1, fun k hk => ?_⟩
  obtain ⟨m, rfl⟩ : ∃ m, k = m + 1 := ⟨k - 1, by omega⟩
  exact H m (e1 _ (by omega)) (e2 _ (by omega))
theorem evu3 {ρ : Type} {F : Nat → Option ρ} {r : ρ} {α1 : Type} {g1 : Nat → Option α1} {a1 : α1} {α2 : Type} {g2 : Nat → Option α2} {a2 : α2} {α3 : Type} {g3 : Nat → Option α3} {a3 : α3} (h1 : Ev g1 a1) (h2 : Ev g2 a2) (h3 : Ev g3 a3) (H : ∀ k, g1 k = some a1 → g2 k = some a2 → g3 k = some a3 → F k = some r) : Ev F r := by
  obtain ⟨K1, e1⟩ := h1; obtain ⟨K2, e2⟩ := h2; obtain ⟨K3, e3⟩ := h3
  exact ⟨K1 + K2 + K3, fun k hk => H k (e1 _ (by omega)) (e2 _ (by omega)) (e3 _ (by omega))⟩
theorem evs3 {ρ : Type} {F : Nat → Option ρ} {r : ρ} {α1 : Type} {g1 : Nat → Option α1} {a1 : α1} {α2 : Type} {g2 : Nat → Option α2} {a2 : α2} {α3 : Type} {g3 : Nat → Option α3} {a3 : α3} (h1 : Ev g1 a1) (h2 : Ev g2 a2) (h3 : Ev g3 a3) (H : ∀ k, g1 k = some a1 → g2 k = some a2 → g3 k = some a3 → F (k + 1) = some r) : Ev F r := by
  obtain ⟨K1, e1⟩ := h1; obtain ⟨K2, e2⟩ := h2; obtain ⟨K3, e3⟩ := h3
  refine ⟨K1 + K2 + K3 + 1, fun k hk => ?_⟩
  obtain ⟨m, rfl⟩ : ∃ m, k = m + 1 := ⟨k - 1, by omega⟩
  exact H m (e1 _ (by omega)) (e2 _ (by omega)) (e3 _ (by omega))
theorem evu4 {ρ : Type} {F : Nat → Option ρ} {r : ρ} {α1 : Type} {g1 : Nat → Option α1} {a1 : α1} {α2 : Type} {g2 : Nat → Option α2} {a2 : α2} {α3 : Type} {g3 : Nat → Option α3} {a3 : α3} {α4 : Type} {g4 : Nat → Option α4} {a4 : α4} (h1 : Ev g1 a1) (h2 : Ev g2 a2) (h3 : Ev g3 a3) (h4 : Ev g4 a4) (H : ∀ k, g1 k = some a1 → g2 k = some a2 → g3 k = some a3 → g4 k = some a4 → F k = some r) : Ev F r := by
  obtain ⟨K1, e1⟩ := h1; obtain ⟨K2, e2⟩ := h2; obtain ⟨K3, e3⟩ := h3; obtain ⟨K4, e4⟩ := h4
  exact ⟨K1 + K2 + K3 + K4, fun k hk => H k (e1 _ (by omega)) (e2 _ (by omega)) (e3 _ (by omega)) (e4 _ (by omega))⟩
theorem evs4 {ρ : Type} {F : Nat → Option ρ} {r : ρ} {α1 : Type} {g1 : Nat → Option α1} {a1 : α1} {α2 : Type} {g2 : Nat → Option α2} {a2 : α2} {α3 : Type} {g3 : Nat → Option α3} {a3 : α3} {α4 : Type} {g4 : Nat → Option α4} {a4 : α4} (h1 : Ev g1 a1) (h2 : Ev g2 a2) (h3 : Ev g3 a3) (h4 : Ev g4 a4) (H : ∀ k, g1 k = some a1 → g2 k = some a2 → g3 k = some a3 → g4 k = some a4 → F (k + 1) = some r) : Ev F r := by
  obtain ⟨K1, e1⟩ := h1; obtain ⟨K2, e2⟩ := h2; obtain ⟨K3, e3⟩ := h3; obtain ⟨K4, e4⟩ := h4
  refine ⟨K1 + K2 + K3 + K4 + 1, fun k hk => ?_⟩
  obtain ⟨m, rfl⟩ : ∃ m, k = m + 1 := ⟨k - 1, by omega⟩
  exact H m (e1 _ (by omega)) (e2 _ (by omega)) (e3 _ (by omega)) (e4 _ (by omega))
theorem evu5 {ρ : Type} {F : Nat → Option ρ} {r : ρ} {α1 : Type} {g1 : Nat → Option α1} {a1 : α1} {α2 : Type} {g2 : Nat → Option α2} {a2 : α2} {α3 : Type} {g3 : Nat → Option α3} {a3 : α3} {α4 : Type} {g4 : Nat → Option α4} {a4 : α4} {α5 : Type} {g5 : Nat → Option α5} {a5 : α5} (h1 : Ev g1 a1) (h2 : Ev g2 a2) (h3 : Ev g3 a3) (h4 : Ev g4 a4) (h5 : Ev g5 a5) (H : ∀ k, g1 k = some a1 → g2 k = some a2 → g3 k = some a3 → g4 k = some a4 → g5 k = some a5 → F k = some r) : Ev F r := by
  obtain ⟨K1, e1⟩ := h1; obtain ⟨K2, e2⟩ := h2; obtain ⟨K3, e3⟩ := h3; obtain ⟨K4, e4⟩ := h4; obtain ⟨K5, e5⟩ := h5
  exact ⟨K1 + K2 + K3 + K4 + K5, fun k hk => H k (e1 _ (by omega)) (e2 _ (by omega)) (e3 _ (by omega)) (e4 _ (by omega)) (e5 _ (by omega))⟩
theorem evs5 {ρ : Type} {F : Nat → Option ρ} {r : ρ} {α1 : Type} {g1 : Nat → Option α1} {a1 : α1} {α2 : Type} {g2 : Nat → Option α2} {a2 : α2} {α3 : Type} {g3 : Nat → Option α3} {a3 : α3} {α4 : Type} {g4 : Nat → Option α4} {a4 : α4} {α5 : Type} {g5 : Nat → Option α5} {a5 : α5} (h1 : Ev g1 a1) (h2 : Ev g2 a2) (h3 : Ev g3 a3) (h4 : Ev g4 a4) (h5 : Ev g5 a5) (H : ∀ k, g1 k = some a1 → g2 k = some a2 → g3 k = some a3 → g4 k = some a4 → g5 k = some a5 → F (k + 1) = some r) : Ev F r := by
  obtain ⟨K1, e1⟩ := h1; obtain ⟨K2, e2⟩ := h2; obtain ⟨K3, e3⟩ := h3; obtain ⟨K4, e4⟩ := h4; obtain ⟨K5, e5⟩ := h5
  refine ⟨K1 + K2 + K3 + K4 + K5 + 1, fun k hk => ?_⟩
  obtain ⟨m, rfl⟩ : ∃ m, k = m + 1 := ⟨k - 1, by omega⟩
  exact H m (e1 _ (by omega)) (e2 _ (by omega)) (e3 _ (by omega)) (e4 _ (by omega)) (e5 _ (by omega))
theorem evu6 {ρ : Type} {F : Nat → Option ρ} {r : ρ} {α1 : Type} {g1 : Nat → Option α1} {a1 : α1} {α2 : Type} {g2 : Nat → Option α2} {a2 : α2} {α3 : Type} {g3 : Nat → Option α3} {a3 : α3} {α4 : Type} {g4 : Nat → Option α4} {a4 : α4} {α5 : Type} {g5 : Nat → Option α5} {a5 : α5} {α6 : Type} {g6 : Nat → Option α6} {a6 : α6} (h1 : Ev g1 a1) (h2 : Ev g2 a2) (h3 : Ev g3 a3) (h4 : Ev g4 a4) (h5 : Ev g5 a5) (h6 : Ev g6 a6) (H : ∀ k, g1 k = some a1 → g2 k = some a2 → g3 k = some a3 → g4 k = some a4 → g5 k = some a5 → g6 k = some a6 → F k = some r) : Ev F r := by
  obtain ⟨K1, e1⟩ := h1; obtain ⟨K2, e2⟩ := h2; obtain ⟨K3, e3⟩ := h3; obtain ⟨K4, e4⟩ := h4; obtain ⟨K5, e5⟩ := h5; obtain ⟨K6, e6⟩ := h6
  exact ⟨K1 + K2 + K3 + K4 + K5 + K6, fun k hk => H k (e1 _ (by omega)) (e2 _ (by omega)) (e3 _ (by omega)) (e4 _ (by omega)) (e5 _ (by omega)) (e6 _ (by omega))⟩
theorem evs6 {ρ : Type} {F : Nat → Option ρ} {r : ρ} {α1 : Type} {g1 : Nat → Option α1} {a1 : α1} {α2 : Type} {g2 : Nat → Option α2} {a2 : α2} {α3 : Type} {g3 : Nat → Option α3} {a3 : α3} {α4 : Type} {g4 : Nat → Option α4} {a4 : α4} {α5 : Type} {g5 : Nat → Option α5} {a5 : α5} {α6 : Type} {g6 : Nat → Option α6} {a6 : α6} (h1 : Ev g1 a1) (h2 : Ev g2 a2) (h3 : Ev g3 a3) (h4 : Ev g4 a4) (h5 : Ev g5 a5) (h6 : Ev g6 a6) (H : ∀ k, g1 k = some a1 → g2 k = some a2 → g3 k = some a3 → g4 k = some a4 → g5 k = some a5 → g6 k = some a6 → F (k + 1) = some r) : Ev F r := by
  obtain ⟨K1, e1⟩ := h1; obtain ⟨K2, e2⟩ := h2; obtain ⟨K3, e3⟩ := h3; obtain ⟨K4, e4⟩ := h4; obtain ⟨K5, e5⟩ := h5; obtain ⟨K6, e6⟩ := h6
  refine ⟨K1 + K2 + K3 + K4 + K5 + K6 + 1, fun k hk => ?_⟩
  obtain ⟨m, rfl⟩ : ∃ m, k = m + 1 := ⟨k - 1, by omega⟩
  exact H m (e1 _ (by omega)) (e2 _ (by omega)) (e3 _ (by omega)) (e4 _ (by omega)) (e5 _ (by omega)) (e6 _ (by omega))
theorem evu7 {ρ : Type} {F : Nat → Option ρ} {r : ρ} {α1 : Type} {g1 : Nat → Option α1} {a1 : α1} {α2 : Type} {g2 : Nat → Option α2} {a2 : α2} {α3 : Type} {g3 : Nat → Option α3} {a3 : α3} {α4 : Type} {g4 : Nat → Option α4} {a4 : α4} {α5 : Type} {g5 : Nat → Option α5} {a5 : α5} {α6 : Type} {g6 : Nat → Option α6} {a6 : α6} {α7 : Type} {g7 : Nat → Option α7} {a7 : α7} (h1 : Ev g1 a1) (h2 : Ev g2 a2) (h3 : Ev g3 a3) (h4 : Ev g4 a4) (h5 : Ev g5 a5) (h6 : Ev g6 a6) (h7 : Ev g7 a7) (H : ∀ k, g1 k = some a1 → g2 k = some a2 → g3 k = some a3 → g4 k = some a4 → g5 k = some a5 → g6 k = some a6 → g7 k = some a7 → F k = some r) : Ev F r := by
  obtain ⟨K1, e1⟩ := h1; obtain ⟨K2, e2⟩ := h2; obtain ⟨K3, e3⟩ := h3; obtain ⟨K4, e4⟩ := h4; obtain ⟨K5, e5⟩ := h5; obtain ⟨K6, e6⟩ := h6; obtain ⟨K7, e7⟩ := h7
  exact ⟨K1 + K2 + K3 + K4 + K5 + K6 + K7, fun k hk => H k (e1 _ (by omega)) (e2 _ (by omega)) (e3 _ (by omega)) (e4 _ (by omega)) (e5 _ (by omega)) (e6 _ (by omega)) (e7 _ (by omega))⟩
theorem evs7 {ρ : Type} {F : Nat → Option ρ} {r : ρ} {α1 : Type} {g1 : Nat → Option α1} {a1 : α1} {α2 : Type} {g2 : Nat → Option α2} {a2 : α2} {α3 : Type} {g3 : Nat → Option α3} {a3 : α3} {α4 : Type} {g4 : Nat → Option α4} {a4 : α4} {α5 : Type} {g5 : Nat → Option α5} {a5 : α5} {α6 : Type} {g6 : Nat → Option α6} {a6 : α6} {α7 : Type} {g7 : Nat → Option α7} {a7 : α7} (h1 : Ev g1 a1) (h2 : Ev g2 a2) (h3 : Ev g3 a3) (h4 : Ev g4 a4) (h5 : Ev g5 a5) (h6 : Ev g6 a6) (h7 : Ev g7 a7) (H : ∀ k, g1 k = some a1 → g2 k = some a2 → g3 k = some a3 → g4 k = some a4 → g5 k = some a5 → g6 k = some a6 → g7 k = some a7 → F (k + 1) = some r) : Ev F r := by
  obtain ⟨K1, e1⟩ := h1; obtain ⟨K2, e2⟩ := h2; obtain ⟨K3, e3⟩ := h3; obtain ⟨K4, e4⟩ := h4; obtain ⟨K5, e5⟩ := h5; obtain ⟨K6, e6⟩ := h6; obtain ⟨K7, e7⟩ := h7
  refine ⟨K1 + K2 + K3 + K4 + K5 + K6 + K7 + 1, fun k hk => ?_⟩
  obtain ⟨m, rfl⟩ : ∃ m, k = m + 1 := ⟨k - 1, by omega⟩
  exact H m (e1 _ (by omega)) (e2 _ (by omega)) (e3 _ (by omega)) (e4 _ (by omega)) (e5 _ (by omega)) (e6 _ (by omega)) (e7 _ (by omega))
theorem evu8 {ρ : Type} {F : Nat → Option ρ} {r : ρ} {α1 : Type} {g1 : Nat → Option α1} {a1 : α1} {α2 : Type} {g2 : Nat → Option α2} {a2 : α2} {α3 : Type} {g3 : Nat → Option α3} {a3 : α3} {α4 : Type} {g4 : Nat → Option α4} {a4 : α4} {α5 : Type} {g5 : Nat → Option α5} {a5 : α5} {α6 : Type} {g6 : Nat → Option α6} {a6 : α6} {α7 : Type} {g7 : Nat → Option α7} {a7 : α7} {α8 : Type} {g8 : Nat → Option α8} {a8 : α8} (h1 : Ev g1 a1) (h2 : Ev g2 a2) (h3 : Ev g3 a3) (h4 : Ev g4 a4) (h5 : Ev g5 a5) (h6 : Ev g6 a6) (h7 : Ev g7 a7) (h8 : Ev g8 a8) (H : ∀ k, g1 k = some a1 → g2 k = some a2 → g3 k = some a3 → g4 k = some a4 → g5 k = some a5 → g6 k = some a6 → g7 k = some a7 → g8 k = some a8 → F k = some r) : Ev F r := by
  obtain ⟨K1, e1⟩ := h1; obtain ⟨K2, e2⟩ := h2; obtain ⟨K3, e3⟩ := h3; obtain ⟨K4, e4⟩ := h4; obtain ⟨K5, e5⟩ := h5; obtain ⟨K6, e6⟩ := h6; obtain ⟨K7, e7⟩ := h7; obtain ⟨K8, e8⟩ := h8
  exact ⟨K1 + K2 + K3 + K4 + K5 + K6 + K7 + K8, fun k hk => H k (e1 _ (by omega)) (e2 _ (by omega)) (e3 _ (by omega)) (e4 _ (by omega)) (e5 _ (by omega)) (e6 _ (by omega)) (e7 _ (by omega)) (e8 _ (by omega))⟩
theorem evs8 {ρ : Type} {F : Nat → Option ρ} {r : ρ} {α1 : Type} {g1 : Nat → Option α1} {a1 : α1} {α2 : Type} {g2 : Nat → Option α2} {a2 : α2} {α3 : Type} {g3 : Nat → Option α3} {a3 : α3} {α4 : Type} {g4 : Nat → Option α4} {a4 : α4} {α5 : Type} {g5 : Nat → Option α5} {a5 : α5} {α6 : Type} {g6 : Nat → Option α6} {a6 : α6} {α7 : Type} {g7 : Nat → Option α7} {a7 : α7} {α8 : Type} {g8 : Nat → Option α8} {a8 : α8} (h1 : Ev g1 a1) (h2 : Ev g2 a2) (h3 : Ev g3 a3) (h4 : Ev g4 a4) (h5 : Ev g5 a5) (h6 : Ev g6 a6) (h7 : Ev g7 a7) (h8 : Ev g8 a8) (H : ∀ k, g1 k = some a1 → g2 k = some a2 → g3 k = some a3 → g4 k = some a4 → g5 k = some a5 → g6 k = some a6 → g7 k = some a7 → g8 k = some a8 → F (k + 1) = some r) : Ev F r := by
  obtain ⟨K1, e1⟩ := h1; obtain ⟨K2, e2⟩ := h2; obtain ⟨K3, e3⟩ := h3; obtain ⟨K4, e4⟩ := h4; obtain ⟨K5, e5⟩ := h5; obtain ⟨K6, e6⟩ := h6; obtain ⟨K7, e7⟩ := h7; obtain ⟨K8, e8⟩ := h8
  refine ⟨K1 + K2 + K3 + K4 + K5 + K6 + K7 + K8 + 1, fun k hk => ?_⟩
  obtain ⟨m, rfl⟩ : ∃ m, k = m + 1 := ⟨k - 1, by omega⟩
  exact H m (e1 _ (by omega)) (e2 _ (by omega)) (e3 _ (by omega)) (e4 _ (by omega)) (e5 _ (by omega)) (e6 _ (by omega)) (e7 _ (by omega)) (e8 _ (by omega))
end Go.Proofs.Ytlnmgljiggebiaa.Pr

set_option linter.unusedVariables false
set_option linter.unusedSimpArgs false
namespace Go.Proofs.Ytlnmgljiggebiaa.Pr
open Go.RowKit Go.Proofs.YtlnmgljiggebiaaW.PrintWords Go.Proofs.YtlnmgljiggebiaaW.PrintLast

theorem vcmp (a b : List Int) (ha : a.length ≤ 9223372036854775807) : Ev (fun k => tuple_Compare.f k a b) (cmpT a b) := Ev.of (fun k => tuple_Compare.mono a b k) (compare_tells a b ha)
theorem cmpT_range : ∀ a b : List Int, -1 ≤ cmpT a b ∧ cmpT a b ≤ 1
  | [], [] => by simp [cmpT]
  | [], _ :: _ => by simp [cmpT]
  | _ :: _, [] => by simp [cmpT]
  | x :: l, y :: m => by
    rw [cmpT]
    split
    · omega
    · split
      · omega
      · exact cmpT_range l m
theorem shown_01 : Ev (fun k => arboristlaw01_shown.f k) true := Ev.of (fun k => arboristlaw01_shown.mono k) (k := 60) (by decide +kernel)
theorem mn_cut {α : Type} (l : List α) (n : Nat) : 0 ≤ mn (l.length : Int) n ∧ mn (l.length : Int) n ≤ l.length ∧ l.take (mn (l.length : Int) n).toNat = l.take n := by
  unfold mn
  split
  · refine ⟨by omega, by omega, by simp⟩
  · refine ⟨by omega, by omega, ?_⟩
    rw [List.take_of_length_le (by omega), List.take_of_length_le (by omega)]
end Go.Proofs.Ytlnmgljiggebiaa.Pr

set_option linter.unusedVariables false
set_option linter.unusedSimpArgs false
namespace Go.Proofs.Ytlnmgljiggebiaa.Pure
open Go.RowKit Go.Proofs.Ytlnmgljiggebiaa.Pr Go.Proofs.YtlnmgljiggebiaaW.PrintWords Go.Proofs.YtlnmgljiggebiaaW.PrintLast

theorem turned_j (a b : List Int) (ha : a.length ≤ 60) (hb : b.length ≤ 60) : Ev (fun k => arboristlaw01_TupleTurned.j0 k a b true (cmpT a b) false) true := by
  refine evs2 (vcmp b a (by omega)) (vcmp a a (by omega)) (fun k e1 e2 => ?_)
  have hr := cmpT_range a b
  have hw : wrap64 (- cmpT b a) = cmpT a b := by
    rw [cmpT_swap a b, wrap_id (by omega) (by omega)]
    omega
  rw [arboristlaw01_TupleTurned.j0, if_neg (by decide), if_pos rfl, e1, Option.bind_some, hw, if_pos rfl, e2, Option.bind_some, cmpT_self]
  rfl
theorem TupleTurned : arboristlaw01_TupleTurned.Pure := by
  intro a b c _ _ _ _ _ _ _ _ _
  obtain ⟨a1, a2, a3⟩ := mn_cut a 60
  obtain ⟨b1, b2, b3⟩ := mn_cut b 60
  obtain ⟨c1, c2, c3⟩ := mn_cut c 60
  have la : (a.take 60).length ≤ 60 := by simp; omega
  have lb : (b.take 60).length ≤ 60 := by simp; omega
  refine (evu5 shown_01 (vcmp (a.take 60) (b.take 60) (by omega)) (vcmp (b.take 60) (c.take 60) (by omega)) (vcmp (a.take 60) (c.take 60) (by omega)) (turned_j (a.take 60) (b.take 60) la lb) (fun k e1 e2 e3 e4 e5 => ?_)).rounds
  simp only [arboristlaw01_TupleTurned.f]
  rw [show ((60 : Nat) : Int) = 60 from rfl] at *
  rw [e1, Option.bind_some, if_pos a1, if_pos a2, if_pos b1, if_pos b2, if_pos c1, if_pos c2, a3, b3, c3, e2, Option.bind_some, e3, Option.bind_some]
  by_cases h1 : cmpT (a.take 60) (b.take 60) < 0
  · rw [if_pos h1]
    by_cases h2 : cmpT (b.take 60) (c.take 60) < 0
    · rw [if_pos h2, e4, Option.bind_some]
      have h3 := cmpT_trans (a.take 60) (b.take 60) (c.take 60) (by omega) (by omega)
      have h4 : cmpT (a.take 60) (c.take 60) ≠ 0 := fun h => by
        have := cmpT_eq _ _ h
        rw [← this, cmpT_swap] at h2
        omega
      rw [show decide (cmpT (a.take 60) (c.take 60) ≥ 0) = false from decide_eq_false (by omega)]
      exact e5
    · rw [if_neg h2]
      exact e5
  · rw [if_neg h1]
    exact e5
end Go.Proofs.Ytlnmgljiggebiaa.Pure
