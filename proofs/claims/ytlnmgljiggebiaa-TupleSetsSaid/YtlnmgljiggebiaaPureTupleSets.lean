/- TupleSets: rows that rise are united and held against each other as the document says. For every two rows made to rise. -/
-- merge
import Derived.Test.YtlnmgljiggebiaaPr1
import Derived.Test.YtlnmgljiggebiaaPr12
import Derived.Test.YtlnmgljiggebiaaPr13
import Derived.Test.YtlnmgljiggebiaaPr15
import Derived.Test.YtlnmgljiggebiaaPr24
import Derived.Test.YtlnmgljiggebiaaPr25
import Derived.Test.YtlnmgljiggebiaaPr26
import Derived.Test.YtlnmgljiggebiaaPr27
import Derived.Test.YtlnmgljiggebiaaPr28
import Derived.Test.YtlnmgljiggebiaaPr5
namespace Go.Proofs.Ytlnmgljiggebiaa.Pr
open Go.RowKit Go.Proofs.YtlnmgljiggebiaaW.PrintWords Go.Proofs.YtlnmgljiggebiaaW.PrintLast
theorem evs0 {ρ : Type} {F : Nat → Option ρ} {r : ρ} (H : ∀ k, F (k + 1) = some r) : Ev F r := ⟨1, fun k hk => by obtain ⟨m, rfl⟩ : ∃ m, k = m + 1 := ⟨k - 1, by omega⟩; exact H m⟩
theorem evu0 {ρ : Type} {F : Nat → Option ρ} {r : ρ} (H : ∀ k, F k = some r) : Ev F r := ⟨0, fun k _ => H k⟩
theorem evu1 {ρ : Type} {F : Nat → Option ρ} {r : ρ} {α1 : Type} {g1 : Nat → Option α1} {a1 : α1} (h1 : Ev g1 a1) (H : ∀ k, g1 k = some a1 → F k = some r) : Ev F r := by
  obtain ⟨K1, e1⟩ := h1
  exact ⟨K1, fun k hk => H k (e1 _ (by omega))⟩
theorem evs1 {ρ : Type} {F : Nat → Option ρ} {r : ρ} {α1 : Type} {g1 : Nat → Option α1} {a1 : α1} (h1 : Ev g1 a1) (H : ∀ k, g1 k = some a1 → F (k + 1) = some r) : Ev F r := by
  obtain ⟨K1, e1⟩ := h1
  refine ⟨K1 + 1, fun k hk => ?_⟩
  obtain ⟨m, rfl⟩ : ∃ m, k = m + 1 := ⟨k - 1, by omega⟩
  exact H m (e1 _ (by omega))
theorem evu2 {ρ : Type} {F : Nat → Option ρ} {r : ρ} {α1 : Type} {g1 : Nat → Option α1} {a1 : α1} {α2 : Type} {g2 : Nat → Option α2} {a2 : α2} (h1 : Ev g1 a1) (h2 : Ev g2 a2) (H : ∀ k, g1 k = some a1 → g2 k = some a2 → F k = some r) : Ev F r := by
  obtain ⟨K1, e1⟩ := h1; obtain ⟨K2, e2⟩ := h2
  exact ⟨K1 + K2, fun k hk => H k (e1 _ (by omega)) (e2 _ (by omega))⟩
theorem evs2 {ρ : Type} {F : Nat → Option ρ} {r : ρ} {α1 : Type} {g1 : Nat → Option α1} {a1 : α1} {α2 : Type} {g2 : Nat → Option α2} {a2 : α2} (h1 : Ev g1 a1) (h2 : Ev g2 a2) (H : ∀ k, g1 k = some a1 → g2 k = some a2 → F (k + 1) = some r) : Ev F r := by
  obtain ⟨K1, e1⟩ := h1; obtain ⟨K2, e2⟩ := h2
  refine ⟨K1 + K2 + 1, fun k hk => ?_⟩
  obtain ⟨m, rfl⟩ : ∃ m, k = m + 1 := ⟨k - 1, by omega⟩
  exact H m (e1 _ (by omega)) (e2 _ (by omega))
theorem evu3 {ρ : Type} {F : Nat → Option ρ} {r : ρ} {α1 : Type} {g1 : Nat → Option α1} {a1 : α1} {α2 : Type} {g2 : Nat → Option α2} {a2 : α2} {α3 : Type} {g3 : Nat → Option α3} {a3 : α3} (h1 : Ev g1 a1) (h2 : Ev g2 a2) (h3 : Ev g3 a3) (H : ∀ k, g1 k = some a1 → g2 k = some a2 → g3 k = some a3 → F k = some r) : Ev F r := by
  obtain ⟨K1, e1⟩ := h1; obtain ⟨K2, e2⟩ := h2; obtain ⟨K3, e3⟩ := h3
  exact ⟨K1 + K2 + K3, fun k hk => H k (e1 _ (by omega)) (e2 _ (by omega)) (e3 _ (by omega))⟩
theorem evs3 {ρ : Type} {F : Nat → Option ρ} {r : ρ} {α1 : Type} {g1 : Nat → Option α1} {a1 : α1} {α2 : Type} {g2 : Nat → Option α2} {a2 : α2} {α3 : Type} {g3 : Nat → Option α3} {a3 : α3} (h1 : Ev g1 a1) (h2 : Ev g2 a2) (h3 : Ev g3 a3) (H : ∀ k, g1 k = some a1 → g2 k = some a2 → g3 k = some a3 → F (k + 1) = some r) : Ev F r := by
  obtain ⟨K1, e1⟩ := h1; obtain ⟨K2, e2⟩ := h2; obtain ⟨K3, e3⟩ := h3
  refine ⟨K1 + K2 + K3 + 1, fun k hk => ?_⟩
  obtain ⟨m, rfl⟩ : ∃ m, k = m + 1 := ⟨k - 1, by omega⟩
  exact H m (e1 _ (by omega)) (e2 _ (by omega)) (e3 _ (by omega))
theorem evu4 {ρ : Type} {F : Nat → Option ρ} {r : ρ} {α1 : Type} {g1 : Nat → Option α1} {a1 : α1} {α2 : Type} {g2 : Nat → Option α2} {a2 : α2} {α3 : Type} {g3 : Nat → Option α3} {a3 : α3} {α4 : Type} {g4 : Nat → Option α4} {a4 : α4} (h1 : Ev g1 a1) (h2 : Ev g2 a2) (h3 : Ev g3 a3) (h4 : Ev g4 a4) (H : ∀ k, g1 k = some a1 → g2 k = some a2 → g3 k = some a3 → g4 k = some a4 → F k = some r) : Ev F r := by
  obtain ⟨K1, e1⟩ := h1; obtain ⟨K2, e2⟩ := h2; obtain ⟨K3, e3⟩ := h3; obtain ⟨K4, e4⟩ := h4
  exact ⟨K1 + K2 + K3 + K4, fun k hk => H k (e1 _ (by omega)) (e2 _ (by omega)) (e3 _ (by omega)) (e4 _ (by omega))⟩
theorem evs4 {ρ : Type} {F : Nat → Option ρ} {r : ρ} {α1 : Type} {g1 : Nat → Option α1} {a1 : α1} {α2 : Type} {g2 : Nat → Option α2} {a2 : α2} {α3 : Type} {g3 : Nat → Option α3} {a3 : α3} {α4 : Type} {g4 : Nat → Option α4} {a4 : α4} (h1 : Ev g1 a1) (h2 : Ev g2 a2) (h3 : Ev g3 a3) (h4 : Ev g4 a4) (H : ∀ k, g1 k = some a1 → g2 k = some a2 → g3 k = some a3 → g4 k = some a4 → F (k + 1) = some r) : Ev F r := by
  obtain ⟨K1, e1⟩ := h1; obtain ⟨K2, e2⟩ := h2; obtain ⟨K3, e3⟩ := h3; obtain ⟨K4, e4⟩ := h4
  refine ⟨K1 + K2 + K3 + K4 + 1, fun k hk => ?_⟩
  obtain ⟨m, rfl⟩ : ∃ m, k = m + 1 := ⟨k - 1, by omega⟩
  exact H m (e1 _ (by omega)) (e2 _ (by omega)) (e3 _ (by omega)) (e4 _ (by omega))
theorem evu5 {ρ : Type} {F : Nat → Option ρ} {r : ρ} {α1 : Type} {g1 : Nat → Option α1} {a1 : α1} {α2 : Type} {g2 : Nat → Option α2} {a2 : α2} {α3 : Type} {g3 : Nat → Option α3} {a3 : α3} {α4 : Type} {g4 : Nat → Option α4} {a4 : α4} {α5 : Type} {g5 : Nat → Option α5} {a5 : α5} (h1 : Ev g1 a1) (h2 : Ev g2 a2) (h3 : Ev g3 a3) (h4 : Ev g4 a4) (h5 : Ev g5 a5) (H : ∀ k, g1 k = some a1 → g2 k = some a2 → g3 k = some a3 → g4 k = some a4 → g5 k = some a5 → F k = some r) : Ev F r := by
  obtain ⟨K1, e1⟩ := h1; obtain ⟨K2, e2⟩ := h2; obtain ⟨K3, e3⟩ := h3; obtain ⟨K4, e4⟩ := h4; obtain ⟨K5, e5⟩ := h5
  exact ⟨K1 + K2 + K3 + K4 + K5, fun k hk => H k (e1 _ (by omega)) (e2 _ (by omega)) (e3 _ (by omega)) (e4 _ (by omega)) (e5 _ (by omega))⟩
theorem evs5 {ρ : Type} {F : Nat → Option ρ} {r : ρ} {α1 : Type} {g1 : Nat → Option α1} {a1 : α1} {α2 : Type} {g2 : Nat → Option α2} {a2 : α2} {α3 : Type} {g3 : Nat → Option α3} {a3 : α3} {α4 : Type} {g4 : Nat → Option α4} {a4 : α4} {α5 : Type} {g5 : Nat → Option α5} {a5 : α5} (h1 : Ev g1 a1) (h2 : Ev g2 a2) (h3 : Ev g3 a3) (h4 : Ev g4 a4) (h5 : Ev g5 a5) (H : ∀ k, g1 k = some a1 → g2 k = some a2 → g3 k = some a3 → g4 k = some a4 → g5 k = some a5 → F (k + 1) = some r) : Ev F r := by
  obtain ⟨K1, e1⟩ := h1; obtain ⟨K2, e2⟩ := h2; obtain ⟨K3, e3⟩ := h3; obtain ⟨K4, e4⟩ := h4; obtain ⟨K5, e5⟩ := h5
  refine ⟨K1 + K2 + K3 + K4 + K5 + 1, fun k hk => ?_⟩
  obtain ⟨m, rfl⟩ : ∃ m, k = m + 1 := ⟨k - 1, by omega⟩
  exact H m (e1 _ (by omega)) (e2 _ (by omega)) (e3 _ (by omega)) (e4 _ (by omega)) (e5 _ (by omega))
theorem evu6 {ρ : Type} {F : Nat → Option ρ} {r : ρ} {α1 : Type} {g1 : Nat → Option α1} {a1 : α1} {α2 : Type} {g2 : Nat → Option α2} {a2 : α2} {α3 : Type} {g3 : Nat → Option α3} {a3 : α3} {α4 : Type} {g4 : Nat → Option α4} {a4 : α4} {α5 : Type} {g5 : Nat → Option α5} {a5 : α5} {α6 : Type} {g6 : Nat → Option α6} {a6 : α6} (h1 : Ev g1 a1) (h2 : Ev g2 a2) (h3 : Ev g3 a3) (h4 : Ev g4 a4) (h5 : Ev g5 a5) (h6 : Ev g6 a6) (H : ∀ k, g1 k = some a1 → g2 k = some a2 → g3 k = some a3 → g4 k = some a4 → g5 k = some a5 → g6 k = some a6 → F k = some r) : Ev F r := by
  obtain ⟨K1, e1⟩ := h1; obtain ⟨K2, e2⟩ := h2; obtain ⟨K3, e3⟩ := h3; obtain ⟨K4, e4⟩ := h4; obtain ⟨K5, e5⟩ := h5; obtain ⟨K6, e6⟩ := h6
  exact ⟨K1 + K2 + K3 + K4 + K5 + K6, fun k hk => H k (e1 _ (by omega)) (e2 _ (by omega)) (e3 _ (by omega)) (e4 _ (by omega)) (e5 _ (by omega)) (e6 _ (by omega))⟩
theorem evs6 {ρ : Type} {F : Nat → Option ρ} {r : ρ} {α1 : Type} {g1 : Nat → Option α1} {a1 : α1} {α2 : Type} {g2 : Nat → Option α2} {a2 : α2} {α3 : Type} {g3 : Nat → Option α3} {a3 : α3} {α4 : Type} {g4 : Nat → Option α4} {a4 : α4} {α5 : Type} {g5 : Nat → Option α5} {a5 : α5} {α6 : Type} {g6 : Nat → Option α6} {a6 : α6} (h1 : Ev g1 a1) (h2 : Ev g2 a2) (h3 : Ev g3 a3) (h4 : Ev g4 a4) (h5 : Ev g5 a5) (h6 : Ev g6 a6) (H : ∀ k, g1 k = some a1 → g2 k = some a2 → g3 k = some a3 → g4 k = some a4 → g5 k = some a5 → g6 k = some a6 → F (k + 1) = some r) : Ev F r := by
  obtain ⟨K1, e1⟩ := h1; obtain ⟨K2, e2⟩ := h2; obtain ⟨K3, e3⟩ := h3; obtain ⟨K4, e4⟩ := h4; obtain ⟨K5, e5⟩ := h5; obtain ⟨K6, e6⟩ := h6
  refine ⟨K1 + K2 + K3 + K4 + K5 + K6 + 1, fun k hk => ?_⟩
  obtain ⟨m, rfl⟩ : ∃ m, k = m + 1 := ⟨k - 1, by omega⟩
  exact H m (e1 _ (by omega)) (e2 _ (by omega)) (e3 _ (by omega)) (e4 _ (by omega)) (e5 _ (by omega)) (e6 _ (by omega))
theorem evu7 {ρ : Type} {F : Nat → Option ρ} {r : ρ} {α1 : Type} {g1 : Nat → Option α1} {a1 : α1} {α2 : Type} {g2 : Nat → Option α2} {a2 : α2} {α3 : Type} {g3 : Nat → Option α3} {a3 : α3} {α4 : Type} {g4 : Nat → Option α4} {a4 : α4} {α5 : Type} {g5 : Nat → Option α5} {a5 : α5} {α6 : Type} {g6 : Nat → Option α6} {a6 : α6} {α7 : Type} {g7 : Nat → Option α7} {a7 : α7} (h1 : Ev g1 a1) (h2 : Ev g2 a2) (h3 : Ev g3 a3) (h4 : Ev g4 a4) (h5 : Ev g5 a5) (h6 : Ev g6 a6) (h7 : Ev g7 a7) (H : ∀ k, g1 k = some a1 → g2 k = some a2 → g3 k = some a3 → g4 k = some a4 → g5 k = some a5 → g6 k = some a6 → g7 k = some a7 → F k = some r) : Ev F r := by
  obtain ⟨K1, e1⟩ := h1; obtain ⟨K2, e2⟩ := h2; obtain ⟨K3, e3⟩ := h3; obtain ⟨K4, e4⟩ := h4; obtain ⟨K5, e5⟩ := h5; obtain ⟨K6, e6⟩ := h6; obtain ⟨K7, e7⟩ := h7
  exact ⟨K1 + K2 + K3 + K4 + K5 + K6 + K7, fun k hk => H k (e1 _ (by omega)) (e2 _ (by omega)) (e3 _ (by omega)) (e4 _ (by omega)) (e5 _ (by omega)) (e6 _ (by omega)) (e7 _ (by omega))⟩
theorem evs7 {ρ : Type} {F : Nat → Option ρ} {r : ρ} {α1 : Type} {g1 : Nat → Option α1} {a1 : α1} {α2 : Type} {g2 : Nat → Option α2} {a2 : α2} {α3 : Type} {g3 : Nat → Option α3} {a3 : α3} {α4 : Type} {g4 : Nat → Option α4} {a4 : α4} {α5 : Type} {g5 : Nat → Option α5} {a5 : α5} {α6 : Type} {g6 : Nat → Option α6} {a6 : α6} {α7 : Type} {g7 : Nat → Option α7} {a7 : α7} (h1 : Ev g1 a1) (h2 : Ev g2 a2) (h3 : Ev g3 a3) (h4 : Ev g4 a4) (h5 : Ev g5 a5) (h6 : Ev g6 a6) (h7 : Ev g7 a7) (H : ∀ k, g1 k = some a1 → g2 k = some a2 → g3 k = some a3 → g4 k = some a4 → g5 k = some a5 → g6 k = some a6 → g7 k = some a7 → F (k + 1) = some r) : Ev F r := by
  obtain ⟨K1, e1⟩ := h1; obtain ⟨K2, e2⟩ := h2; obtain ⟨K3, e3⟩ := h3; obtain ⟨K4, e4⟩ := h4; obtain ⟨K5, e5⟩ := h5; obtain ⟨K6, e6⟩ := h6; obtain ⟨K7, e7⟩ := h7
  refine ⟨K1 + K2 + K3 + K4 + K5 + K6 + K7 + 1, fun k hk => ?_⟩
  obtain ⟨m, rfl⟩ : ∃ m, k = m + 1 := ⟨k - 1, by omega⟩
  exact H m (e1 _ (by omega)) (e2 _ (by omega)) (e3 _ (by omega)) (e4 _ (by omega)) (e5 _ (by omega)) (e6 _ (by omega)) (e7 _ (by omega))
theorem evu8 {ρ : Type} {F : Nat → Option ρ} {r : ρ} {α1 : Type} {g1 : Nat → Option α1} {a1 : α1} {α2 : Type} {g2 : Nat → Option α2} {a2 : α2} {α3 : Type} {g3 : Nat → Option α3} {a3 : α3} {α4 : Type} {g4 : Nat → Option α4} {a4 : α4} {α5 : Type} {g5 : Nat → Option α5} {a5 : α5} {α6 : Type} {g6 : Nat → Option α6} {a6 : α6} {α7 : Type} {g7 : Nat → Option α7} {a7 : α7} {α8 : Type} {g8 : Nat → Option α8} {a8 : α8} (h1 : Ev g1 a1) (h2 : Ev g2 a2) (h3 : Ev g3 a3) (h4 : Ev g4 a4) (h5 : Ev g5 a5) (h6 : Ev g6 a6) (h7 : Ev g7 a7) (h8 : Ev g8 a8) (H : ∀ k, g1 k = some a1 → g2 k = some a2 → g3 k = some a3 → g4 k = some a4 → g5 k = some a5 → g6 k = some a6 → g7 k = some a7 → g8 k = some a8 → F k = some r) : Ev F r := by
  obtain ⟨K1, e1⟩ := h1; obtain ⟨K2, e2⟩ := h2; obtain ⟨K3, e3⟩ := h3; obtain ⟨K4, e4⟩ := h4; obtain ⟨K5, e5⟩ := h5; obtain ⟨K6, e6⟩ := h6; obtain ⟨K7, e7⟩ := h7; obtain ⟨K8, e8⟩ := h8
  exact ⟨K1 + K2 + K3 + K4 + K5 + K6 + K7 + K8, fun k hk => H k (e1 _ (by omega)) (e2 _ (by omega)) (e3 _ (by omega)) (e4 _ (by omega)) (e5 _ (by omega)) (e6 _ (by omega)) (e7 _ (by omega)) (e8 _ (by omega))⟩
theorem evs8 {ρ : Type} {F : Nat → Option ρ} {r : ρ} {α1 : Type} {g1 : Nat → Option α1} {a1 : α1} {α2 : Type} {g2 : Nat → Option α2} {a2 : α2} {α3 : Type} {g3 : Nat → Option α3} {a3 : α3} {α4 : Type} {g4 : Nat → Option α4} {a4 : α4} {α5 : Type} {g5 : Nat → Option α5} {a5 : α5} {α6 : Type} {g6 : Nat → Option α6} {a6 : α6} {α7 : Type} {g7 : Nat → Option α7} {a7 : α7} {α8 : Type} {g8 : Nat → Option α8} {a8 : α8} (h1 : Ev g1 a1) (h2 : Ev g2 a2) (h3 : Ev g3 a3) (h4 : Ev g4 a4) (h5 : Ev g5 a5) (h6 : Ev g6 a6) (h7 : Ev g7 a7) (h8 : Ev g8 a8) (H : ∀ k, g1 k = some a1 → g2 k = some a2 → g3 k = some a3 → g4 k = some a4 → g5 k = some a5 → g6 k = some a6 → g7 k = some a7 → g8 k = some a8 → F (k + 1) = some r) : Ev F r := by
  obtain ⟨K1, e1⟩ := h1; obtain ⟨K2, e2⟩ := h2; obtain ⟨K3, e3⟩ := h3; obtain ⟨K4, e4⟩ := h4; obtain ⟨K5, e5⟩ := h5; obtain ⟨K6, e6⟩ := h6; obtain ⟨K7, e7⟩ := h7; obtain ⟨K8, e8⟩ := h8
  refine ⟨K1 + K2 + K3 + K4 + K5 + K6 + K7 + K8 + 1, fun k hk => ?_⟩
  obtain ⟨m, rfl⟩ : ∃ m, k = m + 1 := ⟨k - 1, by omega⟩
  exact H m (e1 _ (by omega)) (e2 _ (by omega)) (e3 _ (by omega)) (e4 _ (by omega)) (e5 _ (by omega)) (e6 _ (by omega)) (e7 _ (by omega)) (e8 _ (by omega))
end Go.Proofs.Ytlnmgljiggebiaa.Pr

set_option linter.unusedVariables false
set_option linter.unusedSimpArgs false
namespace Go.Proofs.Ytlnmgljiggebiaa.Pr
open Go.RowKit Go.Proofs.YtlnmgljiggebiaaW.PrintWords Go.Proofs.YtlnmgljiggebiaaW.PrintLast

theorem vcmp (a b : List Int) (ha : a.length ≤ 9223372036854775807) : Ev (fun k => tuple_Compare.f k a b) (cmpT a b) := Ev.of (fun k => tuple_Compare.mono a b k) (compare_tells a b ha)
theorem cmpT_range : ∀ a b : List Int, -1 ≤ cmpT a b ∧ cmpT a b ≤ 1
  | [], [] => by simp [cmpT]
  | [], _ :: _ => by simp [cmpT]
  | _ :: _, [] => by simp [cmpT]
  | x :: l, y :: m => by
    rw [cmpT]
    split
    · omega
    · split
      · omega
      · exact cmpT_range l m
theorem shown_01 : Ev (fun k => arboristlaw01_shown.f k) true := Ev.of (fun k => arboristlaw01_shown.mono k) (k := 60) (by decide +kernel)
theorem mn_cut {α : Type} (l : List α) (n : Nat) : 0 ≤ mn (l.length : Int) n ∧ mn (l.length : Int) n ≤ l.length ∧ l.take (mn (l.length : Int) n).toNat = l.take n := by
  unfold mn
  split
  · refine ⟨by omega, by omega, by simp⟩
  · refine ⟨by omega, by omega, ?_⟩
    rw [List.take_of_length_le (by omega), List.take_of_length_le (by omega)]
end Go.Proofs.Ytlnmgljiggebiaa.Pr

set_option linter.unusedVariables false
namespace Go.Proofs.Ytlnmgljiggebiaa.Pr
open Go.RowKit Go.Proofs.YtlnmgljiggebiaaW.PrintWords Go.Proofs.YtlnmgljiggebiaaW.PrintLast

theorem drop_at (l : List Int) (i : Nat) (h : i < l.length) : l.drop i = rd l (i : Int) :: l.drop (i + 1) := by
  rw [List.drop_eq_getElem_cons h, rd_nat l i _ (List.getElem?_eq_getElem h)]
theorem wrap_nat (i : Nat) (h : i < 9223372036854775807) : wrap64 ((i : Int) + 1) = ((i + 1 : Nat) : Int) := by rw [wrap_succ (by omega) (by omega)]; rfl
def inB (l : List Int) (v : Int) : Bool := l.any (fun x => x == v)
theorem In_loop (l : List Int) (hl : l.length ≤ 9223372036854775807) (v : Int) : ∀ d i : Nat, l.length = i + d → Ev (fun k => arboristref01_In.l0 k l v (i : Int)) (inB (l.drop i) v) := by
  intro d
  induction d with
  | zero =>
    intro i h
    refine Ev.step (f := fun _ => some (inB (l.drop i) v)) (fun k => ?_) (Ev.now _)
    simp only [arboristref01_In.l0]
    rw [if_neg (by omega), List.drop_eq_nil_of_le (by omega)]
    rfl
  | succ d ih =>
    intro i h
    have hi : i < l.length := by omega
    by_cases e : rd l (i : Int) = v
    · refine Ev.step (f := fun _ => some (inB (l.drop i) v)) (fun k => ?_) (Ev.now _)
      simp only [arboristref01_In.l0]
      rw [if_pos (by omega), if_pos (by omega), if_pos e, drop_at l i hi]
      simp [inB, e]
    · refine Ev.step (f := fun k => arboristref01_In.l0 k l v ((i + 1 : Nat) : Int)) (fun k => ?_) ?_
      · simp only [arboristref01_In.l0]
        rw [if_pos (by omega), if_pos (by omega), if_neg e, wrap_nat i (by omega)]
      · have := ih (i + 1) (by omega)
        rw [drop_at l i hi]
        have e2 : (rd l (i : Int) == v) = false := by simpa using e
        simpa [inB, e2] using this
theorem In_ev (l : List Int) (hl : l.length ≤ 9223372036854775807) (v : Int) : Ev (fun k => arboristref01_In.f k l v) (inB l v) := by
  have := In_loop l hl v l.length 0 (by omega)
  simpa [arboristref01_In.f] using this
def withoutL (a b : List Int) : List Int := a.filter (fun x => !inB b x)
def meetL (a b : List Int) : List Int := a.filter (fun x => inB b x)
theorem Without_loop (a b : List Int) (ha : a.length < 17592186044416) (hb : b.length ≤ 9223372036854775807) : ∀ (d i : Nat) (out : List Int), a.length = i + d → out.length ≤ i → Ev (fun k => arboristref01_Without.l0 k a b out (i : Int)) (out ++ withoutL (a.drop i) b) := by
  intro d
  induction d with
  | zero =>
    intro i out h ho
    refine Ev.step (f := fun _ => some (out ++ withoutL (a.drop i) b)) (fun k => ?_) (Ev.now _)
    simp only [arboristref01_Without.l0]
    rw [if_neg (by omega), List.drop_eq_nil_of_le (by omega)]
    simp [withoutL]
  | succ d ih =>
    intro i out h ho
    have hi : i < a.length := by omega
    refine Ev.step (f := fun k => (arboristref01_In.f k b (rd a (i : Int))).bind fun t => if t = true then arboristref01_Without.l0 k a b out ((i + 1 : Nat) : Int) else if out.length < 17592186044416 then arboristref01_Without.l0 k a b (out ++ [rd a (i : Int)]) ((i + 1 : Nat) : Int) else none) (fun k => ?_) ?_
    · simp only [arboristref01_Without.l0]
      rw [if_pos (by omega), if_pos (by omega), wrap_nat i (by omega)]
    · refine Ev.bind (In_ev b hb _) ?_
      rw [drop_at a i hi]
      cases hc : inB b (rd a (i : Int)) with
      | true =>
        have := ih (i + 1) out (by omega) (by omega)
        simpa [withoutL, hc] using this
      | false =>
        have := ih (i + 1) (out ++ [rd a (i : Int)]) (by omega) (by simp; omega)
        have hlt : out.length < 17592186044416 := by omega
        simpa [withoutL, hc, hlt] using this
theorem Without_ev (a b : List Int) (ha : a.length < 17592186044416) (hb : b.length ≤ 9223372036854775807) : Ev (fun k => arboristref01_Without.f k a b) (withoutL a b) := by
  have := Without_loop a b ha hb a.length 0 [] (by omega) (by simp)
  simpa [arboristref01_Without.f] using this
def withinR (a b : List Int) : Bool := ((withoutL a b).length : Int) == 0
theorem Within_ev (a b : List Int) (ha : a.length < 17592186044416) (hb : b.length ≤ 9223372036854775807) : Ev (fun k => arboristref01_Within.f k a b) (withinR a b) := by
  refine Ev.congr (f := fun k => (arboristref01_Without.f k a b).bind fun t => some ((t.length : Int) == 0)) (fun k => rfl) ?_
  exact Ev.bind (f := fun _ (t : List Int) => some ((t.length : Int) == 0)) (Without_ev a b ha hb) (Ev.now _)
theorem withinR_iff (a b : List Int) : withinR a b = true ↔ ∀ x ∈ a, x ∈ b := by
  unfold withinR withoutL
  simp only [beq_iff_eq]
  constructor
  · intro h x hx
    have h2 : (a.filter (fun x => !inB b x)) = [] := List.eq_nil_of_length_eq_zero (by omega)
    have := List.filter_eq_nil_iff.1 h2 x hx
    simp [inB] at this
    exact this
  · intro h
    have : (a.filter (fun x => !inB b x)) = [] := List.filter_eq_nil_iff.2 (fun x hx => by simp [inB]; exact h x hx)
    simp [this]
def cmpL : List Int → List Int → Int
  | [], [] => 0
  | [], _ :: _ => -1
  | _ :: _, [] => 1
  | a :: l, b :: m => if a < b then -1 else if b < a then 1 else cmpL l m
theorem Compare_loop (a b : List Int) (ha : a.length ≤ 9223372036854775807) (hb : b.length ≤ 9223372036854775807) : ∀ (d i : Nat), a.length = i + d → i ≤ b.length → a.take i = b.take i → Ev (fun k => arboristref01_Compare.l0 k a b (i : Int)) (cmpL (a.drop i) (b.drop i)) := by
  intro d
  induction d with
  | zero =>
    intro i h hb2 he
    refine Ev.step (f := fun k => arboristref01_Compare.j1 k a b (i : Int) false) (fun k => ?_) ?_
    · simp only [arboristref01_Compare.l0]; rw [if_neg (by omega)]
    · refine Ev.step (f := fun _ => some (cmpL (a.drop i) (b.drop i))) (fun k => ?_) (Ev.now _)
      simp only [arboristref01_Compare.j1]
      rw [if_neg (by simp), List.drop_eq_nil_of_le (by omega)]
      by_cases hlt : i < b.length
      · rw [if_pos (by omega), drop_at b i hlt]; rfl
      · rw [if_neg (by omega), if_neg (by omega), List.drop_eq_nil_of_le (by omega)]; rfl
  | succ d ih =>
    intro i h hb2 he
    have hi : i < a.length := by omega
    by_cases hlt : i < b.length
    · refine Ev.step (f := fun k => arboristref01_Compare.j1 k a b (i : Int) true) (fun k => ?_) ?_
      · simp only [arboristref01_Compare.l0]; rw [if_pos (by omega), show decide ((i : Int) < (b.length : Int)) = true from decide_eq_true (by omega)]
      · rw [drop_at a i hi, drop_at b i hlt]
        by_cases h1 : rd a (i : Int) < rd b (i : Int)
        · refine Ev.step (f := fun _ => some (-1)) (fun k => ?_) (by simp only [cmpL, if_pos h1]; exact Ev.now _)
          simp only [arboristref01_Compare.j1]
          rw [if_pos trivial, if_pos (by omega), if_pos (by omega), if_pos (by omega), if_pos h1]
        · by_cases h2 : rd b (i : Int) < rd a (i : Int)
          · refine Ev.step (f := fun _ => some 1) (fun k => ?_) (by simp only [cmpL, if_neg h1, if_pos h2]; exact Ev.now _)
            simp only [arboristref01_Compare.j1]
            rw [if_pos trivial, if_pos (by omega), if_pos (by omega), if_pos (by omega), if_neg h1, if_pos h2]
          · refine Ev.step (f := fun k => arboristref01_Compare.l0 k a b ((i + 1 : Nat) : Int)) (fun k => ?_) ?_
            · simp only [arboristref01_Compare.j1]
              rw [if_pos trivial, if_pos (by omega), if_pos (by omega), if_pos (by omega), if_neg h1, if_neg (by omega), wrap_nat i (by omega)]
            · simp only [cmpL, if_neg h1, if_neg h2]
              refine ih (i + 1) (by omega) (by omega) ?_
              have e1 := rd_nat a i _ (List.getElem?_eq_getElem hi)
              have e2 := rd_nat b i _ (List.getElem?_eq_getElem hlt)
              rw [List.take_succ_eq_append_getElem hi, List.take_succ_eq_append_getElem hlt, he]
              have : a[i] = b[i] := by omega
              rw [this]
    · refine Ev.step (f := fun k => arboristref01_Compare.j1 k a b (i : Int) false) (fun k => ?_) ?_
      · simp only [arboristref01_Compare.l0]; rw [if_pos (by omega), show decide ((i : Int) < (b.length : Int)) = false from decide_eq_false (by omega)]
      · refine Ev.step (f := fun _ => some (cmpL (a.drop i) (b.drop i))) (fun k => ?_) (Ev.now _)
        simp only [arboristref01_Compare.j1]
        rw [if_neg (by simp), if_neg (by omega), if_pos (by omega), drop_at a i hi, show b.drop i = [] from List.drop_eq_nil_of_le (by omega)]
        rfl
theorem Compare_ev (a b : List Int) (ha : a.length ≤ 9223372036854775807) (hb : b.length ≤ 9223372036854775807) : Ev (fun k => arboristref01_Compare.f k a b) (cmpL a b) := by
  have := Compare_loop a b ha hb a.length 0 (by omega) (by omega) rfl
  simpa [arboristref01_Compare.f] using this
def uniteL : List Int → List Int → List Int
  | [], r => r
  | a :: l, [] => a :: l
  | a :: l, m :: r => if a < m then a :: uniteL l (m :: r) else m :: uniteL (a :: l) r
termination_by a b => a.length + b.length
theorem uniteL_nil (a : List Int) : uniteL a [] = a := by cases a <;> simp [uniteL]
theorem Unite_loop (a m : List Int) (hl : a.length + m.length < 17592186044416) : ∀ (d i j : Nat) (out : List Int), a.length + m.length = i + j + d → i ≤ a.length → j ≤ m.length → out.length ≤ i + j → Ev (fun k => arboristref01_Unite.l0 k a out m (i : Int) (j : Int)) (out ++ uniteL (a.drop i) (m.drop j)) := by
  intro d
  induction d with
  | zero =>
    intro i j out h hi hj ho
    refine Ev.step (f := fun k => arboristref01_Unite.j1 k a out m (i : Int) (j : Int) false) (fun k => ?_) ?_
    · simp only [arboristref01_Unite.l0]
      rw [if_neg (by omega), show decide ((j : Int) < (m.length : Int)) = false from decide_eq_false (by omega)]
    · refine Ev.step (f := fun _ => some (out ++ uniteL (a.drop i) (m.drop j))) (fun k => ?_) (Ev.now _)
      simp only [arboristref01_Unite.j1]
      rw [if_neg (by simp), show a.drop i = [] from List.drop_eq_nil_of_le (by omega), show m.drop j = [] from List.drop_eq_nil_of_le (by omega)]
      simp [uniteL]
  | succ d ih =>
    intro i j out h hi hj ho
    refine Ev.step (f := fun k => arboristref01_Unite.j1 k a out m (i : Int) (j : Int) true) (fun k => ?_) ?_
    · simp only [arboristref01_Unite.l0]
      by_cases h1 : i < a.length
      · rw [if_pos (by omega)]
      · rw [if_neg (by omega), show decide ((j : Int) < (m.length : Int)) = true from decide_eq_true (by omega)]
    · have hlt : out.length < 17592186044416 := by omega
      have left : i < a.length → (j = m.length ∨ (j < m.length ∧ rd a (i : Int) < rd m (j : Int))) → Ev (fun k => arboristref01_Unite.l0 k a (out ++ [rd a (i : Int)]) m ((i + 1 : Nat) : Int) (j : Int)) (out ++ uniteL (a.drop i) (m.drop j)) := by
        intro h1 h2
        have := ih (i + 1) j (out ++ [rd a (i : Int)]) (by omega) (by omega) hj (by simp; omega)
        rw [drop_at a i h1]
        rcases h2 with h2 | ⟨h2, h3⟩
        · rw [show m.drop j = [] from List.drop_eq_nil_of_le (by omega)] at this ⊢
          simpa [uniteL, uniteL_nil] using this
        · rw [drop_at m j h2] at this ⊢
          rw [uniteL, if_pos h3]
          simpa using this
      have right : j < m.length → (i = a.length ∨ (i < a.length ∧ ¬ rd a (i : Int) < rd m (j : Int))) → Ev (fun k => arboristref01_Unite.l0 k a (out ++ [rd m (j : Int)]) m (i : Int) ((j + 1 : Nat) : Int)) (out ++ uniteL (a.drop i) (m.drop j)) := by
        intro h1 h2
        have := ih i (j + 1) (out ++ [rd m (j : Int)]) (by omega) hi (by omega) (by simp; omega)
        rw [drop_at m j h1]
        rcases h2 with h2 | ⟨h2, h3⟩
        · rw [show a.drop i = [] from List.drop_eq_nil_of_le (by omega)] at this ⊢
          simpa [uniteL] using this
        · rw [drop_at a i h2] at this ⊢
          rw [uniteL, if_neg h3]
          simpa using this
      by_cases h1 : j = m.length
      · refine Ev.step (f := fun k => arboristref01_Unite.l0 k a (out ++ [rd a (i : Int)]) m ((i + 1 : Nat) : Int) (j : Int)) (fun k => ?_) (left (by omega) (.inl h1))
        simp only [arboristref01_Unite.j1]
        rw [if_pos trivial, if_pos (by omega), if_pos (by omega), if_pos (by omega), if_pos hlt, wrap_nat i (by omega)]
      · by_cases h2 : i < a.length
        · by_cases h3 : rd a (i : Int) < rd m (j : Int)
          · refine Ev.step (f := fun k => arboristref01_Unite.l0 k a (out ++ [rd a (i : Int)]) m ((i + 1 : Nat) : Int) (j : Int)) (fun k => ?_) (left h2 (.inr ⟨by omega, h3⟩))
            simp only [arboristref01_Unite.j1]
            rw [if_pos trivial, if_neg (by omega), if_pos (by omega), if_pos (by omega), if_pos (by omega), if_pos (by omega), if_pos h3, if_pos hlt, wrap_nat i (by omega)]
          · refine Ev.step (f := fun k => arboristref01_Unite.l0 k a (out ++ [rd m (j : Int)]) m (i : Int) ((j + 1 : Nat) : Int)) (fun k => ?_) (right (by omega) (.inr ⟨h2, h3⟩))
            simp only [arboristref01_Unite.j1]
            rw [if_pos trivial, if_neg (by omega), if_pos (by omega), if_pos (by omega), if_pos (by omega), if_pos (by omega), if_neg h3, if_pos hlt, wrap_nat j (by omega)]
        · refine Ev.step (f := fun k => arboristref01_Unite.l0 k a (out ++ [rd m (j : Int)]) m (i : Int) ((j + 1 : Nat) : Int)) (fun k => ?_) (right (by omega) (.inl (by omega)))
          simp only [arboristref01_Unite.j1]
          rw [if_pos trivial, if_neg (by omega), if_neg (by omega), if_pos (by omega), if_pos (by omega), if_pos hlt, wrap_nat j (by omega)]
theorem withoutL_len (a b : List Int) : (withoutL a b).length ≤ a.length := List.length_filter_le _ _
theorem Unite_ev (a b : List Int) (h : a.length + b.length < 17592186044416) : Ev (fun k => arboristref01_Unite.f k a b) (uniteL a (withoutL b a)) := by
  refine Ev.congr (f := fun k => (arboristref01_Without.f k b a).bind fun t => arboristref01_Unite.l0 k a ([] : List Int) t 0 0) (fun k => rfl) ?_
  have hw := withoutL_len b a
  refine Ev.bind (f := fun k (t : List Int) => arboristref01_Unite.l0 k a ([] : List Int) t 0 0) (Without_ev b a (by omega) (by omega)) ?_
  have := Unite_loop a (withoutL b a) (by omega) (a.length + (withoutL b a).length) 0 0 [] (by omega) (by omega) (by omega) (by simp)
  simpa using this
theorem cmpL_self : ∀ a : List Int, cmpL a a = 0
  | [] => rfl
  | a :: l => by simp [cmpL, cmpL_self l]
theorem cmpL_eq : ∀ a b : List Int, cmpL a b = 0 ↔ a = b
  | [], [] => by simp [cmpL]
  | [], _ :: _ => by simp [cmpL]
  | _ :: _, [] => by simp [cmpL]
  | a :: l, b :: m => by
    simp only [cmpL]
    split
    · simp; intro e; omega
    · split
      · simp; intro e; omega
      · rw [cmpL_eq l m]; simp; intro _; omega

end Go.Proofs.Ytlnmgljiggebiaa.Pr

set_option linter.unusedVariables false
set_option linter.unusedSimpArgs false
namespace Go.Proofs.Ytlnmgljiggebiaa.Pr
open Go.RowKit Go.Proofs.YtlnmgljiggebiaaW.PrintWords Go.Proofs.YtlnmgljiggebiaaW.PrintLast

def Rise (l : List Int) : Prop := l.Pairwise (· < ·)
theorem rise_ext : ∀ (a b : List Int), Rise a → Rise b → (∀ x, x ∈ a ↔ x ∈ b) → a = b
  | [], [], _, _, _ => rfl
  | [], y :: m, _, _, h => absurd ((h y).2 (by simp)) (by simp)
  | x :: l, [], _, _, h => absurd ((h x).1 (by simp)) (by simp)
  | x :: l, y :: m, ha, hb, h => by
    obtain ⟨a1, a2⟩ := List.pairwise_cons.1 ha
    obtain ⟨b1, b2⟩ := List.pairwise_cons.1 hb
    have e : x = y := by
      have h1 := (h x).1 (by simp)
      have h2 := (h y).2 (by simp)
      rcases List.mem_cons.1 h1 with h1 | h1
      · exact h1
      · rcases List.mem_cons.1 h2 with h2 | h2
        · exact h2.symm
        · have := a1 y h2
          have := b1 x h1
          omega
    subst e
    congr 1
    refine rise_ext l m a2 b2 (fun z => ?_)
    have hz := h z
    simp only [List.mem_cons] at hz
    constructor
    · intro hl
      have := a1 z hl
      rcases hz.1 (.inr hl) with h | h
      · omega
      · exact h
    · intro hm
      have := b1 z hm
      rcases hz.2 (.inr hm) with h | h
      · omega
      · exact h
theorem keep_mem (f : Bool) (y : Int) (R : List Int) (x : Int) : x ∈ keepL f y R ↔ (f = true ∧ x = y) ∨ x ∈ R := by
  unfold keepL
  cases f <;> simp
theorem keep_rise (f : Bool) (y : Int) (R : List Int) (h : Rise R) (hy : ∀ x ∈ R, y < x) : Rise (keepL f y R) := by
  unfold keepL
  cases f
  · exact h
  · exact List.pairwise_cons.2 ⟨hy, h⟩
theorem merge_spec (f b s : Bool) : ∀ (n : Nat) (a c : List Int), a.length + c.length = n → Rise a → Rise c →
    (∀ x, x ∈ mergeL f b s a c ↔ (f = true ∧ x ∈ a ∧ x ∉ c) ∨ (b = true ∧ x ∈ a ∧ x ∈ c) ∨ (s = true ∧ x ∈ c ∧ x ∉ a)) ∧ Rise (mergeL f b s a c) := by
  intro n
  induction n using Nat.strongRecOn with
  | _ n ih =>
    intro a c h ha hc
    match a, c with
    | [], [] => simp [mergeL_nn, Rise]
    | y :: l, [] =>
      rw [mergeL_cn]
      obtain ⟨a1, a2⟩ := List.pairwise_cons.1 ha
      obtain ⟨i1, i2⟩ := ih l.length (by simp at h; omega) l [] (by simp) a2 hc
      refine ⟨fun x => ?_, keep_rise f y _ i2 (fun x hx => ?_)⟩
      · rw [keep_mem, i1]
        simp
        grind
      · have := (i1 x).1 hx
        simp at this
        exact a1 x this.2
    | [], z :: m =>
      rw [mergeL_nc]
      obtain ⟨a1, a2⟩ := List.pairwise_cons.1 hc
      obtain ⟨i1, i2⟩ := ih m.length (by simp at h; omega) [] m (by simp) ha a2
      refine ⟨fun x => ?_, keep_rise s z _ i2 (fun x hx => ?_)⟩
      · rw [keep_mem, i1]
        simp
        grind
      · have := (i1 x).1 hx
        simp at this
        exact a1 x this.2
    | y :: l, z :: m =>
      rw [mergeL_cc]
      obtain ⟨a1, a2⟩ := List.pairwise_cons.1 ha
      obtain ⟨b1, b2⟩ := List.pairwise_cons.1 hc
      by_cases h1 : y < z
      · rw [if_pos h1]
        obtain ⟨i1, i2⟩ := ih (l.length + (m.length + 1)) (by simp at h; omega) l (z :: m) (by simp) a2 hc
        have n1 : y ∉ z :: m := fun hm => by
          rcases List.mem_cons.1 hm with hm | hm
          · omega
          · have := b1 y hm; omega
        have n2 : y ∉ l := fun hm => by have := a1 y hm; omega
        refine ⟨fun x => ?_, keep_rise f y _ i2 (fun x hx => ?_)⟩
        · rw [keep_mem, i1]
          by_cases e : x = y
          · subst e
            simp [n1, n2]
          · simp only [List.mem_cons, e, false_or, and_false, not_or]
        · rcases (i1 x).1 hx with h | h | h
          · exact a1 x h.2.1
          · exact a1 x h.2.1
          · rcases List.mem_cons.1 h.2.1 with h | h
            · omega
            · have := b1 x h; omega
      · rw [if_neg h1]
        by_cases h2 : z < y
        · rw [if_pos h2]
          obtain ⟨i1, i2⟩ := ih (l.length + 1 + m.length) (by simp at h; omega) (y :: l) m (by simp) ha b2
          have n1 : z ∉ y :: l := fun hm => by
            rcases List.mem_cons.1 hm with hm | hm
            · omega
            · have := a1 z hm; omega
          have n2 : z ∉ m := fun hm => by have := b1 z hm; omega
          refine ⟨fun x => ?_, keep_rise s z _ i2 (fun x hx => ?_)⟩
          · rw [keep_mem, i1]
            by_cases e : x = z
            · subst e
              simp [n1, n2]
            · simp only [List.mem_cons, e, false_or, and_false, not_or]
          · rcases (i1 x).1 hx with h | h | h
            · rcases List.mem_cons.1 h.2.1 with h | h
              · omega
              · have := a1 x h; omega
            · exact b1 x h.2.2
            · exact b1 x h.2.1
        · rw [if_neg h2]
          have e : y = z := by omega
          subst e
          obtain ⟨i1, i2⟩ := ih (l.length + m.length) (by simp at h; omega) l m rfl a2 b2
          have n1 : y ∉ l := fun hm => by have := a1 y hm; omega
          have n2 : y ∉ m := fun hm => by have := b1 y hm; omega
          refine ⟨fun x => ?_, keep_rise b y _ i2 (fun x hx => ?_)⟩
          · rw [keep_mem, i1]
            by_cases e : x = y
            · subst e
              simp [n1, n2]
            · simp only [List.mem_cons, e, false_or, and_false, not_or]
          · rcases (i1 x).1 hx with h | h | h
            · exact a1 x h.2.1
            · exact a1 x h.2.1
            · exact b1 x h.2.1
def unT (a c : List Int) : List Int := mergeL true true true a c
def meT (a c : List Int) : List Int := mergeL false true false a c
def wiT (a c : List Int) : List Int := mergeL true false false a c
theorem unT_spec {a c : List Int} (ha : Rise a) (hc : Rise c) : (∀ x, x ∈ unT a c ↔ x ∈ a ∨ x ∈ c) ∧ Rise (unT a c) := by
  obtain ⟨h1, h2⟩ := merge_spec true true true _ a c rfl ha hc
  refine ⟨fun x => ?_, h2⟩
  unfold unT
  rw [h1]
  by_cases p : x ∈ a <;> by_cases q : x ∈ c <;> simp [p, q]
theorem meT_spec {a c : List Int} (ha : Rise a) (hc : Rise c) : (∀ x, x ∈ meT a c ↔ x ∈ a ∧ x ∈ c) ∧ Rise (meT a c) := by
  obtain ⟨h1, h2⟩ := merge_spec false true false _ a c rfl ha hc
  refine ⟨fun x => ?_, h2⟩
  unfold meT
  rw [h1]
  by_cases p : x ∈ a <;> by_cases q : x ∈ c <;> simp [p, q]
theorem wiT_spec {a c : List Int} (ha : Rise a) (hc : Rise c) : (∀ x, x ∈ wiT a c ↔ x ∈ a ∧ x ∉ c) ∧ Rise (wiT a c) := by
  obtain ⟨h1, h2⟩ := merge_spec true false false _ a c rfl ha hc
  refine ⟨fun x => ?_, h2⟩
  unfold wiT
  rw [h1]
  by_cases p : x ∈ a <;> by_cases q : x ∈ c <;> simp [p, q]
theorem un_f (a c : List Int) (h : a.length + c.length < 17592186044416) : tuple_Unite.f a c = some (unT a c) := by
  unfold tuple_Unite.f tuple_merge.f
  rw [if_pos h]; rfl
theorem me_f (a c : List Int) (h : a.length + c.length < 17592186044416) : tuple_Meet.f a c = some (meT a c) := by
  unfold tuple_Meet.f tuple_merge.f
  rw [if_pos h]; rfl
theorem wi_f (a c : List Int) (h : a.length + c.length < 17592186044416) : tuple_Without.f a c = some (wiT a c) := by
  unfold tuple_Without.f tuple_merge.f
  rw [if_pos h]; rfl
theorem in_f (a c : List Int) (h : a.length + c.length < 17592186044416) : tuple_Within.f a c = some (((wiT a c).length : Int) == 0) := by
  unfold tuple_Within.f
  rw [wi_f a c h]; rfl
theorem len_T (f b s : Bool) (a c : List Int) : (mergeL f b s a c).length ≤ a.length + c.length := mergeL_len f b s _ a c rfl
end Go.Proofs.Ytlnmgljiggebiaa.Pr

set_option linter.unusedVariables false
set_option linter.unusedSimpArgs false
namespace Go.Proofs.Ytlnmgljiggebiaa.Pr
open Go.RowKit Go.Proofs.YtlnmgljiggebiaaW.PrintWords Go.Proofs.YtlnmgljiggebiaaW.PrintLast

theorem inB_iff (l : List Int) (v : Int) : inB l v = true ↔ v ∈ l := by simp [inB]
/-- united with one number -/
theorem one_spec : ∀ (a : List Int) (v : Int), Rise a → v ∉ a → (∀ x, x ∈ uniteL a [v] ↔ x ∈ a ∨ x = v) ∧ Rise (uniteL a [v])
  | [], v, _, _ => by simp [uniteL, Rise]
  | y :: l, v, h, hn => by
    obtain ⟨h1, h2⟩ := List.pairwise_cons.1 h
    rw [uniteL]
    simp only [List.mem_cons, not_or] at hn
    split
    · rename_i hc
      obtain ⟨i1, i2⟩ := one_spec l v h2 hn.2
      refine ⟨fun x => ?_, List.pairwise_cons.2 ⟨fun x hx => ?_, i2⟩⟩
      · rw [List.mem_cons, i1, List.mem_cons]
        constructor <;> (intro h; grind)
      · rcases (i1 x).1 hx with hx | rfl
        · exact h1 x hx
        · omega
    · rename_i hc
      rw [uniteL_nil]
      refine ⟨fun x => ?_, List.pairwise_cons.2 ⟨fun x hx => ?_, h⟩⟩
      · simp only [List.mem_cons]
        constructor <;> (intro h; grind)
      · rcases List.mem_cons.1 hx with rfl | hx
        · omega
        · have := h1 x hx; omega
theorem add_spec (a : List Int) (v : Int) (h : Rise a) : (∀ x, x ∈ uniteL a (withoutL [v] a) ↔ x ∈ a ∨ x = v) ∧ Rise (uniteL a (withoutL [v] a)) ∧ (uniteL a (withoutL [v] a)).length ≤ a.length + 1 := by
  by_cases hv : v ∈ a
  · have e : withoutL [v] a = [] := by simp [withoutL, inB_iff, (inB_iff a v).2 hv]
    rw [e, uniteL_nil]
    refine ⟨fun x => ⟨.inl, fun hx => ?_⟩, h, by omega⟩
    rcases hx with hx | rfl
    · exact hx
    · exact hv
  · have hb : inB a v = false := by
      cases hc : inB a v
      · rfl
      · exact absurd ((inB_iff a v).1 hc) hv
    have e : withoutL [v] a = [v] := by simp [withoutL, hb]
    rw [e]
    obtain ⟨h1, h2⟩ := one_spec a v h hv
    refine ⟨h1, h2, ?_⟩
    have : ∀ (a : List Int) (v : Int), (uniteL a [v]).length ≤ a.length + 1 := by
      intro a
      induction a with
      | nil => intro v; simp [uniteL]
      | cons y l ih =>
        intro v
        rw [uniteL]
        split
        · simp only [List.length_cons]
          have := ih v
          omega
        · rw [uniteL_nil]; simp
    exact this a v
def riseT (l : List Int) : List Int := (l.take 60).foldl (fun a v => uniteL a (withoutL [v] a)) []
theorem rise_loop (l : List Int) (hl : l.length < 9223372036854775807) : ∀ (d i : Nat) (out : List Int), i + d = min l.length 60 → Rise out → out.length ≤ i → Ev (fun k => arboristlaw01_rise.l0 k l out (i : Int)) (((l.take 60).drop i).foldl (fun a v => uniteL a (withoutL [v] a)) out)
  | 0, i, out, h, _, _ => by
    rw [List.drop_eq_nil_of_le (by simp; omega)]
    refine evs0 (fun k => ?_)
    rw [arboristlaw01_rise.l0]
    by_cases h1 : (i : Int) < (l.length : Int)
    · rw [if_pos h1, if_neg (by omega)]; rfl
    · rw [if_neg h1]; rfl
  | d + 1, i, out, h, hr, hn => by
    have hi : i < (l.take 60).length := by simp; omega
    have hil : i < l.length := by omega
    rw [drop_at _ i hi, List.foldl_cons]
    have e : rd (l.take 60) (i : Int) = rd l (i : Int) := by
      rw [rd_nat l i _ (List.getElem?_eq_getElem hil)]
      exact rd_nat _ i _ (by rw [List.getElem?_take_of_lt (by omega)]; exact List.getElem?_eq_getElem hil)
    rw [e]
    obtain ⟨_, s2, s3⟩ := add_spec out (rd l (i : Int)) hr
    refine evs2 (Unite_ev out [rd l (i : Int)] (by simp; omega)) (rise_loop l hl d (i + 1) _ (by omega) s2 (by omega)) (fun k e1 e2 => ?_)
    rw [arboristlaw01_rise.l0, if_pos (by omega), if_pos (by omega), if_pos (by omega), e1, Option.bind_some, wrap_nat i (by omega)]
    exact e2
theorem rise_spec (l : List Int) : ∀ (out : List Int), Rise out → Rise (l.foldl (fun a v => uniteL a (withoutL [v] a)) out) ∧ (l.foldl (fun a v => uniteL a (withoutL [v] a)) out).length ≤ out.length + l.length := by
  induction l with
  | nil => intro out h; exact ⟨h, by simp⟩
  | cons v l ih =>
    intro out h
    obtain ⟨_, s2, s3⟩ := add_spec out v h
    obtain ⟨i1, i2⟩ := ih _ s2
    refine ⟨i1, ?_⟩
    rw [List.foldl_cons, List.length_cons]
    omega
theorem rise_ev (l : List Int) (hl : l.length < 9223372036854775807) : Ev (fun k => arboristlaw01_rise.f k l) (riseT l) := rise_loop l hl (min l.length 60) 0 [] (by omega) List.Pairwise.nil (by simp)
theorem riseT_rise (l : List Int) : Rise (riseT l) := (rise_spec _ [] List.Pairwise.nil).1
theorem riseT_len (l : List Int) : (riseT l).length ≤ 60 := by
  have := (rise_spec (l.take 60) [] List.Pairwise.nil).2
  simp at this
  unfold riseT
  omega
end Go.Proofs.Ytlnmgljiggebiaa.Pr

set_option linter.unusedVariables false
set_option linter.unusedSimpArgs false
namespace Go.Proofs.Ytlnmgljiggebiaa.Pure
open Go.RowKit Go.Proofs.Ytlnmgljiggebiaa.Pr Go.Proofs.YtlnmgljiggebiaaW.PrintWords Go.Proofs.YtlnmgljiggebiaaW.PrintLast

theorem Meet_loop (a b : List Int) (ha : a.length < 17592186044416) (hb : b.length ≤ 9223372036854775807) : ∀ (d i : Nat) (out : List Int), a.length = i + d → out.length ≤ i → Ev (fun k => arboristref01_Meet.l0 k a b out (i : Int)) (out ++ meetL (a.drop i) b) := by
  intro d
  induction d with
  | zero =>
    intro i out h ho
    refine Ev.step (f := fun _ => some (out ++ meetL (a.drop i) b)) (fun k => ?_) (Ev.now _)
    simp only [arboristref01_Meet.l0]
    rw [if_neg (by omega), List.drop_eq_nil_of_le (by omega)]
    simp [meetL]
  | succ d ih =>
    intro i out h ho
    have hi : i < a.length := by omega
    refine Ev.step (f := fun k => (arboristref01_In.f k b (rd a (i : Int))).bind fun t => if t = true then (if out.length < 17592186044416 then arboristref01_Meet.l0 k a b (out ++ [rd a (i : Int)]) ((i + 1 : Nat) : Int) else none) else arboristref01_Meet.l0 k a b out ((i + 1 : Nat) : Int)) (fun k => ?_) ?_
    · simp only [arboristref01_Meet.l0]
      rw [if_pos (by omega), if_pos (by omega), wrap_nat i (by omega)]
    · refine Ev.bind (In_ev b hb _) ?_
      rw [drop_at a i hi]
      cases hc : inB b (rd a (i : Int)) with
      | false =>
        have := ih (i + 1) out (by omega) (by omega)
        simpa [meetL, hc] using this
      | true =>
        have := ih (i + 1) (out ++ [rd a (i : Int)]) (by omega) (by simp; omega)
        have hlt : out.length < 17592186044416 := by omega
        simpa [meetL, hc, hlt] using this
theorem Meet_ev (a b : List Int) (ha : a.length < 17592186044416) (hb : b.length ≤ 9223372036854775807) : Ev (fun k => arboristref01_Meet.f k a b) (meetL a b) := by
  have := Meet_loop a b ha hb a.length 0 [] (by omega) (by simp)
  simpa [arboristref01_Meet.f] using this
theorem uniteL_mem (a m : List Int) (x : Int) : x ∈ uniteL a m ↔ x ∈ a ∨ x ∈ m := by
  fun_induction uniteL a m with
  | case1 r => simp
  | case2 a l => simp
  | case3 a l m r h ih => simp only [List.mem_cons, ih]; clear h; grind
  | case4 a l m r h ih => simp only [List.mem_cons, ih]; clear h; grind
theorem uniteL_rise (a m : List Int) : a.Pairwise (· < ·) → m.Pairwise (· < ·) → (∀ x ∈ m, x ∉ a) → (uniteL a m).Pairwise (· < ·) := by
  fun_induction uniteL a m with
  | case1 r => intro _ h _; exact h
  | case2 a l => intro h _ _; exact h
  | case3 a l m r h ih =>
    intro ha hb hd
    obtain ⟨ha1, ha2⟩ := List.pairwise_cons.1 ha
    obtain ⟨hb1, hb2⟩ := List.pairwise_cons.1 hb
    refine List.pairwise_cons.2 ⟨fun x hx => ?_, ih ha2 hb (fun x hx hc => hd x hx (List.mem_cons_of_mem _ hc))⟩
    rcases (uniteL_mem _ _ _).1 hx with hx | hx
    · exact ha1 x hx
    · rcases List.mem_cons.1 hx with rfl | hx
      · exact h
      · have := hb1 x hx; omega
  | case4 a l m r h ih =>
    intro ha hb hd
    obtain ⟨ha1, ha2⟩ := List.pairwise_cons.1 ha
    obtain ⟨hb1, hb2⟩ := List.pairwise_cons.1 hb
    have hne : m ≠ a := fun e => hd m (by simp) (by simp [e])
    refine List.pairwise_cons.2 ⟨fun x hx => ?_, ih ha hb2 (fun x hx => hd x (List.mem_cons_of_mem _ hx))⟩
    rcases (uniteL_mem _ _ _).1 hx with hx | hx
    · rcases List.mem_cons.1 hx with rfl | hx
      · omega
      · have := ha1 x hx; omega
    · exact hb1 x hx
theorem lenT (f b s : Bool) {a c : List Int} {n m : Nat} (ha : a.length ≤ n) (hc : c.length ≤ m) : (mergeL f b s a c).length ≤ n + m := Nat.le_trans (len_T f b s a c) (Nat.add_le_add ha hc)
theorem mem_withoutL (a b : List Int) (x : Int) : x ∈ withoutL a b ↔ x ∈ a ∧ x ∉ b := by
  unfold withoutL
  rw [List.mem_filter]
  have := inB_iff b x
  cases h : inB b x <;> simp [h] at this ⊢ <;> simp [this]
theorem mem_meetL (a b : List Int) (x : Int) : x ∈ meetL a b ↔ x ∈ a ∧ x ∈ b := by
  unfold meetL
  rw [List.mem_filter, inB_iff]
theorem rise_withoutL {a : List Int} (b : List Int) (h : Rise a) : Rise (withoutL a b) := List.Pairwise.sublist List.filter_sublist h
theorem same_un {a b : List Int} (ha : Rise a) (hb : Rise b) : unT a b = uniteL a (withoutL b a) := by
  obtain ⟨h1, h2⟩ := unT_spec ha hb
  refine rise_ext _ _ h2 (uniteL_rise _ _ ha (rise_withoutL a hb) (fun x hx => ((mem_withoutL b a x).1 hx).2)) (fun x => ?_)
  rw [h1, uniteL_mem, mem_withoutL]
  by_cases p : x ∈ a <;> simp [p]
theorem same_me {a b : List Int} (ha : Rise a) (hb : Rise b) : meT a b = meetL a b := by
  obtain ⟨h1, h2⟩ := meT_spec ha hb
  exact rise_ext _ _ h2 (List.Pairwise.sublist List.filter_sublist ha) (fun x => by rw [h1, mem_meetL])
theorem same_wi {a b : List Int} (ha : Rise a) (hb : Rise b) : wiT a b = withoutL a b := by
  obtain ⟨h1, h2⟩ := wiT_spec ha hb
  exact rise_ext _ _ h2 (rise_withoutL b ha) (fun x => by rw [h1, mem_withoutL])
theorem both_rising (l : List Int) (hl : l.length < 9223372036854775807) : ∀ (d i : Nat), 1 ≤ i → l.length + 1 = i + d → ∃ v : Bool, (Rise l → v = true) ∧ Ev (fun k => tuple_Rising.l0 k l (i : Int)) v ∧ Ev (fun k => arboristref01_Rising.l0 k l (i : Int)) v
  | 0, i, h0, h => by
    refine ⟨true, fun _ => rfl, evs0 (fun k => ?_), evs0 (fun k => ?_)⟩
    · rw [tuple_Rising.l0, if_neg (by omega)]
    · rw [arboristref01_Rising.l0, if_neg (by omega)]
  | d + 1, i, h0, h => by
    by_cases hi : i < l.length
    · obtain ⟨v, v0, v1, v2⟩ := both_rising l hl d (i + 1) (by omega) (by omega)
      have hw : wrap64 ((i : Int) - 1) = ((i - 1 : Nat) : Int) := by rw [wrap_id (by omega) (by omega)]; omega
      have hr : Rise l → ¬ rd l (i : Int) ≤ rd l ((i - 1 : Nat) : Int) := fun hr => by
        have hlt := List.pairwise_iff_getElem.1 hr (i - 1) i (by omega) hi (by omega)
        rw [rd_nat l i _ (List.getElem?_eq_getElem hi), rd_nat l (i - 1) _ (List.getElem?_eq_getElem (by omega))]
        omega
      by_cases hc : rd l (i : Int) ≤ rd l ((i - 1 : Nat) : Int)
      · refine ⟨false, fun h => absurd hc (hr h), evs0 (fun k => ?_), evs0 (fun k => ?_)⟩
        · rw [tuple_Rising.l0, hw, if_pos (by omega), if_pos (by omega), if_pos (by omega), if_pos (by omega), if_pos hc]
        · rw [arboristref01_Rising.l0, hw, if_pos (by omega), if_pos (by omega), if_pos (by omega), if_pos (by omega), if_pos hc]
      · refine ⟨v, v0, evs1 v1 (fun k e => ?_), evs1 v2 (fun k e => ?_)⟩
        · rw [tuple_Rising.l0, hw, if_pos (by omega), if_pos (by omega), if_pos (by omega), if_pos (by omega), if_neg hc, wrap_nat i (by omega)]
          exact e
        · rw [arboristref01_Rising.l0, hw, if_pos (by omega), if_pos (by omega), if_pos (by omega), if_pos (by omega), if_neg hc, wrap_nat i (by omega)]
          exact e
    · refine ⟨true, fun _ => rfl, evs0 (fun k => ?_), evs0 (fun k => ?_)⟩
      · rw [tuple_Rising.l0, if_neg (by omega)]
      · rw [arboristref01_Rising.l0, if_neg (by omega)]
theorem rising_both (l : List Int) (hl : l.length < 9223372036854775807) : ∃ v : Bool, (Rise l → v = true) ∧ Ev (fun k => tuple_Rising.f k l) v ∧ Ev (fun k => arboristref01_Rising.f k l) v := both_rising l hl l.length 1 (by omega) (by omega)
theorem sets_j (r a b : List Int) (hr : r.length ≤ 60) (ra : Rise a) (rb : Rise b) (la : a.length ≤ 60) (lb : b.length ≤ 60) : Ev (fun k => arboristlaw01_TupleSets.j0 k r true a b true) true := by
  obtain ⟨v, _, v1, v2⟩ := rising_both r (by omega)
  obtain ⟨u, u0, u1, _⟩ := rising_both a (by omega)
  rw [u0 ra] at u1
  have lw : (withoutL a b).length ≤ a.length := withoutL_len a b
  refine evs7 (Without_ev a b (by omega) (by omega)) (Compare_ev (withoutL a b) (withoutL a b) (by omega) (by omega)) (Within_ev a b (by omega) (by omega)) v1 v2 u1 shown_01 (fun k e1 e2 e3 e4 e5 e6 _ => ?_)
  rw [cmpL_self] at e2
  have hin : tuple_Within.f a b = some (withinR a b) := by
    rw [in_f a b (by omega), same_wi ra rb]
    rfl
  rw [arboristlaw01_TupleSets.j0, wi_f a b (by omega), same_wi ra rb, Option.bind_some, e1, Option.bind_some, e2, Option.bind_some, if_pos rfl, hin, Option.bind_some, e3, Option.bind_some, if_pos rfl, if_pos rfl, if_pos (by simp), e4, Option.bind_some, e5, Option.bind_some, if_pos (by simp), e6, Option.bind_some]
theorem TupleSets : arboristlaw01_TupleSets.Pure := by
  intro a b ha _ _ hb _ _
  have ea := rise_ev a (by unfold maxLen at ha; omega)
  have eb := rise_ev b (by unfold maxLen at hb; omega)
  have ra := riseT_rise a
  have rb := riseT_rise b
  have la := riseT_len a
  have lb := riseT_len b
  obtain ⟨A, hA⟩ : ∃ A, riseT a = A := ⟨_, rfl⟩
  obtain ⟨B, hB⟩ : ∃ B, riseT b = B := ⟨_, rfl⟩
  rw [hA] at ea ra la
  rw [hB] at eb rb lb
  obtain ⟨m1, m2, m3⟩ := mn_cut a 60
  rw [show ((60 : Nat) : Int) = 60 from rfl] at m1 m2 m3
  have lu : (unT A B).length ≤ 60 + 60 := lenT true true true la lb
  have lm : (meT A B).length ≤ 60 + 60 := lenT false true false la lb
  have l60 : (a.take 60).length ≤ 60 := by simp; omega
  rw [same_un ra rb] at lu
  rw [same_me ra rb] at lm
  refine (evu8 shown_01 ea eb (Unite_ev A B (by omega)) (Compare_ev (uniteL A (withoutL B A)) (uniteL A (withoutL B A)) (by omega) (by omega)) (Meet_ev A B (by omega) (by omega)) (Compare_ev (meetL A B) (meetL A B) (by omega) (by omega)) (sets_j (a.take 60) A B l60 ra rb la lb) (fun k e1 e2 e3 e4 e5 e6 e7 e8 => ?_)).rounds
  rw [cmpL_self] at e5 e7
  simp only [arboristlaw01_TupleSets.f]
  rw [e1, Option.bind_some, e2, Option.bind_some, e3, Option.bind_some, if_pos m1, if_pos m2, un_f A B (by omega), Option.bind_some, e4, Option.bind_some, same_un ra rb, e5, Option.bind_some, if_pos rfl, me_f A B (by omega), Option.bind_some, e6, Option.bind_some, same_me ra rb, e7, Option.bind_some, m3]
  exact e8
end Go.Proofs.Ytlnmgljiggebiaa.Pure
