/- TupleSame: sorted once more, or from the other end, it is the same. -/
-- merge
import Derived.Test.YtlnmgljiggebiaaPr0
import Derived.Test.YtlnmgljiggebiaaPr1
import Derived.Test.YtlnmgljiggebiaaPr10
import Derived.Test.YtlnmgljiggebiaaPr13
import Derived.Test.YtlnmgljiggebiaaPr14
import Derived.Test.YtlnmgljiggebiaaPr15
import Derived.Test.YtlnmgljiggebiaaPr17
import Derived.Test.YtlnmgljiggebiaaPr22
import Derived.Test.YtlnmgljiggebiaaPr24
import Derived.Test.YtlnmgljiggebiaaPr25
import Derived.Test.YtlnmgljiggebiaaPr26
import Derived.Test.YtlnmgljiggebiaaPr5
import Derived.Test.YtlnmgljiggebiaaPr8
import Derived.Test.YtlnmgljiggebiaaPr9
namespace Go.Proofs.Ytlnmgljiggebiaa.Pr
open Go.RowKit Go.Proofs.YtlnmgljiggebiaaW.PrintWords Go.Proofs.YtlnmgljiggebiaaW.PrintLast
theorem evs0 {ρ : Type} {F : Nat → Option ρ} {r : ρ} (H : ∀ k, F (k + 1) = some r) : Ev F r := ⟨1, fun k hk => by obtain ⟨m, rfl⟩ : ∃ m, k = m + 1 := ⟨k - 1, by omega⟩; exact H m⟩
theorem evu0 {ρ : Type} {F : Nat → Option ρ} {r : ρ} (H : ∀ k, F k = some r) : Ev F r := ⟨0, fun k _ => H k⟩
theorem evu1 {ρ : Type} {F : Nat → Option ρ} {r : ρ} {α1 : Type} {g1 : Nat → Option α1} {a1 : α1} (h1 : Ev g1 a1) (H : ∀ k, g1 k = some a1 → F k = some r) : Ev F r := by
  obtain ⟨K1, e1⟩ := h1
  exact ⟨K1, fun k hk => H k (e1 _ (by omega))⟩
theorem evs1 {ρ : Type} {F : Nat → Option ρ} {r : ρ} {α1 : Type} {g1 : Nat → Option α1} {a1 : α1} (h1 : Ev g1 a1) (H : ∀ k, g1 k = some a1 → F (k + 1) = some r) : Ev F r := by
  obtain ⟨K1, e1⟩ := h1
  refine ⟨K1 + 1, fun k hk => ?_⟩
  obtain ⟨m, rfl⟩ : ∃ m, k = m + 1 := ⟨k - 1, by omega⟩
  exact H m (e1 _ (by omega))
theorem evu2 {ρ : Type} {F : Nat → Option ρ} {r : ρ} {α1 : Type} {g1 : Nat → Option α1} {a1 : α1} {α2 : Type} {g2 : Nat → Option α2} {a2 : α2} (h1 : Ev g1 a1) (h2 : Ev g2 a2) (H : ∀ k, g1 k = some a1 → g2 k = some a2 → F k = some r) : Ev F r := by
  obtain ⟨K1, e1⟩ := h1; obtain ⟨K2, e2⟩ := h2
  exact ⟨K1 + K2, fun k hk => H k (e1 _ (by omega)) (e2 _ (by omega))⟩
theorem evs2 {ρ : Type} {F : Nat → Option ρ} {r : ρ} {α1 : Type} {g1 : Nat → Option α1} {a1 : α1} {α2 : Type} {g2 : Nat → Option α2} {a2 : α2} (h1 : Ev g1 a1) (h2 : Ev g2 a2) (H : ∀ k, g1 k = some a1 → g2 k = some a2 → F (k + 1) = some r) : Ev F r := by
  obtain ⟨K1, e1⟩ := h1; obtain ⟨K2, e2⟩ := h2
  refine ⟨K1 + K2 + 1, fun k hk => ?_⟩
  obtain ⟨m, rfl⟩ : ∃ m, k = m + 1 := ⟨k - 1, by omega⟩
  exact H m (e1 _ (by omega)) (e2 _ (by omega))
theorem evu3 {ρ : Type} {F : Nat → Option ρ} {r : ρ} {α1 : Type} {g1 : Nat → Option α1} {a1 : α1} {α2 : Type} {g2 : Nat → Option α2} {a2 : α2} {α3 : Type} {g3 : Nat → Option α3} {a3 : α3} (h1 : Ev g1 a1) (h2 : Ev g2 a2) (h3 : Ev g3 a3) (H : ∀ k, g1 k = some a1 → g2 k = some a2 → g3 k = some a3 → F k = some r) : Ev F r := by
  obtain ⟨K1, e1⟩ := h1; obtain ⟨K2, e2⟩ := h2; obtain ⟨K3, e3⟩ := h3
  exact ⟨K1 + K2 + K3, fun k hk => H k (e1 _ (by omega)) (e2 _ (by omega)) (e3 _ (by omega))⟩
theorem evs3 {ρ : Type} {F : Nat → Option ρ} {r : ρ} {α1 : Type} {g1 : Nat → Option α1} {a1 : α1} {α2 : Type} {g2 : Nat → Option α2} {a2 : α2} {α3 : Type} {g3 : Nat → Option α3} {a3 : α3} (h1 : Ev g1 a1) (h2 : Ev g2 a2) (h3 : Ev g3 a3) (H : ∀ k, g1 k = some a1 → g2 k = some a2 → g3 k = some a3 → F (k + 1) = some r) : Ev F r := by
  obtain ⟨K1, e1⟩ := h1; obtain ⟨K2, e2⟩ := h2; obtain ⟨K3, e3⟩ := h3
  refine ⟨K1 + K2 + K3 + 1, fun k hk => ?_⟩
  obtain ⟨m, rfl⟩ : ∃ m, k = m + 1 := ⟨k - 1, by omega⟩
  exact H m (e1 _ (by omega)) (e2 _ (by omega)) (e3 _ (by omega))
theorem evu4 {ρ : Type} {F : Nat → Option ρ} {r : ρ} {α1 : Type} {g1 : Nat → Option α1} {a1 : α1} {α2 : Type} {g2 : Nat → Option α2} {a2 : α2} {α3 : Type} {g3 : Nat → Option α3} {a3 : α3} {α4 : Type} {g4 : Nat → Option α4} {a4 : α4} (h1 : Ev g1 a1) (h2 : Ev g2 a2) (h3 : Ev g3 a3) (h4 : Ev g4 a4) (H : ∀ k, g1 k = some a1 → g2 k = some a2 → g3 k = some a3 → g4 k = some a4 → F k = some r) : Ev F r := by
  obtain ⟨K1, e1⟩ := h1; obtain ⟨K2, e2⟩ := h2; obtain ⟨K3, e3⟩ := h3; obtain ⟨K4, e4⟩ := h4
  exact ⟨K1 + K2 + K3 + K4, fun k hk => H k (e1 _ (by omega)) (e2 _ (by omega)) (e3 _ (by omega)) (e4 _ (by omega))⟩
theorem evs4 {ρ : Type} {F : Nat → Option ρ} {r : ρ} {α1 : Type} {g1 : Nat → Option α1} {a1 : α1} {α2 : Type} {g2 : Nat → Option α2} {a2 : α2} {α3 : Type} {g3 : Nat → Option α3} {a3 : α3} {α4 : Type} {g4 : Nat → Option α4} {a4 : α4} (h1 : Ev g1 a1) (h2 : Ev g2 a2) (h3 : Ev g3 a3) (h4 : Ev g4 a4) (H : ∀ k, g1 k = some a1 → g2 k = some a2 → g3 k = some a3 → g4 k = some a4 → F (k + 1) = some r) : Ev F r := by
  obtain ⟨K1, e1⟩ := h1; obtain ⟨K2, e2⟩ := h2; obtain ⟨K3, e3⟩ := h3; obtain ⟨K4, e4⟩ := h4
  refine ⟨K1 + K2 + K3 + K4 + 1, fun k hk => ?_⟩
  obtain ⟨m, rfl⟩ : ∃ m, k = m + 1 := ⟨k - 1, by omega⟩
  exact H m (e1 _ (by omega)) (e2 _ (by omega)) (e3 _ (by omega)) (e4 _ (by omega))
theorem evu5 {ρ : Type} {F : Nat → Option ρ} {r : ρ} {α1 : Type} {g1 : Nat → Option α1} {a1 : α1} {α2 : Type} {g2 : Nat → Option α2} {a2 : α2} {α3 : Type} {g3 : Nat → Option α3} {a3 : α3} {α4 : Type} {g4 : Nat → Option α4} {a4 : α4} {α5 : Type} {g5 : Nat → Option α5} {a5 : α5} (h1 : Ev g1 a1) (h2 : Ev g2 a2) (h3 : Ev g3 a3) (h4 : Ev g4 a4) (h5 : Ev g5 a5) (H : ∀ k, g1 k = some a1 → g2 k = some a2 → g3 k = some a3 → g4 k = some a4 → g5 k = some a5 → F k = some r) : Ev F r := by
  obtain ⟨K1, e1⟩ := h1; obtain ⟨K2, e2⟩ := h2; obtain ⟨K3, e3⟩ := h3; obtain ⟨K4, e4⟩ := h4; obtain ⟨K5, e5⟩ := h5
  exact ⟨K1 + K2 + K3 + K4 + K5, fun k hk => H k (e1 _ (by omega)) (e2 _ (by omega)) (e3 _ (by omega)) (e4 _ (by omega)) (e5 _ (by omega))⟩
theorem evs5 {ρ : Type} {F : Nat → Option ρ} {r : ρ} {α1 : Type} {g1 : Nat → Option α1} {a1 : α1} {α2 : Type} {g2 : Nat → Option α2} {a2 : α2} {α3 : Type} {g3 : Nat → Option α3} {a3 : α3} {α4 : Type} {g4 : Nat → Option α4} {a4 : α4} {α5 : Type} {g5 : Nat → Option α5} {a5 : α5} (h1 : Ev g1 a1) (h2 : Ev g2 a2) (h3 : Ev g3 a3) (h4 : Ev g4 a4) (h5 : Ev g5 a5) (H : ∀ k, g1 k = some a1 → g2 k = some a2 → g3 k = some a3 → g4 k = some a4 → g5 k = some a5 → F (k + 1) = some r) : Ev F r := by
  obtain ⟨K1, e1⟩ := h1; obtain ⟨K2, e2⟩ := h2; obtain ⟨K3, e3⟩ := h3; obtain ⟨K4, e4⟩ := h4; obtain ⟨K5, e5⟩ := h5
  refine ⟨K1 + K2 + K3 + K4 + K5 + 1, fun k hk => ?_⟩
  obtain ⟨m, rfl⟩ : ∃ m, k = m + 1 := ⟨k - 1, by omega⟩
  exact H m (e1 _ (by omega)) (e2 _ (by omega)) (e3 _ (by omega)) (e4 _ (by omega)) (e5 _ (by omega))
theorem evu6 {ρ : Type} {F : Nat → Option ρ} {r : ρ} {α1 : Type} {g1 : Nat → Option α1} {a1 : α1} {α2 : Type} {g2 : Nat → Option α2} {a2 : α2} {α3 : Type} {g3 : Nat → Option α3} {a3 : α3} {α4 : Type} {g4 : Nat → Option α4} {a4 : α4} {α5 : Type} {g5 : Nat → Option α5} {a5 : α5} {α6 : Type} {g6 : Nat → Option α6} {a6 : α6} (h1 : Ev g1 a1) (h2 : Ev g2 a2) (h3 : Ev g3 a3) (h4 : Ev g4 a4) (h5 : Ev g5 a5) (h6 : Ev g6 a6) (H : ∀ k, g1 k = some a1 → g2 k = some a2 → g3 k = some a3 → g4 k = some a4 → g5 k = some a5 → g6 k = some a6 → F k = some r) : Ev F r := by
  obtain ⟨K1, e1⟩ := h1; obtain ⟨K2, e2⟩ := h2; obtain ⟨K3, e3⟩ := h3; obtain ⟨K4, e4⟩ := h4; obtain ⟨K5, e5⟩ := h5; obtain ⟨K6, e6⟩ := h6
  exact ⟨K1 + K2 + K3 + K4 + K5 + K6, fun k hk => H k (e1 _ (by omega)) (e2 _ (by omega)) (e3 _ (by omega)) (e4 _ (by omega)) (e5 _ (by omega)) (e6 _ (by omega))⟩
theorem evs6 {ρ : Type} {F : Nat → Option ρ} {r : ρ} {α1 : Type} {g1 : Nat → Option α1} {a1 : α1} {α2 : Type} {g2 : Nat → Option α2} {a2 : α2} {α3 : Type} {g3 : Nat → Option α3} {a3 : α3} {α4 : Type} {g4 : Nat → Option α4} {a4 : α4} {α5 : Type} {g5 : Nat → Option α5} {a5 : α5} {α6 : Type} {g6 : Nat → Option α6} {a6 : α6} (h1 : Ev g1 a1) (h2 : Ev g2 a2) (h3 : Ev g3 a3) (h4 : Ev g4 a4) (h5 : Ev g5 a5) (h6 : Ev g6 a6) (H : ∀ k, g1 k = some a1 → g2 k = some a2 → g3 k = some a3 → g4 k = some a4 → g5 k = some a5 → g6 k = some a6 → F (k + 1) = some r) : Ev F r := by
  obtain ⟨K1, e1⟩ := h1; obtain ⟨K2, e2⟩ := h2; obtain ⟨K3, e3⟩ := h3; obtain ⟨K4, e4⟩ := h4; obtain ⟨K5, e5⟩ := h5; obtain ⟨K6, e6⟩ := h6
  refine ⟨K1 + K2 + K3 + K4 + K5 + K6 + 1, fun k hk => ?_⟩
  obtain ⟨m, rfl⟩ : ∃ m, k = m + 1 := ⟨k - 1, by omega⟩
  exact H m (e1 _ (by omega)) (e2 _ (by omega)) (e3 _ (by omega)) (e4 _ (by omega)) (e5 _ (by omega)) (e6 _ (by omega))
theorem evu7 {ρ : Type} {F : Nat → Option ρ} {r : ρ} {α1 : Type} {g1 : Nat → Option α1} {a1 : α1} {α2 : Type} {g2 : Nat → Option α2} {a2 : α2} {α3 : Type} {g3 : Nat → Option α3} {a3 : α3} {α4 : Type} {g4 : Nat → Option α4} {a4 : α4} {α5 : Type} {g5 : Nat → Option α5} {a5 : α5} {α6 : Type} {g6 : Nat → Option α6} {a6 : α6} {α7 : Type} {g7 : Nat → Option α7} {a7 : α7} (h1 : Ev g1 a1) (h2 : Ev g2 a2) (h3 : Ev g3 a3) (h4 : Ev g4 a4) (h5 : Ev g5 a5) (h6 : Ev g6 a6) (h7 : Ev g7 a7) (H : ∀ k, g1 k = some a1 → g2 k = some a2 → g3 k = some a3 → g4 k = some a4 → g5 k = some a5 → g6 k = some a6 → g7 k = some a7 → F k = some r) : Ev F r := by
  obtain ⟨K1, e1⟩ := h1; obtain ⟨K2, e2⟩ := h2; obtain ⟨K3, e3⟩ := h3; obtain ⟨K4, e4⟩ := h4; obtain ⟨K5, e5⟩ := h5; obtain ⟨K6, e6⟩ := h6; obtain ⟨K7, e7⟩ := h7
  exact ⟨K1 + K2 + K3 + K4 + K5 + K6 + K7, fun k hk => H k (e1 _ (by omega)) (e2 _ (by omega)) (e3 _ (by omega)) (e4 _ (by omega)) (e5 _ (by omega)) (e6 _ (by omega)) (e7 _ (by omega))⟩
theorem evs7 {ρ : Type} {F : Nat → Option ρ} {r : ρ} {α1 : Type} {g1 : Nat → Option α1} {a1 : α1} {α2 : Type} {g2 : Nat → Option α2} {a2 : α2} {α3 : Type} {g3 : Nat → Option α3} {a3 : α3} {α4 : Type} {g4 : Nat → Option α4} {a4 : α4} {α5 : Type} {g5 : Nat → Option α5} {a5 : α5} {α6 : Type} {g6 : Nat → Option α6} {a6 : α6} {α7 : Type} {g7 : Nat → Option α7} {a7 : α7} (h1 : Ev g1 a1) (h2 : Ev g2 a2) (h3 : Ev g3 a3) (h4 : Ev g4 a4) (h5 : Ev g5 a5) (h6 : Ev g6 a6) (h7 : Ev g7 a7) (H : ∀ k, g1 k = some a1 → g2 k = some a2 → g3 k = some a3 → g4 k = some a4 → g5 k = some a5 → g6 k = some a6 → g7 k = some a7 → F (k + 1) = some r) : Ev F r := by
  obtain ⟨K1, e1⟩ := h1; obtain ⟨K2, e2⟩ := h2; obtain ⟨K3, e3⟩ := h3; obtain ⟨K4, e4⟩ := h4; obtain ⟨K5, e5⟩ := h5; obtain ⟨K6, e6⟩ := h6; obtain ⟨K7, e7⟩ := h7
  refine ⟨K1 + K2 + K3 + K4 + K5 + K6 + K7 + 1, fun k hk => ?_⟩
  obtain ⟨m, rfl⟩ : ∃ m, k = m + 1 := ⟨k - 1, by omega⟩
  exact H m (e1 _ (by omega)) (e2 _ (by omega)) (e3 _ (by omega)) (e4 _ (by omega)) (e5 _ (by omega)) (e6 _ (by omega)) (e7 _ (by omega))
theorem evu8 {ρ : Type} {F : Nat → Option ρ} {r : ρ} {α1 : Type} {g1 : Nat → Option α1} {a1 : α1} {α2 : Type} {g2 : Nat → Option α2} {a2 : α2} {α3 : Type} {g3 : Nat → Option α3} {a3 : α3} {α4 : Type} {g4 : Nat → Option α4} {a4 : α4} {α5 : Type} {g5 : Nat → Option α5} {a5 : α5} {α6 : Type} {g6 : Nat → Option α6} {a6 : α6} {α7 : Type} {g7 : Nat → Option α7} {a7 : α7} {α8 : Type} {g8 : Nat → Option α8} {a8 : α8} (h1 : Ev g1 a1) (h2 : Ev g2 a2) (h3 : Ev g3 a3) (h4 : Ev g4 a4) (h5 : Ev g5 a5) (h6 : Ev g6 a6) (h7 : Ev g7 a7) (h8 : Ev g8 a8) (H : ∀ k, g1 k = some a1 → g2 k = some a2 → g3 k = some a3 → g4 k = some a4 → g5 k = some a5 → g6 k = some a6 → g7 k = some a7 → g8 k = some a8 → F k = some r) : Ev F r := by
  obtain ⟨K1, e1⟩ := h1; obtain ⟨K2, e2⟩ := h2; obtain ⟨K3, e3⟩ := h3; obtain ⟨K4, e4⟩ := h4; obtain ⟨K5, e5⟩ := h5; obtain ⟨K6, e6⟩ := h6; obtain ⟨K7, e7⟩ := h7; obtain ⟨K8, e8⟩ := h8
  exact ⟨K1 + K2 + K3 + K4 + K5 + K6 + K7 + K8, fun k hk => H k (e1 _ (by omega)) (e2 _ (by omega)) (e3 _ (by omega)) (e4 _ (by omega)) (e5 _ (by omega)) (e6 _ (by omega)) (e7 _ (by omega)) (e8 _ (by omega))⟩
theorem evs8 {ρ : Type} {F : Nat → Option ρ} {r : ρ} {α1 : Type} {g1 : Nat → Option α1} {a1 : α1} {α2 : Type} {g2 : Nat → Option α2} {a2 : α2} {α3 : Type} {g3 : Nat → Option α3} {a3 : α3} {α4 : Type} {g4 : Nat → Option α4} {a4 : α4} {α5 : Type} {g5 : Nat → Option α5} {a5 : α5} {α6 : Type} {g6 : Nat → Option α6} {a6 : α6} {α7 : Type} {g7 : Nat → Option α7} {a7 : α7} {α8 : Type} {g8 : Nat → Option α8} {a8 : α8} (h1 : Ev g1 a1) (h2 : Ev g2 a2) (h3 : Ev g3 a3) (h4 : Ev g4 a4) (h5 : Ev g5 a5) (h6 : Ev g6 a6) (h7 : Ev g7 a7) (h8 : Ev g8 a8) (H : ∀ k, g1 k = some a1 → g2 k = some a2 → g3 k = some a3 → g4 k = some a4 → g5 k = some a5 → g6 k = some a6 → g7 k = some a7 → g8 k = some a8 → F (k + 1) = some r) : Ev F r := by
  obtain ⟨K1, e1⟩ := h1; obtain ⟨K2, e2⟩ := h2; obtain ⟨K3, e3⟩ := h3; obtain ⟨K4, e4⟩ := h4; obtain ⟨K5, e5⟩ := h5; obtain ⟨K6, e6⟩ := h6; obtain ⟨K7, e7⟩ := h7; obtain ⟨K8, e8⟩ := h8
  refine ⟨K1 + K2 + K3 + K4 + K5 + K6 + K7 + K8 + 1, fun k hk => ?_⟩
  obtain ⟨m, rfl⟩ : ∃ m, k = m + 1 := ⟨k - 1, by omega⟩
  exact H m (e1 _ (by omega)) (e2 _ (by omega)) (e3 _ (by omega)) (e4 _ (by omega)) (e5 _ (by omega)) (e6 _ (by omega)) (e7 _ (by omega)) (e8 _ (by omega))
end Go.Proofs.Ytlnmgljiggebiaa.Pr

set_option linter.unusedVariables false
set_option linter.unusedSimpArgs false
namespace Go.Proofs.Ytlnmgljiggebiaa.Pr
open Go.RowKit Go.Proofs.YtlnmgljiggebiaaW.PrintWords Go.Proofs.YtlnmgljiggebiaaW.PrintLast

theorem vcmp (a b : List Int) (ha : a.length ≤ 9223372036854775807) : Ev (fun k => tuple_Compare.f k a b) (cmpT a b) := Ev.of (fun k => tuple_Compare.mono a b k) (compare_tells a b ha)
theorem cmpT_range : ∀ a b : List Int, -1 ≤ cmpT a b ∧ cmpT a b ≤ 1
  | [], [] => by simp [cmpT]
  | [], _ :: _ => by simp [cmpT]
  | _ :: _, [] => by simp [cmpT]
  | x :: l, y :: m => by
    rw [cmpT]
    split
    · omega
    · split
      · omega
      · exact cmpT_range l m
theorem shown_01 : Ev (fun k => arboristlaw01_shown.f k) true := Ev.of (fun k => arboristlaw01_shown.mono k) (k := 60) (by decide +kernel)
theorem mn_cut {α : Type} (l : List α) (n : Nat) : 0 ≤ mn (l.length : Int) n ∧ mn (l.length : Int) n ≤ l.length ∧ l.take (mn (l.length : Int) n).toNat = l.take n := by
  unfold mn
  split
  · refine ⟨by omega, by omega, by simp⟩
  · refine ⟨by omega, by omega, ?_⟩
    rw [List.take_of_length_le (by omega), List.take_of_length_le (by omega)]
end Go.Proofs.Ytlnmgljiggebiaa.Pr

set_option linter.unusedVariables false
namespace Go.Proofs.Ytlnmgljiggebiaa.Pr
open Go.RowKit Go.Proofs.YtlnmgljiggebiaaW.PrintWords Go.Proofs.YtlnmgljiggebiaaW.PrintLast

theorem drop_at (l : List Int) (i : Nat) (h : i < l.length) : l.drop i = rd l (i : Int) :: l.drop (i + 1) := by
  rw [List.drop_eq_getElem_cons h, rd_nat l i _ (List.getElem?_eq_getElem h)]
theorem wrap_nat (i : Nat) (h : i < 9223372036854775807) : wrap64 ((i : Int) + 1) = ((i + 1 : Nat) : Int) := by rw [wrap_succ (by omega) (by omega)]; rfl
def inB (l : List Int) (v : Int) : Bool := l.any (fun x => x == v)
theorem In_loop (l : List Int) (hl : l.length ≤ 9223372036854775807) (v : Int) : ∀ d i : Nat, l.length = i + d → Ev (fun k => arboristref01_In.l0 k l v (i : Int)) (inB (l.drop i) v) := by
  intro d
  induction d with
  | zero =>
    intro i h
    refine Ev.step (f := fun _ => some (inB (l.drop i) v)) (fun k => ?_) (Ev.now _)
    simp only [arboristref01_In.l0]
    rw [if_neg (by omega), List.drop_eq_nil_of_le (by omega)]
    rfl
  | succ d ih =>
    intro i h
    have hi : i < l.length := by omega
    by_cases e : rd l (i : Int) = v
    · refine Ev.step (f := fun _ => some (inB (l.drop i) v)) (fun k => ?_) (Ev.now _)
      simp only [arboristref01_In.l0]
      rw [if_pos (by omega), if_pos (by omega), if_pos e, drop_at l i hi]
      simp [inB, e]
    · refine Ev.step (f := fun k => arboristref01_In.l0 k l v ((i + 1 : Nat) : Int)) (fun k => ?_) ?_
      · simp only [arboristref01_In.l0]
        rw [if_pos (by omega), if_pos (by omega), if_neg e, wrap_nat i (by omega)]
      · have := ih (i + 1) (by omega)
        rw [drop_at l i hi]
        have e2 : (rd l (i : Int) == v) = false := by simpa using e
        simpa [inB, e2] using this
theorem In_ev (l : List Int) (hl : l.length ≤ 9223372036854775807) (v : Int) : Ev (fun k => arboristref01_In.f k l v) (inB l v) := by
  have := In_loop l hl v l.length 0 (by omega)
  simpa [arboristref01_In.f] using this
def withoutL (a b : List Int) : List Int := a.filter (fun x => !inB b x)
def meetL (a b : List Int) : List Int := a.filter (fun x => inB b x)
theorem Without_loop (a b : List Int) (ha : a.length < 17592186044416) (hb : b.length ≤ 9223372036854775807) : ∀ (d i : Nat) (out : List Int), a.length = i + d → out.length ≤ i → Ev (fun k => arboristref01_Without.l0 k a b out (i : Int)) (out ++ withoutL (a.drop i) b) := by
  intro d
  induction d with
  | zero =>
    intro i out h ho
    refine Ev.step (f := fun _ => some (out ++ withoutL (a.drop i) b)) (fun k => ?_) (Ev.now _)
    simp only [arboristref01_Without.l0]
    rw [if_neg (by omega), List.drop_eq_nil_of_le (by omega)]
    simp [withoutL]
  | succ d ih =>
    intro i out h ho
    have hi : i < a.length := by omega
    refine Ev.step (f := fun k => (arboristref01_In.f k b (rd a (i : Int))).bind fun t => if t = true then arboristref01_Without.l0 k a b out ((i + 1 : Nat) : Int) else if out.length < 17592186044416 then arboristref01_Without.l0 k a b (out ++ [rd a (i : Int)]) ((i + 1 : Nat) : Int) else none) (fun k => ?_) ?_
    · simp only [arboristref01_Without.l0]
      rw [if_pos (by omega), if_pos (by omega), wrap_nat i (by omega)]
    · refine Ev.bind (In_ev b hb _) ?_
      rw [drop_at a i hi]
      cases hc : inB b (rd a (i : Int)) with
      | true =>
        have := ih (i + 1) out (by omega) (by omega)
        simpa [withoutL, hc] using this
      | false =>
        have := ih (i + 1) (out ++ [rd a (i : Int)]) (by omega) (by simp; omega)
        have hlt : out.length < 17592186044416 := by omega
        simpa [withoutL, hc, hlt] using this
theorem Without_ev (a b : List Int) (ha : a.length < 17592186044416) (hb : b.length ≤ 9223372036854775807) : Ev (fun k => arboristref01_Without.f k a b) (withoutL a b) := by
  have := Without_loop a b ha hb a.length 0 [] (by omega) (by simp)
  simpa [arboristref01_Without.f] using this
def withinR (a b : List Int) : Bool := ((withoutL a b).length : Int) == 0
theorem Within_ev (a b : List Int) (ha : a.length < 17592186044416) (hb : b.length ≤ 9223372036854775807) : Ev (fun k => arboristref01_Within.f k a b) (withinR a b) := by
  refine Ev.congr (f := fun k => (arboristref01_Without.f k a b).bind fun t => some ((t.length : Int) == 0)) (fun k => rfl) ?_
  exact Ev.bind (f := fun _ (t : List Int) => some ((t.length : Int) == 0)) (Without_ev a b ha hb) (Ev.now _)
theorem withinR_iff (a b : List Int) : withinR a b = true ↔ ∀ x ∈ a, x ∈ b := by
  unfold withinR withoutL
  simp only [beq_iff_eq]
  constructor
  · intro h x hx
    have h2 : (a.filter (fun x => !inB b x)) = [] := List.eq_nil_of_length_eq_zero (by omega)
    have := List.filter_eq_nil_iff.1 h2 x hx
    simp [inB] at this
    exact this
  · intro h
    have : (a.filter (fun x => !inB b x)) = [] := List.filter_eq_nil_iff.2 (fun x hx => by simp [inB]; exact h x hx)
    simp [this]
def cmpL : List Int → List Int → Int
  | [], [] => 0
  | [], _ :: _ => -1
  | _ :: _, [] => 1
  | a :: l, b :: m => if a < b then -1 else if b < a then 1 else cmpL l m
theorem Compare_loop (a b : List Int) (ha : a.length ≤ 9223372036854775807) (hb : b.length ≤ 9223372036854775807) : ∀ (d i : Nat), a.length = i + d → i ≤ b.length → a.take i = b.take i → Ev (fun k => arboristref01_Compare.l0 k a b (i : Int)) (cmpL (a.drop i) (b.drop i)) := by
  intro d
  induction d with
  | zero =>
    intro i h hb2 he
    refine Ev.step (f := fun k => arboristref01_Compare.j1 k a b (i : Int) false) (fun k => ?_) ?_
    · simp only [arboristref01_Compare.l0]; rw [if_neg (by omega)]
    · refine Ev.step (f := fun _ => some (cmpL (a.drop i) (b.drop i))) (fun k => ?_) (Ev.now _)
      simp only [arboristref01_Compare.j1]
      rw [if_neg (by simp), List.drop_eq_nil_of_le (by omega)]
      by_cases hlt : i < b.length
      · rw [if_pos (by omega), drop_at b i hlt]; rfl
      · rw [if_neg (by omega), if_neg (by omega), List.drop_eq_nil_of_le (by omega)]; rfl
  | succ d ih =>
    intro i h hb2 he
    have hi : i < a.length := by omega
    by_cases hlt : i < b.length
    · refine Ev.step (f := fun k => arboristref01_Compare.j1 k a b (i : Int) true) (fun k => ?_) ?_
      · simp only [arboristref01_Compare.l0]; rw [if_pos (by omega), show decide ((i : Int) < (b.length : Int)) = true from decide_eq_true (by omega)]
      · rw [drop_at a i hi, drop_at b i hlt]
        by_cases h1 : rd a (i : Int) < rd b (i : Int)
        · refine Ev.step (f := fun _ => some (-1)) (fun k => ?_) (by simp only [cmpL, if_pos h1]; exact Ev.now _)
          simp only [arboristref01_Compare.j1]
          rw [if_pos trivial, if_pos (by omega), if_pos (by omega), if_pos (by omega), if_pos h1]
        · by_cases h2 : rd b (i : Int) < rd a (i : Int)
          · refine Ev.step (f := fun _ => some 1) (fun k => ?_) (by simp only [cmpL, if_neg h1, if_pos h2]; exact Ev.now _)
            simp only [arboristref01_Compare.j1]
            rw [if_pos trivial, if_pos (by omega), if_pos (by omega), if_pos (by omega), if_neg h1, if_pos h2]
          · refine Ev.step (f := fun k => arboristref01_Compare.l0 k a b ((i + 1 : Nat) : Int)) (fun k => ?_) ?_
            · simp only [arboristref01_Compare.j1]
              rw [if_pos trivial, if_pos (by omega), if_pos (by omega), if_pos (by omega), if_neg h1, if_neg (by omega), wrap_nat i (by omega)]
            · simp only [cmpL, if_neg h1, if_neg h2]
              refine ih (i + 1) (by omega) (by omega) ?_
              have e1 := rd_nat a i _ (List.getElem?_eq_getElem hi)
              have e2 := rd_nat b i _ (List.getElem?_eq_getElem hlt)
              rw [List.take_succ_eq_append_getElem hi, List.take_succ_eq_append_getElem hlt, he]
              have : a[i] = b[i] := by omega
              rw [this]
    · refine Ev.step (f := fun k => arboristref01_Compare.j1 k a b (i : Int) false) (fun k => ?_) ?_
      · simp only [arboristref01_Compare.l0]; rw [if_pos (by omega), show decide ((i : Int) < (b.length : Int)) = false from decide_eq_false (by omega)]
      · refine Ev.step (f := fun _ => some (cmpL (a.drop i) (b.drop i))) (fun k => ?_) (Ev.now _)
        simp only [arboristref01_Compare.j1]
        rw [if_neg (by simp), if_neg (by omega), if_pos (by omega), drop_at a i hi, show b.drop i = [] from List.drop_eq_nil_of_le (by omega)]
        rfl
theorem Compare_ev (a b : List Int) (ha : a.length ≤ 9223372036854775807) (hb : b.length ≤ 9223372036854775807) : Ev (fun k => arboristref01_Compare.f k a b) (cmpL a b) := by
  have := Compare_loop a b ha hb a.length 0 (by omega) (by omega) rfl
  simpa [arboristref01_Compare.f] using this
def uniteL : List Int → List Int → List Int
  | [], r => r
  | a :: l, [] => a :: l
  | a :: l, m :: r => if a < m then a :: uniteL l (m :: r) else m :: uniteL (a :: l) r
termination_by a b => a.length + b.length
theorem uniteL_nil (a : List Int) : uniteL a [] = a := by cases a <;> simp [uniteL]
theorem Unite_loop (a m : List Int) (hl : a.length + m.length < 17592186044416) : ∀ (d i j : Nat) (out : List Int), a.length + m.length = i + j + d → i ≤ a.length → j ≤ m.length → out.length ≤ i + j → Ev (fun k => arboristref01_Unite.l0 k a out m (i : Int) (j : Int)) (out ++ uniteL (a.drop i) (m.drop j)) := by
  intro d
  induction d with
  | zero =>
    intro i j out h hi hj ho
    refine Ev.step (f := fun k => arboristref01_Unite.j1 k a out m (i : Int) (j : Int) false) (fun k => ?_) ?_
    · simp only [arboristref01_Unite.l0]
      rw [if_neg (by omega), show decide ((j : Int) < (m.length : Int)) = false from decide_eq_false (by omega)]
    · refine Ev.step (f := fun _ => some (out ++ uniteL (a.drop i) (m.drop j))) (fun k => ?_) (Ev.now _)
      simp only [arboristref01_Unite.j1]
      rw [if_neg (by simp), show a.drop i = [] from List.drop_eq_nil_of_le (by omega), show m.drop j = [] from List.drop_eq_nil_of_le (by omega)]
      simp [uniteL]
  | succ d ih =>
    intro i j out h hi hj ho
    refine Ev.step (f := fun k => arboristref01_Unite.j1 k a out m (i : Int) (j : Int) true) (fun k => ?_) ?_
    · simp only [arboristref01_Unite.l0]
      by_cases h1 : i < a.length
      · rw [if_pos (by omega)]
      · rw [if_neg (by omega), show decide ((j : Int) < (m.length : Int)) = true from decide_eq_true (by omega)]
    · have hlt : out.length < 17592186044416 := by omega
      have left : i < a.length → (j = m.length ∨ (j < m.length ∧ rd a (i : Int) < rd m (j : Int))) → Ev (fun k => arboristref01_Unite.l0 k a (out ++ [rd a (i : Int)]) m ((i + 1 : Nat) : Int) (j : Int)) (out ++ uniteL (a.drop i) (m.drop j)) := by
        intro h1 h2
        have := ih (i + 1) j (out ++ [rd a (i : Int)]) (by omega) (by omega) hj (by simp; omega)
        rw [drop_at a i h1]
        rcases h2 with h2 | ⟨h2, h3⟩
        · rw [show m.drop j = [] from List.drop_eq_nil_of_le (by omega)] at this ⊢
          simpa [uniteL, uniteL_nil] using this
        · rw [drop_at m j h2] at this ⊢
          rw [uniteL, if_pos h3]
          simpa using this
      have right : j < m.length → (i = a.length ∨ (i < a.length ∧ ¬ rd a (i : Int) < rd m (j : Int))) → Ev (fun k => arboristref01_Unite.l0 k a (out ++ [rd m (j : Int)]) m (i : Int) ((j + 1 : Nat) : Int)) (out ++ uniteL (a.drop i) (m.drop j)) := by
        intro h1 h2
        have := ih i (j + 1) (out ++ [rd m (j : Int)]) (by omega) hi (by omega) (by simp; omega)
        rw [drop_at m j h1]
        rcases h2 with h2 | ⟨h2, h3⟩
        · rw [show a.drop i = [] from List.drop_eq_nil_of_le (by omega)] at this ⊢
          simpa [uniteL] using this
        · rw [drop_at a i h2] at this ⊢
          rw [uniteL, if_neg h3]
          simpa using this
      by_cases h1 : j = m.length
      · refine Ev.step (f := fun k => arboristref01_Unite.l0 k a (out ++ [rd a (i : Int)]) m ((i + 1 : Nat) : Int) (j : Int)) (fun k => ?_) (left (by omega) (.inl h1))
        simp only [arboristref01_Unite.j1]
        rw [if_pos trivial, if_pos (by omega), if_pos (by omega), if_pos (by omega), if_pos hlt, wrap_nat i (by omega)]
      · by_cases h2 : i < a.length
        · by_cases h3 : rd a (i : Int) < rd m (j : Int)
          · refine Ev.step (f := fun k => arboristref01_Unite.l0 k a (out ++ [rd a (i : Int)]) m ((i + 1 : Nat) : Int) (j : Int)) (fun k => ?_) (left h2 (.inr ⟨by omega, h3⟩))
            simp only [arboristref01_Unite.j1]
            rw [if_pos trivial, if_neg (by omega), if_pos (by omega), if_pos (by omega), if_pos (by omega), if_pos (by omega), if_pos h3, if_pos hlt, wrap_nat i (by omega)]
          · refine Ev.step (f := fun k => arboristref01_Unite.l0 k a (out ++ [rd m (j : Int)]) m (i : Int) ((j + 1 : Nat) : Int)) (fun k => ?_) (right (by omega) (.inr ⟨h2, h3⟩))
            simp only [arboristref01_Unite.j1]
            rw [if_pos trivial, if_neg (by omega), if_pos (by omega), if_pos (by omega), if_pos (by omega), if_pos (by omega), if_neg h3, if_pos hlt, wrap_nat j (by omega)]
        · refine Ev.step (f := fun k => arboristref01_Unite.l0 k a (out ++ [rd m (j : Int)]) m (i : Int) ((j + 1 : Nat) : Int)) (fun k => ?_) (right (by omega) (.inl (by omega)))
          simp only [arboristref01_Unite.j1]
          rw [if_pos trivial, if_neg (by omega), if_neg (by omega), if_pos (by omega), if_pos (by omega), if_pos hlt, wrap_nat j (by omega)]
theorem withoutL_len (a b : List Int) : (withoutL a b).length ≤ a.length := List.length_filter_le _ _
theorem Unite_ev (a b : List Int) (h : a.length + b.length < 17592186044416) : Ev (fun k => arboristref01_Unite.f k a b) (uniteL a (withoutL b a)) := by
  refine Ev.congr (f := fun k => (arboristref01_Without.f k b a).bind fun t => arboristref01_Unite.l0 k a ([] : List Int) t 0 0) (fun k => rfl) ?_
  have hw := withoutL_len b a
  refine Ev.bind (f := fun k (t : List Int) => arboristref01_Unite.l0 k a ([] : List Int) t 0 0) (Without_ev b a (by omega) (by omega)) ?_
  have := Unite_loop a (withoutL b a) (by omega) (a.length + (withoutL b a).length) 0 0 [] (by omega) (by omega) (by omega) (by simp)
  simpa using this
theorem cmpL_self : ∀ a : List Int, cmpL a a = 0
  | [] => rfl
  | a :: l => by simp [cmpL, cmpL_self l]
theorem cmpL_eq : ∀ a b : List Int, cmpL a b = 0 ↔ a = b
  | [], [] => by simp [cmpL]
  | [], _ :: _ => by simp [cmpL]
  | _ :: _, [] => by simp [cmpL]
  | a :: l, b :: m => by
    simp only [cmpL]
    split
    · simp; intro e; omega
    · split
      · simp; intro e; omega
      · rw [cmpL_eq l m]; simp; intro _; omega

end Go.Proofs.Ytlnmgljiggebiaa.Pr

set_option linter.unusedVariables false
set_option linter.unusedSimpArgs false
namespace Go.Proofs.Ytlnmgljiggebiaa.Pr
open Go.RowKit Go.Proofs.YtlnmgljiggebiaaW.PrintWords Go.Proofs.YtlnmgljiggebiaaW.PrintLast

theorem cmpL_T : ∀ a b : List Int, cmpL a b = cmpT a b
  | [], [] => rfl
  | [], _ :: _ => rfl
  | _ :: _, [] => rfl
  | x :: l, y :: m => by rw [cmpL, cmpT, cmpL_T l m]
theorem rcmp (a b : List Int) (ha : a.length ≤ 9223372036854775807) (hb : b.length ≤ 9223372036854775807) : Ev (fun k => arboristref01_Compare.f k a b) (cmpT a b) := by
  rw [← cmpL_T]
  exact Compare_ev a b ha hb
def Asc (l : List (List Int)) : Prop := l.Pairwise (fun a b => cmpT a b < 0)
theorem cmpT_lt (a b c : List Int) (h1 : cmpT a b < 0) (h2 : cmpT b c ≤ 0) : cmpT a c < 0 := by
  have h3 := cmpT_trans a b c (by omega) h2
  by_cases e : cmpT a c = 0
  · have := cmpT_eq a c e
    subst this
    have := cmpT_swap a b
    omega
  · omega
theorem cmpT_lt2 (a b c : List Int) (h1 : cmpT a b ≤ 0) (h2 : cmpT b c < 0) : cmpT a c < 0 := by
  have h3 := cmpT_trans a b c h1 (by omega)
  by_cases e : cmpT a c = 0
  · have := cmpT_eq a c e
    subst this
    have := cmpT_swap a b
    omega
  · omega
theorem asc_ext : ∀ (a b : List (List Int)), Asc a → Asc b → (∀ x, x ∈ a ↔ x ∈ b) → a = b
  | [], [], _, _, _ => rfl
  | [], y :: m, _, _, h => absurd ((h y).2 (by simp)) (by simp)
  | x :: l, [], _, _, h => absurd ((h x).1 (by simp)) (by simp)
  | x :: l, y :: m, ha, hb, h => by
    obtain ⟨a1, a2⟩ := List.pairwise_cons.1 ha
    obtain ⟨b1, b2⟩ := List.pairwise_cons.1 hb
    have e : x = y := by
      rcases List.mem_cons.1 ((h x).1 (by simp)) with h1 | h1
      · exact h1
      · rcases List.mem_cons.1 ((h y).2 (by simp)) with h2 | h2
        · exact h2.symm
        · have q1 := a1 y h2
          have q2 := b1 x h1
          have := cmpT_swap x y
          omega
    subst e
    congr 1
    refine asc_ext l m a2 b2 (fun z => ?_)
    have hz := h z
    simp only [List.mem_cons] at hz
    constructor
    · intro hl
      have q := a1 z hl
      rcases hz.1 (.inr hl) with h | h
      · subst h; rw [cmpT_self] at q; omega
      · exact h
    · intro hm
      have q := b1 z hm
      rcases hz.2 (.inr hm) with h | h
      · subst h; rw [cmpT_self] at q; omega
      · exact h
theorem dedup_asc : ∀ (l : List (List Int)) (p : Option (List Int)), l.Pairwise (fun a b => leT a b = true) → (∀ q, p = some q → ∀ x ∈ l, leT q x = true) →
    Asc (dedupP p l) ∧ (∀ q, p = some q → ∀ x ∈ dedupP p l, cmpT q x < 0) ∧ (∀ x, (x ∈ dedupP p l ∨ p = some x) ↔ (x ∈ l ∨ p = some x)) ∧ (dedupP p l).length ≤ l.length
  | [], p, _, _ => ⟨List.Pairwise.nil, fun _ _ x hx => by simp [dedupP] at hx, fun x => by simp [dedupP], by simp [dedupP]⟩
  | y :: l, p, hs, hp => by
    obtain ⟨s1, s2⟩ := List.pairwise_cons.1 hs
    obtain ⟨A, B, C, D⟩ := dedup_asc l (some y) s2 (fun q e x hx => by obtain rfl : y = q := Option.some.inj e; exact s1 x hx)
    have B1 := B y rfl
    by_cases e : (p == some y) = true
    · have ep : p = some y := by simpa using e
      rw [dedupP, if_pos e]
      refine ⟨A, fun q hq => ?_, fun x => ?_, by simp only [List.length_cons]; omega⟩
      · rw [ep] at hq
        obtain rfl : y = q := Option.some.inj hq
        exact B1
      · rw [ep, C x]
        simp only [List.mem_cons, Option.some.injEq]
        constructor
        · rintro (h | h)
          · exact .inl (.inr h)
          · exact .inr h
        · rintro ((h | h) | h)
          · exact .inr h.symm
          · exact .inl h
          · exact .inr h
    · rw [dedupP, if_neg e]
      have B2 : ∀ q, p = some q → cmpT q y < 0 := fun q hq => by
        have h1 := hp q hq y (by simp)
        unfold leT at h1
        have h2 := of_decide_eq_true h1
        by_cases e0 : cmpT q y = 0
        · have := cmpT_eq q y e0
          subst this
          exact absurd (by simp [hq]) e
        · omega
      refine ⟨List.pairwise_cons.2 ⟨B1, A⟩, fun q hq x hx => ?_, fun x => ?_, by simp only [List.length_cons]; omega⟩
      · rcases List.mem_cons.1 hx with rfl | hx
        · exact B2 q hq
        · exact cmpT_lt q y x (B2 q hq) (by have := B1 x hx; omega)
      · have c := C x
        simp only [Option.some.injEq] at c
        simp only [List.mem_cons]
        constructor
        · rintro ((h | h) | h)
          · exact .inl (.inl h)
          · rcases c.1 (.inl h) with h | h
            · exact .inl (.inr h)
            · exact .inl (.inl h.symm)
          · exact .inr h
        · rintro ((h | h) | h)
          · exact .inl (.inl h)
          · rcases c.2 (.inl h) with h | h
            · exact .inl (.inr h)
            · exact .inl (.inl h.symm)
          · exact .inr h
theorem sortT_asc (l : List (List Int)) : Asc (sortT l) := (dedup_asc (isoT l) none (isoT_sorted l) (fun _ h => by cases h)).1
theorem sortT_mem (l : List (List Int)) (x : List Int) : x ∈ sortT l ↔ x ∈ l := by
  have h := (dedup_asc (isoT l) none (isoT_sorted l) (fun _ h => by cases h)).2.2.1 x
  have h2 := (isoT_perm l).mem_iff (a := x)
  have e : (none = some x) = False := by simp
  rw [e, or_false, or_false] at h
  unfold sortT
  rw [h, h2]
theorem sortT_len (l : List (List Int)) : (sortT l).length ≤ l.length := by
  have h := (dedup_asc (isoT l) none (isoT_sorted l) (fun _ h => by cases h)).2.2.2
  have h2 := (isoT_perm l).length_eq
  unfold sortT
  omega
theorem sortT_congr (a b : List (List Int)) (h : ∀ x, x ∈ a ↔ x ∈ b) : sortT a = sortT b := asc_ext _ _ (sortT_asc a) (sortT_asc b) (fun x => by rw [sortT_mem, sortT_mem, h])
/-! ### where a tuple stands -/
def cntT : List (List Int) → List Int → Nat
  | [], _ => 0
  | x :: l, t => if cmpT x t < 0 then cntT l t + 1 else 0
theorem cnt_at : ∀ (l : List (List Int)) (t : List Int), Asc l → cntT l t ≤ l.length ∧ ∀ (m : Nat) (h : m < l.length), cmpT l[m] t < 0 ↔ m < cntT l t
  | [], t, _ => ⟨by simp [cntT], fun m h => absurd h (by simp)⟩
  | x :: l, t, ha => by
    obtain ⟨a1, a2⟩ := List.pairwise_cons.1 ha
    obtain ⟨i1, i2⟩ := cnt_at l t a2
    rw [cntT]
    by_cases c : cmpT x t < 0
    · rw [if_pos c]
      refine ⟨by simp only [List.length_cons]; omega, fun m h => ?_⟩
      cases m with
      | zero => simpa using c
      | succ m =>
        have := i2 m (by simpa using h)
        rw [List.getElem_cons_succ, this]
        omega
    · rw [if_neg c]
      refine ⟨by omega, fun m h => ⟨fun q => ?_, fun q => by omega⟩⟩
      exfalso
      cases m with
      | zero => exact c (by simpa using q)
      | succ m =>
        rw [List.getElem_cons_succ] at q
        have hm : m < l.length := by simpa using h
        exact c (cmpT_lt x l[m] t (a1 _ (List.getElem_mem hm)) (by omega))
theorem bsL_cnt (l : List (List Int)) (t : List Int) (ha : Asc l) : ∀ (f i j : Nat), i ≤ cntT l t → cntT l t ≤ j → j ≤ l.length → j - i ≤ f → bsL l t f i j = cntT l t
  | 0, i, j, h1, h2, h3, h4 => by rw [bsL]; omega
  | f + 1, i, j, h1, h2, h3, h4 => by
    rw [bsL]
    by_cases c : i < j
    · rw [if_pos c]
      have hm : (i + j) / 2 < l.length := by omega
      have e : l.getD ((i + j) / 2) [] = l[(i + j) / 2] := by rw [List.getD_eq_getElem?_getD, List.getElem?_eq_getElem hm]; rfl
      have q := (cnt_at l t ha).2 ((i + j) / 2) hm
      rw [e]
      by_cases c2 : cmpT l[(i + j) / 2] t < 0
      · rw [if_pos c2]
        have := q.1 c2
        exact bsL_cnt l t ha f _ j (by omega) h2 h3 (by omega)
      · rw [if_neg c2]
        have : ¬ (i + j) / 2 < cntT l t := fun h => c2 (q.2 h)
        exact bsL_cnt l t ha f i _ h1 (by omega) (by omega) (by omega)
    · rw [if_neg c]; omega
theorem bsI_cnt (l : List (List Int)) (t : List Int) (ha : Asc l) : bsI l t = cntT l t := bsL_cnt l t ha _ _ _ (Nat.zero_le _) (cnt_at l t ha).1 (Nat.le_refl _) (by omega)
def isT (l : List (List Int)) (t : List Int) : Bool := decide (cntT l t < l.length) && (cmpT (l.getD (cntT l t) []) t == 0)
theorem bsF_is (l : List (List Int)) (t : List Int) (ha : Asc l) : bsF l t = isT l t := by unfold bsF isT; rw [bsI_cnt l t ha]
theorem cnt_self (l : List (List Int)) (ha : Asc l) (i : Nat) (h : i < l.length) : cntT l l[i] = i := by
  obtain ⟨c1, c2⟩ := cnt_at l l[i] ha
  have q1 := c2 i h
  rw [cmpT_self] at q1
  have q2 : ¬ i < cntT l l[i] := fun h => by have := q1.2 h; omega
  by_cases e : cntT l l[i] < i
  · have q3 : cmpT l[cntT l l[i]] l[i] < 0 := (List.pairwise_iff_getElem.1 ha) _ _ (by omega) h e
    have := (c2 _ (by omega)).1 q3
    omega
  · omega
theorem is_self (l : List (List Int)) (ha : Asc l) (t : List Int) (h : t ∈ l) : isT l t = true := by
  obtain ⟨i, hi, rfl⟩ := List.getElem_of_mem h
  unfold isT
  rw [cnt_self l ha i hi, List.getD_eq_getElem?_getD, List.getElem?_eq_getElem hi]
  simp [hi, cmpT_self]
theorem find_f (l : List (List Int)) (t : List Int) (ha : Asc l) (h : l.length < 17592186044416) : tuple_Find.f l t = some ((cntT l t : Int), isT l t) := by
  unfold tuple_Find.f
  rw [if_pos h, bsI_cnt l t ha, bsF_is l t ha]
theorem sort_f (l : List (List Int)) (h1 : l.length < 5864062014805) (h2 : ∀ x ∈ l, x.length < 17592186044416) : tuple_Sort.f l = some (sortT l) := by
  unfold tuple_Sort.f
  rw [if_pos ⟨h1, h2⟩]
theorem atL1 (B : List (List Int)) (i : Nat) (h : i < B.length) : rd_L1 B (i : Int) = B[i] := by
  unfold rd_L1
  rw [List.getD_eq_getElem?_getD, Int.toNat_natCast, List.getElem?_eq_getElem h]
  rfl
/-! ### the law's own cuts -/
def fewT (l : List (List Int)) : List (List Int) := (l.take 60).map (fun x => x.take 6)
theorem few_loop (B : List (List Int)) : ∀ (d i : Nat), 60 = i + d → Ev (fun k => arboristlaw01_few.l0 k B ((B.take i).map (fun b => b.take 6)) (i : Int)) (fewT B) := by
  intro d
  induction d with
  | zero =>
    intro i h
    refine evs0 (fun k => ?_)
    simp only [arboristlaw01_few.l0]
    have : i = 60 := by omega
    subst this
    split
    · rw [if_neg (by omega)]; rfl
    · rfl
  | succ d ih =>
    intro i h
    by_cases hi : i < B.length
    · refine evs1 (ih (i + 1) (by omega)) (fun k e => ?_)
      simp only [arboristlaw01_few.l0, Option.bind_some]
      obtain ⟨t1, t2, t3⟩ := mn_cut (rd_L1 B (i : Int)) 6
      rw [show ((6 : Nat) : Int) = 6 from rfl] at t1 t2 t3
      rw [if_pos (by omega), if_pos (by omega), if_pos (by omega), if_pos t1, if_pos t2, t3, wrap_nat i (by omega), if_pos (by simp; omega), if_pos (by simp; omega)]
      rw [List.take_succ_eq_append_getElem hi, List.map_append, List.map_cons, List.map_nil, ← atL1 B i hi] at e
      simpa using e
    · refine evs0 (fun k => ?_)
      simp only [arboristlaw01_few.l0]
      rw [if_neg (by omega)]
      unfold fewT
      rw [List.take_of_length_le (by omega), List.take_of_length_le (by omega)]
theorem few_ev (B : List (List Int)) : Ev (fun k => arboristlaw01_few.f k B) (fewT B) := few_loop B 60 0 (by omega)
theorem fewT_len (l : List (List Int)) : (fewT l).length ≤ 60 := by unfold fewT; simp; omega
theorem fewT_in (l : List (List Int)) (x : List Int) (h : x ∈ fewT l) : x.length ≤ 6 := by
  obtain ⟨y, _, rfl⟩ := List.mem_map.1 h
  simp; omega
theorem fewT_twice (l : List (List Int)) : fewT (fewT l) = fewT l := by
  have h : (fewT l).take 60 = fewT l := List.take_of_length_le (fewT_len l)
  rw [fewT, h]
  conv => rhs; rw [← List.map_id (fewT l)]
  exact List.map_congr_left (fun x hx => List.take_of_length_le (fewT_in l x hx))
theorem same_loop (a : List (List Int)) (ha : a.length < 9223372036854775807) (hx : ∀ x ∈ a, x.length ≤ 9223372036854775807) : ∀ (d i : Nat), a.length = i + d → Ev (fun k => arboristlaw01_same.l0 k a a (i : Int)) true
  | 0, i, h => evs0 (fun k => by rw [arboristlaw01_same.l0, if_neg (by omega)])
  | d + 1, i, h => by
    have hi : i < a.length := by omega
    have hm := hx _ (List.getElem_mem hi)
    refine evs2 (rcmp a[i] a[i] hm hm) (same_loop a ha hx d (i + 1) (by omega)) (fun k e1 e2 => ?_)
    rw [arboristlaw01_same.l0, if_pos (by omega), if_pos (by omega), if_pos (by omega), atL1 a i hi, e1, Option.bind_some, cmpT_self, if_pos rfl, wrap_nat i (by omega)]
    exact e2
theorem same_ev (a : List (List Int)) (ha : a.length < 9223372036854775807) (hx : ∀ x ∈ a, x.length ≤ 9223372036854775807) : Ev (fun k => arboristlaw01_same.f k a a) true :=
  evu1 (same_loop a ha hx a.length 0 (by omega)) (fun k e => by rw [arboristlaw01_same.f, if_pos rfl]; exact e)
end Go.Proofs.Ytlnmgljiggebiaa.Pr

set_option linter.unusedVariables false
set_option linter.unusedSimpArgs false
namespace Go.Proofs.Ytlnmgljiggebiaa.Pure
open Go.RowKit Go.Proofs.Ytlnmgljiggebiaa.Pr Go.Proofs.YtlnmgljiggebiaaW.PrintWords Go.Proofs.YtlnmgljiggebiaaW.PrintLast

theorem wrap_pred (i : Nat) (h : i < 9223372036854775807) : wrap64 (((i + 1 : Nat) : Int) - 1) = (i : Int) := by unfold wrap64; omega
theorem same_l0 (l : List (List Int)) (hl : l.length ≤ 60) (h6 : ∀ x ∈ l, x.length ≤ 6) : ∀ (i : Nat) (b : List (List Int)), i ≤ l.length → b.length + i = l.length → (∀ x, (x ∈ b ∨ x ∈ l.take i) ↔ x ∈ l) → Ev (fun k => arboristlaw01_TupleSame.l0 k l true b (i : Int)) true
  | 0, b, h, hb, hm => by
    have hm2 : ∀ x, x ∈ b ↔ x ∈ l := fun x => by have := hm x; simpa using this
    have sl := sortT_len l
    have s6 : ∀ x ∈ sortT l, x.length ≤ 6 := fun x hx => h6 x ((sortT_mem l x).1 hx)
    have e1 : sortT (sortT l) = sortT l := sortT_congr _ _ (fun x => sortT_mem l x)
    have e2 : sortT b = sortT l := sortT_congr _ _ hm2
    have e3 : sortT (b ++ l) = sortT l := sortT_congr _ _ (fun x => by rw [List.mem_append, hm2, or_self])
    refine evs1 (same_ev (sortT l) (by omega) (fun x hx => by have := s6 x hx; omega)) (fun k e => ?_)
    rw [arboristlaw01_TupleSame.l0, if_neg (by omega), sort_f l (by omega) (fun x hx => by have := h6 x hx; omega), Option.bind_some, if_pos rfl, sort_f (sortT l) (by omega) (fun x hx => by have := s6 x hx; omega), Option.bind_some, e1, e, Option.bind_some, if_pos rfl,
      sort_f b (by omega) (fun x hx => by have := h6 x ((hm2 x).1 hx); omega), Option.bind_some, e2, e, Option.bind_some, if_pos rfl, if_pos (by omega),
      sort_f (b ++ l) (by simp; omega) (fun x hx => by
        have hx2 : x ∈ l := by
          rcases List.mem_append.1 hx with h | h
          · exact (hm2 x).1 h
          · exact h
        have := h6 x hx2
        omega), Option.bind_some, e3, e]
    rfl
  | i + 1, b, h, hb, hm => by
    have hi : i < l.length := by omega
    refine evs1 (same_l0 l hl h6 i (b ++ [l[i]]) (by omega) (by simp; omega) (fun x => ?_)) (fun k e => ?_)
    · rw [← hm x, List.take_succ_eq_append_getElem hi, List.mem_append, List.mem_append]
      constructor
      · rintro ((h | h) | h)
        · exact .inl h
        · exact .inr (.inr h)
        · exact .inr (.inl h)
      · rintro (h | h | h)
        · exact .inl (.inl h)
        · exact .inr h
        · exact .inl (.inr h)
    · rw [arboristlaw01_TupleSame.l0, if_pos (by omega), wrap_pred i (by omega), if_pos (by omega), if_pos (by omega), if_pos (by omega), atL1 l i hi]
      exact e
theorem TupleSame : arboristlaw01_TupleSame.Pure := by
  intro l hl
  have hl1 := hl.1
  clear hl
  unfold maxLen at hl1
  have f1 := few_ev l
  have n1 := fewT_len l
  have n2 := fewT_in l
  obtain ⟨F, hF⟩ : ∃ F, fewT l = F := ⟨_, rfl⟩
  rw [hF] at f1 n1 n2
  have r3 := same_l0 F n1 n2 F.length [] (by omega) (by simp) (fun x => by simp)
  refine (evu3 shown_01 f1 r3 (fun k e1 e2 e6 => ?_)).rounds
  simp only [arboristlaw01_TupleSame.f]
  rw [e1, Option.bind_some, e2, Option.bind_some]
  exact e6
end Go.Proofs.Ytlnmgljiggebiaa.Pure
