/- OrderPermutes: an order is one from the other end, too; one that has a point twice, or less, or more, is none. -/
-- merge
import Derived.Laws.BitsAllLaws
import Derived.Test.YtefmpehjahfnpaaDoorPr0
import Derived.Test.YtefmpehjahfnpaaDoorPr1
import Derived.Test.YtefmpehjahfnpaaDoorPr20
import Derived.Test.YtefmpehjahfnpaaDoorPr21
import Derived.Test.YtefmpehjahfnpaaDoorPr22
import Derived.Test.YtefmpehjahfnpaaDoorPr23
import Derived.Test.YtefmpehjahfnpaaDoorPr24
import Derived.Test.YtefmpehjahfnpaaDoorPr25
import Derived.Test.YtefmpehjahfnpaaDoorPr27
import Derived.Test.YtefmpehjahfnpaaDoorPr3
import Derived.Test.YtefmpehjahfnpaaDoorPr34
import Derived.Test.YtefmpehjahfnpaaDoorPr38
import Derived.Test.YtefmpehjahfnpaaDoorPr39
import Derived.Test.YtefmpehjahfnpaaDoorPr4
namespace Go.Proofs.YtefmpehjahfnpaaDoor.Pr
open Go.RowKit Go.Proofs.YtefmpehjahfnpaaDoorW.PrintWords Go.Proofs.YtefmpehjahfnpaaDoorW.PrintLast
theorem evs0 {ρ : Type} {F : Nat → Option ρ} {r : ρ} (H : ∀ k, F (k + 1) = some r) : Ev F r := ⟨1, fun k hk => by obtain ⟨m, rfl⟩ : ∃ m, k = m + 1 := ⟨k - 1, by omega⟩; exact H m⟩
theorem evu0 {ρ : Type} {F : Nat → Option ρ} {r : ρ} (H : ∀ k, F k = some r) : Ev F r := ⟨0, fun k _ => H k⟩
theorem evu1 {ρ : Type} {F : Nat → Option ρ} {r : ρ} {α1 : Type} {g1 : Nat → Option α1} {a1 : α1} (h1 : Ev g1 a1) (H : ∀ k, g1 k = some a1 → F k = some r) : Ev F r := by
  obtain ⟨K1, e1⟩ := h1
  exact ⟨K1, fun k hk => H k (e1 _ (by omega))⟩
theorem evs1 {ρ : Type} {F : Nat → Option ρ} {r : ρ} {α1 : Type} {g1 : Nat → Option α1} {a1 : α1} (h1 : Ev g1 a1) (H : ∀ k, g1 k = some a1 → F (k + 1) = some r) : Ev F r := by
  obtain ⟨K1, e1⟩ := h1
  refine ⟨K1 + 1, fun k hk => ?_⟩
  obtain ⟨m, rfl⟩ : ∃ m, k = m + 1 := ⟨k - 1, by omega⟩
  exact H m (e1 _ (by omega))
theorem evu2 {ρ : Type} {F : Nat → Option ρ} {r : ρ} {α1 : Type} {g1 : Nat → Option α1} {a1 : α1} {α2 : Type} {g2 : Nat → Option α2} {a2 : α2} (h1 : Ev g1 a1) (h2 : Ev g2 a2) (H : ∀ k, g1 k = some a1 → g2 k = some a2 → F k = some r) : Ev F r := by
  obtain ⟨K1, e1⟩ := h1; obtain ⟨K2, e2⟩ := h2
  exact ⟨K1 + K2, fun k hk => H k (e1 _ (by omega)) (e2 _ (by omega))⟩
theorem evs2 {ρ : Type} {F : Nat → Option ρ} {r : ρ} {α1 : Type} {g1 : Nat → Option α1} {a1 : α1} {α2 : Type} {g2 : Nat → Option α2} {a2 : α2} (h1 : Ev g1 a1) (h2 : Ev g2 a2) (H : ∀ k, g1 k = some a1 → g2 k = some a2 → F (k + 1) = some r) : Ev F r := by
  obtain ⟨K1, e1⟩ := h1; obtain ⟨K2, e2⟩ := h2
  refine ⟨K1 + K2 + 1, fun k hk => ?_⟩
  obtain ⟨m, rfl⟩ : ∃ m, k = m + 1 := ⟨k - 1, by omega⟩
  exact H m (e1 _ (by omega)) (e2 _ (by omega))
theorem evu3 {ρ : Type} {F : Nat → Option ρ} {r : ρ} {α1 : Type} {g1 : Nat → Option α1} {a1 : α1} {α2 : Type} {g2 : Nat → Option α2} {a2 : α2} {α3 : Type} {g3 : Nat → Option α3} {a3 : α3} (h1 : Ev g1 a1) (h2 : Ev g2 a2) (h3 : Ev g3 a3) (H : ∀ k, g1 k = some a1 → g2 k = some a2 → g3 k = some a3 → F k = some r) : Ev F r := by
  obtain ⟨K1, e1⟩ := h1; obtain ⟨K2, e2⟩ := h2; obtain ⟨K3, e3⟩ := h3
  exact ⟨K1 + K2 + K3, fun k hk => H k (e1 _ (by omega)) (e2 _ (by omega)) (e3 _ (by omega))⟩
theorem evs3 {ρ : Type} {F : Nat → Option ρ} {r : ρ} {α1 : Type} {g1 : Nat → Option α1} {a1 : α1} {α2 : Type} {g2 : Nat → Option α2} {a2 : α2} {α3 : Type} {g3 : Nat → Option α3} {a3 : α3} (h1 : Ev g1 a1) (h2 : Ev g2 a2) (h3 : Ev g3 a3) (H : ∀ k, g1 k = some a1 → g2 k = some a2 → g3 k = some a3 → F (k + 1) = some r) : Ev F r := by
  obtain ⟨K1, e1⟩ := h1; obtain ⟨K2, e2⟩ := h2; obtain ⟨K3, e3⟩ := h3
  refine ⟨K1 + K2 + K3 + 1, fun k hk => ?_⟩
  obtain ⟨m, rfl⟩ : ∃ m, k = m + 1 := ⟨k - 1, by omega⟩
  exact H m (e1 _ (by omega)) (e2 _ (by omega)) (e3 _ (by omega))
theorem evu4 {ρ : Type} {F : Nat → Option ρ} {r : ρ} {α1 : Type} {g1 : Nat → Option α1} {a1 : α1} {α2 : Type} {g2 : Nat → Option α2} {a2 : α2} {α3 : Type} {g3 : Nat → Option α3} {a3 : α3} {α4 : Type} {g4 : Nat → Option α4} {a4 : α4} (h1 : Ev g1 a1) (h2 : Ev g2 a2) (h3 : Ev g3 a3) (h4 : Ev g4 a4) (H : ∀ k, g1 k = some a1 → g2 k = some a2 → g3 k = some a3 → g4 k = some a4 → F k = some r) : Ev F r := by
  obtain ⟨K1, e1⟩ := h1; obtain ⟨K2, e2⟩ := h2; obtain ⟨K3, e3⟩ := h3; obtain ⟨K4, e4⟩ := h4
  exact ⟨K1 + K2 + K3 + K4, fun k hk => H k (e1 _ (by omega)) (e2 _ (by omega)) (e3 _ (by omega)) (e4 _ (by omega))⟩
theorem evs4 {ρ : Type} {F : Nat → Option ρ} {r : ρ} {α1 : Type} {g1 : Nat → Option α1} {a1 : α1} {α2 : Type} {g2 : Nat → Option α2} {a2 : α2} {α3 : Type} {g3 : Nat → Option α3} {a3 : α3} {α4 : Type} {g4 : Nat → Option α4} {a4 : α4} (h1 : Ev g1 a1) (h2 : Ev g2 a2) (h3 : Ev g3 a3) (h4 : Ev g4 a4) (H : ∀ k, g1 k = some a1 → g2 k = some a2 → g3 k = some a3 → g4 k = some a4 → F (k + 1) = some r) : Ev F r := by
  obtain ⟨K1, e1⟩ := h1; obtain ⟨K2, e2⟩ := h2; obtain ⟨K3, e3⟩ := h3; obtain ⟨K4, e4⟩ := h4
  refine ⟨K1 + K2 + K3 + K4 + 1, fun k hk => ?_⟩
  obtain ⟨m, rfl⟩ : ∃ m, k = m + 1 := ⟨k - 1, by omega⟩
  exact H m (e1 _ (by omega)) (e2 _ (by omega)) (e3 _ (by omega)) (e4 _ (by omega))
theorem evu5 {ρ : Type} {F : Nat → Option ρ} {r : ρ} {α1 : Type} {g1 : Nat → Option α1} {a1 : α1} {α2 : Type} {g2 : Nat → Option α2} {a2 : α2} {α3 : Type} {g3 : Nat → Option α3} {a3 : α3} {α4 : Type} {g4 : Nat → Option α4} {a4 : α4} {α5 : Type} {g5 : Nat → Option α5} {a5 : α5} (h1 : Ev g1 a1) (h2 : Ev g2 a2) (h3 : Ev g3 a3) (h4 : Ev g4 a4) (h5 : Ev g5 a5) (H : ∀ k, g1 k = some a1 → g2 k = some a2 → g3 k = some a3 → g4 k = some a4 → g5 k = some a5 → F k = some r) : Ev F r := by
  obtain ⟨K1, e1⟩ := h1; obtain ⟨K2, e2⟩ := h2; obtain ⟨K3, e3⟩ := h3; obtain ⟨K4, e4⟩ := h4; obtain ⟨K5, e5⟩ := h5
  exact ⟨K1 + K2 + K3 + K4 + K5, fun k hk => H k (e1 _ (by omega)) (e2 _ (by omega)) (e3 _ (by omega)) (e4 _ (by omega)) (e5 _ (by omega))⟩
theorem evs5 {ρ : Type} {F : Nat → Option ρ} {r : ρ} {α1 : Type} {g1 : Nat → Option α1} {a1 : α1} {α2 : Type} {g2 : Nat → Option α2} {a2 : α2} {α3 : Type} {g3 : Nat → Option α3} {a3 : α3} {α4 : Type} {g4 : Nat → Option α4} {a4 : α4} {α5 : Type} {g5 : Nat → Option α5} {a5 : α5} (h1 : Ev g1 a1) (h2 : Ev g2 a2) (h3 : Ev g3 a3) (h4 : Ev g4 a4) (h5 : Ev g5 a5) (H : ∀ k, g1 k = some a1 → g2 k = some a2 → g3 k = some a3 → g4 k = some a4 → g5 k = some a5 → F (k + 1) = some r) : Ev F r := by
  obtain ⟨K1, e1⟩ := h1; obtain ⟨K2, e2⟩ := h2; obtain ⟨K3, e3⟩ := h3; obtain ⟨K4, e4⟩ := h4; obtain ⟨K5, e5⟩ := h5
  refine ⟨K1 + K2 + K3 + K4 + K5 + 1, fun k hk => ?_⟩
  obtain ⟨m, rfl⟩ : ∃ m, k = m + 1 := ⟨k - 1, by omega⟩
  exact H m (e1 _ (by omega)) (e2 _ (by omega)) (e3 _ (by omega)) (e4 _ (by omega)) (e5 _ (by omega))
theorem evu6 {ρ : Type} {F : Nat → Option ρ} {r : ρ} {α1 : Type} {g1 : Nat → Option α1} {a1 : α1} {α2 : Type} {g2 : Nat → Option α2} {a2 : α2} {α3 : Type} {g3 : Nat → Option α3} {a3 : α3} {α4 : Type} {g4 : Nat → Option α4} {a4 : α4} {α5 : Type} {g5 : Nat → Option α5} {a5 : α5} {α6 : Type} {g6 : Nat → Option α6} {a6 : α6} (h1 : Ev g1 a1) (h2 : Ev g2 a2) (h3 : Ev g3 a3) (h4 : Ev g4 a4) (h5 : Ev g5 a5) (h6 : Ev g6 a6) (H : ∀ k, g1 k = some a1 → g2 k = some a2 → g3 k = some a3 → g4 k = some a4 → g5 k = some a5 → g6 k = some a6 → F k = some r) : Ev F r := by
  obtain ⟨K1, e1⟩ := h1; obtain ⟨K2, e2⟩ := h2; obtain ⟨K3, e3⟩ := h3; obtain ⟨K4, e4⟩ := h4; obtain ⟨K5, e5⟩ := h5; obtain ⟨K6, e6⟩ := h6
  exact ⟨K1 + K2 + K3 + K4 + K5 + K6, fun k hk => H k (e1 _ (by omega)) (e2 _ (by omega)) (e3 _ (by omega)) (e4 _ (by omega)) (e5 _ (by omega)) (e6 _ (by omega))⟩
theorem evs6 {ρ : Type} {F : Nat → Option ρ} {r : ρ} {α1 : Type} {g1 : Nat → Option α1} {a1 : α1} {α2 : Type} {g2 : Nat → Option α2} {a2 : α2} {α3 : Type} {g3 : Nat → Option α3} {a3 : α3} {α4 : Type} {g4 : Nat → Option α4} {a4 : α4} {α5 : Type} {g5 : Nat → Option α5} {a5 : α5} {α6 : Type} {g6 : Nat → Option α6} {a6 : α6} (h1 : Ev g1 a1) (h2 : Ev g2 a2) (h3 : Ev g3 a3) (h4 : Ev g4 a4) (h5 : Ev g5 a5) (h6 : Ev g6 a6) (H : ∀ k, g1 k = some a1 → g2 k = some a2 → g3 k = some a3 → g4 k = some a4 → g5 k = some a5 → g6 k = some a6 → F (k + 1) = some r) : Ev F r := by
  obtain ⟨K1, e1⟩ := h1; obtain ⟨K2, e2⟩ := h2; obtain ⟨K3, e3⟩ := h3; obtain ⟨K4, e4⟩ := h4; obtain ⟨K5, e5⟩ := h5; obtain ⟨K6, e6⟩ := h6
  refine ⟨K1 + K2 + K3 + K4 + K5 + K6 + 1, fun k hk => ?_⟩
  obtain ⟨m, rfl⟩ : ∃ m, k = m + 1 := ⟨k - 1, by omega⟩
  exact H m (e1 _ (by omega)) (e2 _ (by omega)) (e3 _ (by omega)) (e4 _ (by omega)) (e5 _ (by omega)) (e6 _ (by omega))
theorem evu7 {ρ : Type} {F : Nat → Option ρ} {r : ρ} {α1 : Type} {g1 : Nat → Option α1} {a1 : α1} {α2 : Type} {g2 : Nat → Option α2} {a2 : α2} {α3 : Type} {g3 : Nat → Option α3} {a3 : α3} {α4 : Type} {g4 : Nat → Option α4} {a4 : α4} {α5 : Type} {g5 : Nat → Option α5} {a5 : α5} {α6 : Type} {g6 : Nat → Option α6} {a6 : α6} {α7 : Type} {g7 : Nat → Option α7} {a7 : α7} (h1 : Ev g1 a1) (h2 : Ev g2 a2) (h3 : Ev g3 a3) (h4 : Ev g4 a4) (h5 : Ev g5 a5) (h6 : Ev g6 a6) (h7 : Ev g7 a7) (H : ∀ k, g1 k = some a1 → g2 k = some a2 → g3 k = some a3 → g4 k = some a4 → g5 k = some a5 → g6 k = some a6 → g7 k = some a7 → F k = some r) : Ev F r := by
  obtain ⟨K1, e1⟩ := h1; obtain ⟨K2, e2⟩ := h2; obtain ⟨K3, e3⟩ := h3; obtain ⟨K4, e4⟩ := h4; obtain ⟨K5, e5⟩ := h5; obtain ⟨K6, e6⟩ := h6; obtain ⟨K7, e7⟩ := h7
  exact ⟨K1 + K2 + K3 + K4 + K5 + K6 + K7, fun k hk => H k (e1 _ (by omega)) (e2 _ (by omega)) (e3 _ (by omega)) (e4 _ (by omega)) (e5 _ (by omega)) (e6 _ (by omega)) (e7 _ (by omega))⟩
theorem evs7 {ρ : Type} {F : Nat → Option ρ} {r : ρ} {α1 : Type} {g1 : Nat → Option α1} {a1 : α1} {α2 : Type} {g2 : Nat → Option α2} {a2 : α2} {α3 : Type} {g3 : Nat → Option α3} {a3 : α3} {α4 : Type} {g4 : Nat → Option α4} {a4 : α4} {α5 : Type} {g5 : Nat → Option α5} {a5 : α5} {α6 : Type} {g6 : Nat → Option α6} {a6 : α6} {α7 : Type} {g7 : Nat → Option α7} {a7 : α7} (h1 : Ev g1 a1) (h2 : Ev g2 a2) (h3 : Ev g3 a3) (h4 : Ev g4 a4) (h5 : Ev g5 a5) (h6 : Ev g6 a6) (h7 : Ev g7 a7) (H : ∀ k, g1 k = some a1 → g2 k = some a2 → g3 k = some a3 → g4 k = some a4 → g5 k = some a5 → g6 k = some a6 → g7 k = some a7 → F (k + 1) = some r) : Ev F r := by
  obtain ⟨K1, e1⟩ := h1; obtain ⟨K2, e2⟩ := h2; obtain ⟨K3, e3⟩ := h3; obtain ⟨K4, e4⟩ := h4; obtain ⟨K5, e5⟩ := h5; obtain ⟨K6, e6⟩ := h6; obtain ⟨K7, e7⟩ := h7
  refine ⟨K1 + K2 + K3 + K4 + K5 + K6 + K7 + 1, fun k hk => ?_⟩
  obtain ⟨m, rfl⟩ : ∃ m, k = m + 1 := ⟨k - 1, by omega⟩
  exact H m (e1 _ (by omega)) (e2 _ (by omega)) (e3 _ (by omega)) (e4 _ (by omega)) (e5 _ (by omega)) (e6 _ (by omega)) (e7 _ (by omega))
theorem evu8 {ρ : Type} {F : Nat → Option ρ} {r : ρ} {α1 : Type} {g1 : Nat → Option α1} {a1 : α1} {α2 : Type} {g2 : Nat → Option α2} {a2 : α2} {α3 : Type} {g3 : Nat → Option α3} {a3 : α3} {α4 : Type} {g4 : Nat → Option α4} {a4 : α4} {α5 : Type} {g5 : Nat → Option α5} {a5 : α5} {α6 : Type} {g6 : Nat → Option α6} {a6 : α6} {α7 : Type} {g7 : Nat → Option α7} {a7 : α7} {α8 : Type} {g8 : Nat → Option α8} {a8 : α8} (h1 : Ev g1 a1) (h2 : Ev g2 a2) (h3 : Ev g3 a3) (h4 : Ev g4 a4) (h5 : Ev g5 a5) (h6 : Ev g6 a6) (h7 : Ev g7 a7) (h8 : Ev g8 a8) (H : ∀ k, g1 k = some a1 → g2 k = some a2 → g3 k = some a3 → g4 k = some a4 → g5 k = some a5 → g6 k = some a6 → g7 k = some a7 → g8 k = some a8 → F k = some r) : Ev F r := by
  obtain ⟨K1, e1⟩ := h1; obtain ⟨K2, e2⟩ := h2; obtain ⟨K3, e3⟩ := h3; obtain ⟨K4, e4⟩ := h4; obtain ⟨K5, e5⟩ := h5; obtain ⟨K6, e6⟩ := h6; obtain ⟨K7, e7⟩ := h7; obtain ⟨K8, e8⟩ := h8
  exact ⟨K1 + K2 + K3 + K4 + K5 + K6 + K7 + K8, fun k hk => H k (e1 _ (by omega)) (e2 _ (by omega)) (e3 _ (by omega)) (e4 _ (by omega)) (e5 _ (by omega)) (e6 _ (by omega)) (e7 _ (by omega)) (e8 _ (by omega))⟩
theorem evs8 {ρ : Type} {F : Nat → Option ρ} {r : ρ} {α1 : Type} {g1 : Nat → Option α1} {a1 : α1} {α2 : Type} {g2 : Nat → Option α2} {a2 : α2} {α3 : Type} {g3 : Nat → Option α3} {a3 : α3} {α4 : Type} {g4 : Nat → Option α4} {a4 : α4} {α5 : Type} {g5 : Nat → Option α5} {a5 : α5} {α6 : Type} {g6 : Nat → Option α6} {a6 : α6} {α7 : Type} {g7 : Nat → Option α7} {a7 : α7} {α8 : Type} {g8 : Nat → Option α8} {a8 : α8} (h1 : Ev g1 a1) (h2 : Ev g2 a2) (h3 : Ev g3 a3) (h4 : Ev g4 a4) (h5 : Ev g5 a5) (h6 : Ev g6 a6) (h7 : Ev g7 a7) (h8 : Ev g8 a8) (H : ∀ k, g1 k = some a1 → g2 k = some a2 → g3 k = some a3 → g4 k = some a4 → g5 k = some a5 → g6 k = some a6 → g7 k = some a7 → g8 k = some a8 → F (k + 1) = some r) : Ev F r := by
  obtain ⟨K1, e1⟩ := h1; obtain ⟨K2, e2⟩ := h2; obtain ⟨K3, e3⟩ := h3; obtain ⟨K4, e4⟩ := h4; obtain ⟨K5, e5⟩ := h5; obtain ⟨K6, e6⟩ := h6; obtain ⟨K7, e7⟩ := h7; obtain ⟨K8, e8⟩ := h8
  refine ⟨K1 + K2 + K3 + K4 + K5 + K6 + K7 + K8 + 1, fun k hk => ?_⟩
  obtain ⟨m, rfl⟩ : ∃ m, k = m + 1 := ⟨k - 1, by omega⟩
  exact H m (e1 _ (by omega)) (e2 _ (by omega)) (e3 _ (by omega)) (e4 _ (by omega)) (e5 _ (by omega)) (e6 _ (by omega)) (e7 _ (by omega)) (e8 _ (by omega))
end Go.Proofs.YtefmpehjahfnpaaDoor.Pr

set_option linter.unusedVariables false
namespace Go.Proofs.YtefmpehjahfnpaaDoor.Pr
open Go.RowKit Go.Proofs.YtefmpehjahfnpaaDoorW.PrintWords Go.Proofs.YtefmpehjahfnpaaDoorW.PrintLast

theorem drop_at (l : List Int) (i : Nat) (h : i < l.length) : l.drop i = rd l (i : Int) :: l.drop (i + 1) := by
  rw [List.drop_eq_getElem_cons h, rd_nat l i _ (List.getElem?_eq_getElem h)]
theorem wrap_nat (i : Nat) (h : i < 9223372036854775807) : wrap64 ((i : Int) + 1) = ((i + 1 : Nat) : Int) := by rw [wrap_succ (by omega) (by omega)]; rfl
def inB (l : List Int) (v : Int) : Bool := l.any (fun x => x == v)
def cmpL : List Int → List Int → Int
  | [], [] => 0
  | [], _ :: _ => -1
  | _ :: _, [] => 1
  | a :: l, b :: m => if a < b then -1 else if b < a then 1 else cmpL l m
theorem Compare_loop (a b : List Int) (ha : a.length ≤ 9223372036854775807) (hb : b.length ≤ 9223372036854775807) : ∀ (d i : Nat), a.length = i + d → i ≤ b.length → a.take i = b.take i → Ev (fun k => arboristref01_Compare.l0 k a b (i : Int)) (cmpL (a.drop i) (b.drop i)) := by
  intro d
  induction d with
  | zero =>
    intro i h hb2 he
    refine Ev.step (f := fun k => arboristref01_Compare.j1 k a b (i : Int) false) (fun k => ?_) ?_
    · simp only [arboristref01_Compare.l0]; rw [if_neg (by omega)]
    · refine Ev.step (f := fun _ => some (cmpL (a.drop i) (b.drop i))) (fun k => ?_) (Ev.now _)
      simp only [arboristref01_Compare.j1]
      rw [if_neg (by simp), List.drop_eq_nil_of_le (by omega)]
      by_cases hlt : i < b.length
      · rw [if_pos (by omega), drop_at b i hlt]; rfl
      · rw [if_neg (by omega), if_neg (by omega), List.drop_eq_nil_of_le (by omega)]; rfl
  | succ d ih =>
    intro i h hb2 he
    have hi : i < a.length := by omega
    by_cases hlt : i < b.length
    · refine Ev.step (f := fun k => arboristref01_Compare.j1 k a b (i : Int) true) (fun k => ?_) ?_
      · simp only [arboristref01_Compare.l0]; rw [if_pos (by omega), show decide ((i : Int) < (b.length : Int)) = true from decide_eq_true (by omega)]
      · rw [drop_at a i hi, drop_at b i hlt]
        by_cases h1 : rd a (i : Int) < rd b (i : Int)
        · refine Ev.step (f := fun _ => some (-1)) (fun k => ?_) (by simp only [cmpL, if_pos h1]; exact Ev.now _)
          simp only [arboristref01_Compare.j1]
          rw [if_pos trivial, if_pos (by omega), if_pos (by omega), if_pos (by omega), if_pos h1]
        · by_cases h2 : rd b (i : Int) < rd a (i : Int)
          · refine Ev.step (f := fun _ => some 1) (fun k => ?_) (by simp only [cmpL, if_neg h1, if_pos h2]; exact Ev.now _)
            simp only [arboristref01_Compare.j1]
            rw [if_pos trivial, if_pos (by omega), if_pos (by omega), if_pos (by omega), if_neg h1, if_pos h2]
          · refine Ev.step (f := fun k => arboristref01_Compare.l0 k a b ((i + 1 : Nat) : Int)) (fun k => ?_) ?_
            · simp only [arboristref01_Compare.j1]
              rw [if_pos trivial, if_pos (by omega), if_pos (by omega), if_pos (by omega), if_neg h1, if_neg (by omega), wrap_nat i (by omega)]
            · simp only [cmpL, if_neg h1, if_neg h2]
              refine ih (i + 1) (by omega) (by omega) ?_
              have e1 := rd_nat a i _ (List.getElem?_eq_getElem hi)
              have e2 := rd_nat b i _ (List.getElem?_eq_getElem hlt)
              rw [List.take_succ_eq_append_getElem hi, List.take_succ_eq_append_getElem hlt, he]
              have : a[i] = b[i] := by omega
              rw [this]
    · refine Ev.step (f := fun k => arboristref01_Compare.j1 k a b (i : Int) false) (fun k => ?_) ?_
      · simp only [arboristref01_Compare.l0]; rw [if_pos (by omega), show decide ((i : Int) < (b.length : Int)) = false from decide_eq_false (by omega)]
      · refine Ev.step (f := fun _ => some (cmpL (a.drop i) (b.drop i))) (fun k => ?_) (Ev.now _)
        simp only [arboristref01_Compare.j1]
        rw [if_neg (by simp), if_neg (by omega), if_pos (by omega), drop_at a i hi, show b.drop i = [] from List.drop_eq_nil_of_le (by omega)]
        rfl
theorem Compare_ev (a b : List Int) (ha : a.length ≤ 9223372036854775807) (hb : b.length ≤ 9223372036854775807) : Ev (fun k => arboristref01_Compare.f k a b) (cmpL a b) := by
  have := Compare_loop a b ha hb a.length 0 (by omega) (by omega) rfl
  simpa [arboristref01_Compare.f] using this
theorem cmpL_self : ∀ a : List Int, cmpL a a = 0
  | [] => rfl
  | a :: l => by simp [cmpL, cmpL_self l]
theorem cmpL_eq : ∀ a b : List Int, cmpL a b = 0 ↔ a = b
  | [], [] => by simp [cmpL]
  | [], _ :: _ => by simp [cmpL]
  | _ :: _, [] => by simp [cmpL]
  | a :: l, b :: m => by
    simp only [cmpL]
    split
    · simp; intro e; omega
    · split
      · simp; intro e; omega
      · rw [cmpL_eq l m]; simp; intro _; omega

end Go.Proofs.YtefmpehjahfnpaaDoor.Pr

set_option linter.unusedVariables false
set_option linter.unusedSimpArgs false
namespace Go.Proofs.YtefmpehjahfnpaaDoor.Pr
open Go.RowKit Go.Proofs.YtefmpehjahfnpaaDoorW.PrintWords Go.Proofs.YtefmpehjahfnpaaDoorW.PrintLast Go.Proofs.YtefmpehjahfnpaaDoorW.PrintMore

/-- The word of the truths of f below n. -/
def wd : Nat → (Nat → Bool) → Nat
  | 0, _ => 0
  | n + 1, f => 2 ^ n * (if f n = true then 1 else 0) + wd n f
theorem wd_lt : ∀ (n : Nat) (f : Nat → Bool), wd n f < 2 ^ n
  | 0, _ => by simp [wd]
  | n + 1, f => by
    have := wd_lt n f
    rw [wd, Nat.pow_succ]
    split <;> omega
theorem one_bit (j : Nat) : (1 : Nat).testBit (j + 1) = false := by rw [Nat.testBit_succ]; simp
theorem wd_bit : ∀ (n : Nat) (f : Nat → Bool) (i : Nat), (wd n f).testBit i = (decide (i < n) && f i)
  | 0, f, i => by simp [wd]
  | n + 1, f, i => by
    rw [wd, Nat.testBit_two_pow_mul_add _ (wd_lt n f), wd_bit n f i]
    by_cases h : i < n
    · rw [if_pos h, decide_eq_true h, decide_eq_true (show i < n + 1 by omega)]
    · rw [if_neg h]
      by_cases e : i = n
      · subst e
        rw [Nat.sub_self, decide_eq_true (show i < i + 1 by omega), Bool.true_and]
        by_cases hf : f i = true
        · rw [if_pos hf, hf]; decide
        · rw [if_neg hf, Bool.not_eq_true _ |>.mp hf]; decide
      · obtain ⟨j, rfl⟩ : ∃ j, i = n + (j + 1) := ⟨i - n - 1, by omega⟩
        rw [decide_eq_false (show ¬ n + (j + 1) < n + 1 by omega), Bool.false_and, show n + (j + 1) - n = j + 1 by omega]
        split
        · exact one_bit j
        · simp
theorem bits_ge {x n : Nat} (h : x < 2 ^ n) {i : Nat} (hi : n ≤ i) : x.testBit i = false := Nat.testBit_lt_two_pow (Nat.lt_of_lt_of_le h (Nat.pow_le_pow_right (by omega) hi))
theorem wd_self {x n : Nat} (h : ∀ i, n ≤ i → x.testBit i = false) : wd n (fun i => x.testBit i) = x := Nat.eq_of_testBit_eq (fun i => by
  rw [wd_bit]
  by_cases c : i < n
  · rw [decide_eq_true c, Bool.true_and]
  · rw [decide_eq_false c, Bool.false_and, h i (by omega)])
theorem lt_of_bits {x n : Nat} (h : ∀ i, n ≤ i → x.testBit i = false) : x < 2 ^ n := by
  have := wd_lt n (fun i => x.testBit i)
  rwa [wd_self h] at this
theorem pow_64 : (2 : Nat) ^ 64 = 18446744073709551616 := by decide
theorem wd_64 {n : Nat} (h : n ≤ 64) (f : Nat → Bool) : wd n f < 18446744073709551616 := by
  rw [← pow_64]
  exact Nat.lt_of_lt_of_le (wd_lt n f) (Nat.pow_le_pow_right (by omega) h)
theorem shr_nat (x y : Nat) (hx : x < 18446744073709551616) : shr .u64 (x : Int) (y : Int) = ((x / 2 ^ y : Nat) : Int) := by
  unfold shr
  have hb : IntKind.bits .u64 = 64 := rfl
  rw [Int.toNat_natCast, hb]
  by_cases h : y ≤ 64
  · rw [Nat.min_eq_left h]
    push_cast
    rfl
  · rw [Nat.min_eq_right (by omega)]
    have e : x / 2 ^ y = 0 := Nat.div_eq_of_lt (Nat.lt_of_lt_of_le hx (by rw [← pow_64]; exact Nat.pow_le_pow_right (by omega) (by omega)))
    rw [e]
    omega
theorem shr_zero (x n : Nat) (hx : x < 18446744073709551616) : (shr .u64 (x : Int) (n : Int) = 0) ↔ x < 2 ^ n := by
  rw [shr_nat x n hx]
  have hp : 0 < 2 ^ n := Nat.two_pow_pos n
  constructor
  · intro h
    have h0 : x / 2 ^ n = 0 := by omega
    exact (Nat.div_eq_zero_iff_lt hp).1 h0
  · intro h
    rw [Nat.div_eq_of_lt h]; rfl
theorem and_one (x y : Nat) (hx : x < 18446744073709551616) : Go.bits .and .u64 (shr .u64 (x : Int) (y : Int)) 1 = if x.testBit y = true then 1 else 0 := by
  have h1 : x / 2 ^ y < 18446744073709551616 := Nat.lt_of_le_of_lt (Nat.div_le_self _ _) hx
  rw [shr_nat x y hx, show (1 : Int) = ((1 : Nat) : Int) from rfl, u64_and_nat _ _ h1 (by decide), Nat.and_one_is_mod, Nat.testBit_eq_decide_div_mod_eq]
  by_cases c : x / 2 ^ y % 2 = 1
  · rw [c]; simp
  · rw [show x / 2 ^ y % 2 = 0 by omega]; simp
theorem shl_one (b : Nat) (h : b < 64) : shl .u64 1 (b : Int) = ((2 ^ b : Nat) : Int) := by
  unfold shl
  have hb : IntKind.bits .u64 = 64 := rfl
  have hp : 2 ^ b < 18446744073709551616 := by rw [← pow_64]; exact Nat.pow_lt_pow_right (by omega) h
  rw [Int.toNat_natCast, hb, Nat.min_eq_left (by omega), IntKind.wrap_u64, Int.one_mul]
  have e : ((2 : Int) ^ b) = ((2 ^ b : Nat) : Int) := by push_cast; rfl
  rw [e]
  obtain ⟨p, hp1⟩ : ∃ p : Nat, p = 2 ^ b := ⟨_, rfl⟩
  rw [← hp1] at hp ⊢
  omega
theorem pow_bit (b i : Nat) : (2 ^ b).testBit i = decide (b = i) := Nat.testBit_two_pow
theorem andNot_u64 (a b : Nat) (ha : a < 18446744073709551616) (hb : b < 18446744073709551616) : ∃ c : Nat, c < 18446744073709551616 ∧ Go.bits .andNot .u64 (a : Int) (b : Int) = (c : Int) ∧ ∀ i, c.testBit i = (a.testBit i && !b.testBit i) := by
  refine ⟨a &&& (18446744073709551615 - b), Nat.lt_of_le_of_lt Nat.and_le_left ha, u64_andNot_nat a b ha hb, fun i => ?_⟩
  rw [Nat.testBit_and, show 18446744073709551615 - b = 2 ^ 64 - (b + 1) by omega, Nat.testBit_two_pow_sub_succ (by omega)]
  by_cases c : i < 64
  · rw [decide_eq_true c, Bool.true_and]
  · rw [decide_eq_false c, Bool.false_and, bits_ge (n := 64) (by omega) (by omega)]
    simp
theorem or_u64 (a b : Nat) (ha : a < 18446744073709551616) (hb : b < 18446744073709551616) : a ||| b < 18446744073709551616 ∧ Go.bits .or .u64 (a : Int) (b : Int) = ((a ||| b : Nat) : Int) := by
  refine ⟨?_, u64_or_nat a b ha hb⟩
  rw [← pow_64] at ha hb ⊢
  exact Nat.or_lt_two_pow ha hb
theorem pow_lt_64 (b : Nat) (h : b < 64) : 2 ^ b < 18446744073709551616 := by rw [← pow_64]; exact Nat.pow_lt_pow_right (by omega) h
/-! ### the places of a word's bits -/
theorem mem_listW (x : Nat) (v : Int) : v ∈ listN x ↔ ∃ i : Nat, i < 64 ∧ x.testBit i = true ∧ v = (i : Int) := by
  unfold listN
  simp only [List.mem_map, List.mem_filter, List.mem_range]
  constructor
  · rintro ⟨i, ⟨h1, h2⟩, rfl⟩
    exact ⟨i, h1, h2, rfl⟩
  · rintro ⟨i, h1, h2, rfl⟩
    exact ⟨i, ⟨h1, h2⟩, rfl⟩
/-- the numbers below n of which f is true -/
def ofT (n : Nat) (f : Nat → Bool) : List Int := ((List.range n).filter f).map fun (i : Nat) => (i : Int)
theorem filter_range (f : Nat → Bool) (n : Nat) : ∀ d, (List.range (n + d)).filter (fun i => decide (i < n) && f i) = (List.range n).filter f
  | 0 => List.filter_congr (fun i hi => by rw [decide_eq_true (show i < n by have := List.mem_range.1 hi; omega), Bool.true_and])
  | d + 1 => by
    rw [show n + (d + 1) = (n + d) + 1 by omega, List.range_succ, List.filter_append, filter_range f n d, List.filter_cons_of_neg (by rw [decide_eq_false (by omega)]; simp), List.filter_nil, List.append_nil]
theorem listN_wd {n : Nat} (h : n ≤ 64) (f : Nat → Bool) : listN (wd n f) = ofT n f := by
  unfold listN ofT
  congr 1
  obtain ⟨d, hd⟩ : ∃ d, 64 = n + d := ⟨64 - n, by omega⟩
  rw [hd, ← filter_range f n d]
  exact List.filter_congr (fun i _ => wd_bit n f i)
theorem list_f (x : Nat) (h : x < 18446744073709551616) : graph_list.f (x : Int) = some (listN x) := by
  unfold graph_list.f
  rw [if_pos ⟨by omega, by omega⟩, Int.toNat_natCast]
end Go.Proofs.YtefmpehjahfnpaaDoor.Pr

set_option linter.unusedVariables false
set_option linter.unusedSimpArgs false
namespace Go.Proofs.YtefmpehjahfnpaaDoor.Pr
open Go.RowKit Go.Proofs.YtefmpehjahfnpaaDoorW.PrintWords Go.Proofs.YtefmpehjahfnpaaDoorW.PrintLast Go.Proofs.YtefmpehjahfnpaaDoorW.PrintMore

def gI (ws : List Nat) : List Int := ws.map fun (x : Nat) => (x : Int)
def wAt (ws : List Nat) (i : Nat) : Nat := ws.getD i 0
def Wok (ws : List Nat) : Prop := ∀ x ∈ ws, x < 18446744073709551616
theorem gI_len (ws : List Nat) : (gI ws).length = ws.length := by simp [gI]
theorem gI_rd (ws : List Nat) (i : Nat) : rd (gI ws) (i : Int) = ((wAt ws i : Nat) : Int) := by
  unfold rd gI wAt
  rw [Int.toNat_natCast, List.getD_eq_getElem?_getD, List.getD_eq_getElem?_getD, List.getElem?_map]
  cases ws[i]? <;> rfl
theorem wAt_get (ws : List Nat) (i : Nat) (h : i < ws.length) : wAt ws i = ws[i] := by
  unfold wAt
  rw [List.getD_eq_getElem?_getD, List.getElem?_eq_getElem h]
  rfl
theorem wAt_lt {ws : List Nat} (h : Wok ws) (i : Nat) : wAt ws i < 18446744073709551616 := by
  by_cases c : i < ws.length
  · rw [wAt_get ws i c]; exact h _ (List.getElem_mem c)
  · unfold wAt
    rw [List.getD_eq_getElem?_getD, List.getElem?_eq_none (by omega)]
    decide
theorem gI_ext {a b : List Nat} (hl : a.length = b.length) (h : ∀ i, i < a.length → wAt a i = wAt b i) : a = b := List.ext_getElem hl (fun i h1 h2 => by
  have := h i h1
  rwa [wAt_get a i h1, wAt_get b i h2] at this)
/-- a number is a point of n -/
def isP (n : Nat) (a : Int) : Bool := decide (0 ≤ a ∧ a < (n : Int))
def besB (ws : List Nat) (a b : Int) : Bool := isP ws.length a && isP ws.length b && (wAt ws a.toNat).testBit b.toNat
def nbL (ws : List Nat) (a : Int) : List Int := if isP ws.length a = true then listN (wAt ws a.toNat) else []
def joinW (ws : List Nat) (a b : Int) : List Nat := if isP ws.length a = true ∧ isP ws.length b = true ∧ a ≠ b then
  (ws.set a.toNat (wAt ws a.toNat ||| 2 ^ b.toNat)).set b.toNat (wAt (ws.set a.toNat (wAt ws a.toNat ||| 2 ^ b.toNat)) b.toNat ||| 2 ^ a.toNat) else ws
theorem wok_set {ws : List Nat} (hw : Wok ws) (i v : Nat) (hv : v < 18446744073709551616) : Wok (ws.set i v) := fun x hx => by
  rcases List.mem_or_eq_of_mem_set hx with h | h
  · exact hw x h
  · rw [h]; exact hv
theorem gI_set (ws : List Nat) (i v : Nat) : (gI ws).set i (v : Int) = gI (ws.set i v) := by unfold gI; rw [List.map_set]
theorem or_pow {x b : Nat} (hx : x < 18446744073709551616) (hb : b < 64) : x ||| 2 ^ b < 18446744073709551616 ∧ Go.bits .or .u64 (x : Int) (shl .u64 1 (b : Int)) = ((x ||| 2 ^ b : Nat) : Int) := by
  rw [shl_one b hb]
  exact or_u64 x (2 ^ b) hx (pow_lt_64 b hb)
theorem joinW_len (ws : List Nat) (a b : Int) : (joinW ws a b).length = ws.length := by
  unfold joinW
  split <;> simp
theorem wAt_set (ws : List Nat) (i v k : Nat) (h : i < ws.length) : wAt (ws.set i v) k = if k = i then v else wAt ws k := by
  unfold wAt
  rw [List.getD_eq_getElem?_getD, List.getD_eq_getElem?_getD, List.getElem?_set]
  by_cases e : i = k
  · rw [if_pos e, if_pos h, if_pos e.symm]; rfl
  · rw [if_neg e, if_neg (fun h => e h.symm)]
/-- what is beside what, joined -/
theorem join_bit (ws : List Nat) (a b : Int) (i k : Nat) : (wAt (joinW ws a b) i).testBit k = ((wAt ws i).testBit k || (isP ws.length a && isP ws.length b && decide (a ≠ b) && (decide ((i : Int) = a ∧ (k : Int) = b) || decide ((i : Int) = b ∧ (k : Int) = a)))) := by
  unfold joinW
  by_cases c : isP ws.length a = true ∧ isP ws.length b = true ∧ a ≠ b
  · rw [if_pos c]
    obtain ⟨ha, hb, e⟩ := c
    have h1 := of_decide_eq_true ha
    have h2 := of_decide_eq_true hb
    obtain ⟨p, rfl⟩ := Int.eq_ofNat_of_zero_le h1.1
    obtain ⟨q, rfl⟩ := Int.eq_ofNat_of_zero_le h2.1
    have e2 : p ≠ q := fun h => e (by rw [h])
    rw [ha, hb, Bool.and_self, Bool.true_and, decide_eq_true e, Bool.true_and]
    simp only [Int.toNat_natCast]
    rw [wAt_set _ q _ i (by rw [List.length_set]; omega), wAt_set ws p _ q (by omega), wAt_set ws p _ i (by omega), if_neg (show ¬ q = p from fun h => e2 h.symm)]
    by_cases c1 : i = q
    · subst c1
      rw [if_pos rfl, Nat.testBit_or, pow_bit]
      have : ¬ i = p := fun h => e2 h.symm
      congr 1
      rw [Bool.eq_iff_iff, Bool.or_eq_true, decide_eq_true_iff, decide_eq_true_iff, decide_eq_true_iff]
      exact ⟨fun h => .inr ⟨rfl, by omega⟩, fun h => by rcases h with ⟨h1, h2⟩ | ⟨h1, h2⟩ <;> omega⟩
    · rw [if_neg c1]
      by_cases c2 : i = p
      · subst c2
        rw [if_pos rfl, Nat.testBit_or, pow_bit]
        congr 1
        rw [Bool.eq_iff_iff, Bool.or_eq_true, decide_eq_true_iff, decide_eq_true_iff, decide_eq_true_iff]
        exact ⟨fun h => .inl ⟨rfl, by omega⟩, fun h => by rcases h with ⟨h1, h2⟩ | ⟨h1, h2⟩ <;> omega⟩
      · rw [if_neg c2]
        have : (decide ((i : Int) = (p : Int) ∧ (k : Int) = (q : Int)) || decide ((i : Int) = (q : Int) ∧ (k : Int) = (p : Int))) = false := by
          rw [decide_eq_false (by omega), decide_eq_false (by omega)]; rfl
        rw [this, Bool.or_false]
  · rw [if_neg c]
    have : (isP ws.length a && isP ws.length b && decide (a ≠ b) && (decide ((i : Int) = a ∧ (k : Int) = b) || decide ((i : Int) = b ∧ (k : Int) = a))) = false := by
      rw [Bool.eq_false_iff]
      intro h
      simp only [Bool.and_eq_true, decide_eq_true_eq] at h
      exact c ⟨h.1.1.1, h.1.1.2, h.1.2⟩
    rw [this, Bool.or_false]
/-! ### Right -/
def rowR (ws : List Nat) (i : Nat) : Bool := decide (wAt ws i < 2 ^ ws.length) && (listN (wAt ws i)).all fun k => !(k == (i : Int)) && (wAt ws k.toNat).testBit i
def rightB (ws : List Nat) : Bool := decide (ws.length ≤ 40) && (List.range ws.length).all (rowR ws)
theorem rdn (l : List Int) (j : Nat) (h : j < l.length) : rd l (j : Int) = l[j] := rd_nat l j _ (List.getElem?_eq_getElem h)
theorem right_l1 (ws : List Nat) (hw : Wok ws) (hn : ws.length ≤ 40) (i : Nat) (hi : i < ws.length) (l : List Int) (hl : ∀ x ∈ l, 0 ≤ x ∧ x < (ws.length : Int)) (hll : l.length ≤ 64) (R : Bool)
    (H : Ev (fun k => graph_Right.l0 k (gI ws) (ws.length : Int) ((i + 1 : Nat) : Int) (gI ws)) R) : ∀ (d j : Nat), j + d = l.length →
    Ev (fun k => graph_Right.l1 k (i : Int) (gI ws) (ws.length : Int) (i : Int) l (l.length : Int) (j : Int) (gI ws)) (((l.drop j).all fun k => !(k == (i : Int)) && (wAt ws k.toNat).testBit i) && R)
  | 0, j, h => by
    rw [List.drop_eq_nil_of_le (by omega), List.all_nil, Bool.true_and]
    refine evs1 H (fun k e => ?_)
    rw [graph_Right.l1, if_neg (by omega), wrap_nat i (by omega)]
    exact e
  | d + 1, j, h => by
    have hj : j < l.length := by omega
    rw [List.drop_eq_getElem_cons hj, List.all_cons]
    obtain ⟨b1, b2⟩ := hl _ (List.getElem_mem hj)
    obtain ⟨x, hx⟩ : ∃ x, x = l[j] := ⟨_, rfl⟩
    rw [← hx] at b1 b2 ⊢
    have hr : rd l (j : Int) = x := by rw [hx]; exact rdn l j hj
    obtain ⟨m, rfl⟩ := Int.eq_ofNat_of_zero_le b1
    by_cases c : (m : Int) = (i : Int)
    · rw [show ((m : Int) == (i : Int)) = true by simpa using c]
      refine evs0 (fun k => ?_)
      rw [graph_Right.l1, if_pos (by omega), if_pos (by omega), if_pos (by omega), hr, if_pos c]
      simp
    · rw [show ((m : Int) == (i : Int)) = false from beq_false_of_ne c, Bool.not_false, Bool.true_and, Int.toNat_natCast]
      by_cases c2 : (wAt ws m).testBit i = true
      · rw [c2, Bool.true_and]
        refine evs1 (right_l1 ws hw hn i hi l hl hll R H d (j + 1) (by omega)) (fun k e => ?_)
        rw [graph_Right.l1, if_pos (by omega), if_pos (by omega), if_pos (by omega), hr, if_neg c, if_pos (by omega), if_pos (by rw [gI_len]; omega), if_pos (by omega), gI_rd, and_one _ _ (wAt_lt hw m), if_pos c2, if_neg (by decide), wrap_nat j (by omega)]
        exact e
      · rw [Bool.not_eq_true _ |>.mp c2, Bool.false_and, Bool.false_and]
        refine evs0 (fun k => ?_)
        rw [graph_Right.l1, if_pos (by omega), if_pos (by omega), if_pos (by omega), hr, if_neg c, if_pos (by omega), if_pos (by rw [gI_len]; omega), if_pos (by omega), gI_rd, and_one _ _ (wAt_lt hw m), if_neg c2, if_pos rfl]
theorem listN_in {x n : Nat} (h : x < 2 ^ n) (v : Int) (hv : v ∈ listN x) : 0 ≤ v ∧ v < (n : Int) := by
  obtain ⟨i, h1, h2, rfl⟩ := (mem_listW x v).1 hv
  refine ⟨by omega, ?_⟩
  by_cases c : i < n
  · omega
  · rw [bits_ge h (by omega)] at h2
    cases h2
theorem right_l0 (ws : List Nat) (hw : Wok ws) (hn : ws.length ≤ 40) : ∀ (d i : Nat), i + d = ws.length →
    Ev (fun k => graph_Right.l0 k (gI ws) (ws.length : Int) (i : Int) (gI ws)) ((List.range' i d).all (rowR ws))
  | 0, i, h => by
    refine evs0 (fun k => ?_)
    rw [graph_Right.l0, if_neg (by omega)]
    rfl
  | d + 1, i, h => by
    rw [List.range'_succ, List.all_cons]
    have hx := wAt_lt hw i
    by_cases c : wAt ws i < 2 ^ ws.length
    · have hr := right_l0 ws hw hn d (i + 1) (by omega)
      have h1 := right_l1 ws hw hn i (by omega) (listN (wAt ws i)) (listN_in c) (listN_len _) _ hr (listN (wAt ws i)).length 0 (by omega)
      rw [List.drop_zero] at h1
      refine evs1 h1 (fun k e => ?_)
      rw [graph_Right.l0, if_pos (by omega), if_pos (by omega), if_pos (by rw [gI_len]; omega), gI_rd, gI_len, if_pos ((shr_zero _ _ hx).2 c), list_f _ hx, Option.bind_some]
      unfold rowR
      rw [decide_eq_true c, Bool.true_and]
      exact e
    · refine evs0 (fun k => ?_)
      rw [graph_Right.l0, if_pos (by omega), if_pos (by omega), if_pos (by rw [gI_len]; omega), gI_rd, gI_len, if_neg (fun h => c ((shr_zero _ _ hx).1 h))]
      unfold rowR
      rw [decide_eq_false c, Bool.false_and, Bool.false_and]
theorem right_ev (ws : List Nat) (hw : Wok ws) : Ev (fun k => graph_Right.f k (gI ws)) (rightB ws) := by
  unfold rightB
  by_cases c : ws.length ≤ 40
  · rw [decide_eq_true c, Bool.true_and, List.range_eq_range']
    refine evu1 (right_l0 ws hw c ws.length 0 (by omega)) (fun k e => ?_)
    rw [graph_Right.f, gI_len, if_neg (by omega)]
    exact e
  · rw [decide_eq_false c, Bool.false_and]
    exact evu0 (fun k => by rw [graph_Right.f, gI_len, if_pos (by omega)])
/-- Right, by points -/
theorem rightB_iff (ws : List Nat) : rightB ws = true ↔ ws.length ≤ 40 ∧ ∀ i, i < ws.length → wAt ws i < 2 ^ ws.length ∧ ∀ k, k < ws.length → (wAt ws i).testBit k = true → k ≠ i ∧ (wAt ws k).testBit i = true := by
  unfold rightB rowR
  simp only [Bool.and_eq_true, decide_eq_true_eq, List.all_eq_true, List.mem_range]
  constructor
  · rintro ⟨h1, h2⟩
    refine ⟨h1, fun i hi => ⟨(h2 i hi).1, fun k hk hb => ?_⟩⟩
    have := (h2 i hi).2 (k : Int) ((mem_listW _ _).2 ⟨k, by omega, hb, rfl⟩)
    simp only [Bool.not_eq_true', beq_eq_false_iff_ne, Int.toNat_natCast] at this
    exact ⟨fun e => this.1 (by rw [e]), this.2⟩
  · rintro ⟨h1, h2⟩
    refine ⟨h1, fun i hi => ⟨(h2 i hi).1, fun v hv => ?_⟩⟩
    obtain ⟨k, k1, k2, rfl⟩ := (mem_listW _ _).1 hv
    have hk := listN_in (h2 i hi).1 _ hv
    obtain ⟨g1, g2⟩ := (h2 i hi).2 k (by omega) k2
    simp only [Bool.not_eq_true', beq_eq_false_iff_ne, Int.toNat_natCast]
    exact ⟨fun e => g1 (by omega), g2⟩
end Go.Proofs.YtefmpehjahfnpaaDoor.Pr

set_option linter.unusedVariables false
set_option linter.unusedSimpArgs false
namespace Go.Proofs.YtefmpehjahfnpaaDoor.Pr
open Go.RowKit Go.Proofs.YtefmpehjahfnpaaDoorW.PrintWords Go.Proofs.YtefmpehjahfnpaaDoorW.PrintLast Go.Proofs.YtefmpehjahfnpaaDoorW.PrintMore

def rowT (n : Nat) (f : Nat → Bool) : List Bool := (List.range n).map f
def mat (n : Nat) (f : Nat → Nat → Bool) : List (List Bool) := (List.range n).map fun i => rowT n (f i)
theorem rowT_len (n : Nat) (f : Nat → Bool) : (rowT n f).length = n := by simp [rowT]
theorem mat_len (n : Nat) (f : Nat → Nat → Bool) : (mat n f).length = n := by simp [mat]
theorem rowT_rd (n : Nat) (f : Nat → Bool) (k : Nat) (h : k < n) : rdOf false (rowT n f) (k : Int) = f k := by
  unfold rdOf rowT
  rw [Int.toNat_natCast, List.getD_eq_getElem?_getD, List.getElem?_map, List.getElem?_range h]
  rfl
theorem mat_rd (n : Nat) (f : Nat → Nat → Bool) (i : Nat) (h : i < n) : rd_L6 (mat n f) (i : Int) = rowT n (f i) := by
  unfold rd_L6 mat
  rw [Int.toNat_natCast, List.getD_eq_getElem?_getD, List.getElem?_map, List.getElem?_range h]
  rfl
theorem rowT_set (n : Nat) (f : Nat → Bool) (k : Nat) (b : Bool) : (rowT n f).set k b = rowT n fun j => if j = k then b else f j := by
  unfold rowT
  apply List.ext_getElem
  · simp
  · intro j h1 h2
    rw [List.getElem_set]
    simp only [List.getElem_map, List.getElem_range]
    by_cases e : k = j
    · rw [if_pos e, if_pos e.symm]
    · rw [if_neg e, if_neg (fun h => e h.symm)]
theorem mat_set (n : Nat) (f : Nat → Nat → Bool) (i : Nat) (g : Nat → Bool) : (mat n f).set i (rowT n g) = mat n fun j => if j = i then g else f j := by
  unfold mat
  apply List.ext_getElem
  · simp
  · intro j h1 h2
    rw [List.getElem_set]
    simp only [List.getElem_map, List.getElem_range]
    by_cases e : i = j
    · rw [if_pos e, if_pos e.symm]
    · rw [if_neg e, if_neg (fun h => e h.symm)]
theorem rowT_congr {n : Nat} {f g : Nat → Bool} (h : ∀ k, k < n → f k = g k) : rowT n f = rowT n g := List.map_congr_left (fun k hk => h k (List.mem_range.1 hk))
theorem mat_congr {n : Nat} {f g : Nat → Nat → Bool} (h : ∀ i k, i < n → k < n → f i k = g i k) : mat n f = mat n g := List.map_congr_left (fun i hi => rowT_congr (fun k hk => h i k (List.mem_range.1 hi) hk))
theorem rep_row (n : Nat) : List.replicate n false = rowT n fun _ => false := by
  unfold rowT
  apply List.ext_getElem
  · simp
  · intro j h1 h2; simp
/-- the graph of truths -/
def gW (n : Nat) (f : Nat → Nat → Bool) : List Nat := (List.range n).map fun i => wd n (f i)
theorem gW_len (n : Nat) (f : Nat → Nat → Bool) : (gW n f).length = n := by simp [gW]
theorem gW_at (n : Nat) (f : Nat → Nat → Bool) (i : Nat) (h : i < n) : wAt (gW n f) i = wd n (f i) := by
  unfold wAt gW
  rw [List.getD_eq_getElem?_getD, List.getElem?_map, List.getElem?_range h]
  rfl
theorem gW_ok {n : Nat} (h : n ≤ 64) (f : Nat → Nat → Bool) : Wok (gW n f) := fun x hx => by
  obtain ⟨i, _, rfl⟩ := List.mem_map.1 hx
  exact wd_64 h _
theorem gW_bit (n : Nat) (f : Nat → Nat → Bool) (i k : Nat) : (wAt (gW n f) i).testBit k = (decide (i < n) && (decide (k < n) && f i k)) := by
  by_cases h : i < n
  · rw [gW_at n f i h, wd_bit, decide_eq_true h, Bool.true_and]
  · rw [decide_eq_false h, Bool.false_and]
    unfold wAt
    rw [List.getD_eq_getElem?_getD, List.getElem?_eq_none (by rw [gW_len]; omega)]
    simp
theorem gW_congr {n : Nat} {f g : Nat → Nat → Bool} (h : ∀ i k, i < n → k < n → f i k = g i k) : gW n f = gW n g := gI_ext (by rw [gW_len, gW_len]) (fun i hi => Nat.eq_of_testBit_eq (fun k => by
  rw [gW_len] at hi
  rw [gW_bit, gW_bit, decide_eq_true hi]
  simp only [Bool.true_and]
  by_cases c : k < n
  · rw [h i k hi c]
  · rw [decide_eq_false c]; rfl))
/-- a row of words of n points is the graph of its own truths -/
theorem gW_self {ws : List Nat} (h : ∀ i, i < ws.length → wAt ws i < 2 ^ ws.length) : gW ws.length (fun i k => (wAt ws i).testBit k) = ws := gI_ext (gW_len _ _) (fun i hi => by
  rw [gW_len] at hi
  rw [gW_at _ _ i hi]
  exact wd_self (fun k hk => bits_ge (h i hi) hk))
theorem gW_right (n : Nat) (hn : n ≤ 40) (f : Nat → Nat → Bool) (h : ∀ i k, i < n → k < n → f i k = true → k ≠ i ∧ f k i = true) : rightB (gW n f) = true := by
  rw [rightB_iff, gW_len]
  refine ⟨hn, fun i hi => ⟨by rw [gW_at n f i hi]; exact wd_lt _ _, fun k hk hb => ?_⟩⟩
  rw [gW_bit, decide_eq_true hi, decide_eq_true hk] at hb
  obtain ⟨h1, h2⟩ := h i k hi hk (by simpa using hb)
  refine ⟨h1, ?_⟩
  rw [gW_bit, decide_eq_true hi, decide_eq_true hk, h2]
  rfl
/-! ### arboristref08.Graph -/
theorem graph_l1 (n : Nat) (hn : n ≤ 64) (f : Nat → Nat → Bool) (i : Nat) (hi : i < n) (o : List Int) (ho : o.length < 17592186044416) (R : List Int) (H : Ev (fun k => arboristref08_Graph.l0 k (mat n f) ((i + 1 : Nat) : Int) (o ++ [((wd n (f i) : Nat) : Int)])) R) :
    ∀ (d j : Nat), j + d = n → Ev (fun k => arboristref08_Graph.l1 k (mat n f) (i : Int) ((wd j (f i) : Nat) : Int) (j : Int) o) R
  | 0, j, h => by
    obtain rfl : j = n := by omega
    refine evs1 H (fun k e => ?_)
    rw [arboristref08_Graph.l1, mat_len, if_neg (by omega), if_pos ho, wrap_nat i (by omega)]
    exact e
  | d + 1, j, h => by
    refine evs1 (graph_l1 n hn f i hi o ho R H d (j + 1) (by omega)) (fun k e => ?_)
    have hw : IntKind.u64.wrap (j : Int) = (j : Int) := by rw [IntKind.wrap_u64]; omega
    rw [arboristref08_Graph.l1, mat_len, if_pos (by omega), if_pos (by omega), if_pos (by omega), if_pos (by omega), mat_rd n f i hi, rowT_len, if_pos (by omega), rowT_rd n (f i) j (by omega), hw, wrap_nat j (by omega)]
    rw [wd] at e
    by_cases c : f i j = true
    · rw [if_pos c] at e ⊢
      have h1 := wd_lt j (f i)
      have h2 := pow_lt_64 j (by omega)
      have h3 : IntKind.u64.wrap (((wd j (f i) : Nat) : Int) + ((2 ^ j : Nat) : Int)) = ((2 ^ j * 1 + wd j (f i) : Nat) : Int) := by
        have h4 : 2 ^ j * 1 + wd j (f i) < 18446744073709551616 := by
          have := wd_64 (show j + 1 ≤ 64 by omega) (f i)
          rw [wd, if_pos c] at this
          exact this
        obtain ⟨p, hp⟩ : ∃ p : Nat, p = 2 ^ j := ⟨_, rfl⟩
        rw [← hp] at h4 ⊢
        rw [IntKind.wrap_u64]
        omega
      rw [if_pos (by omega), shl_one j (by omega), h3]
      exact e
    · rw [if_neg c] at e ⊢
      rw [Nat.mul_zero, Nat.zero_add] at e
      exact e
theorem graph_l0 (n : Nat) (hn : n ≤ 64) (f : Nat → Nat → Bool) : ∀ (d i : Nat), i + d = n → Ev (fun k => arboristref08_Graph.l0 k (mat n f) (i : Int) (gI ((List.range i).map fun j => wd n (f j)))) (gI (gW n f))
  | 0, i, h => by
    obtain rfl : i = n := by omega
    exact evs0 (fun k => by rw [arboristref08_Graph.l0, mat_len, if_neg (by omega)]; rfl)
  | d + 1, i, h => by
    have hr := graph_l0 n hn f d (i + 1) (by omega)
    rw [List.range_succ, List.map_append] at hr
    have e0 : gI ((List.range i).map (fun j => wd n (f j)) ++ [i].map (fun j => wd n (f j))) = gI ((List.range i).map fun j => wd n (f j)) ++ [((wd n (f i) : Nat) : Int)] := by simp [gI]
    rw [e0] at hr
    have hl : (gI ((List.range i).map fun j => wd n (f j))).length < 17592186044416 := by rw [gI_len]; simp; omega
    refine evs1 (graph_l1 n hn f i (by omega) _ hl _ hr n 0 (by omega)) (fun k e => ?_)
    rw [arboristref08_Graph.l0, mat_len, if_pos (by omega)]
    exact e
theorem graph_ev (n : Nat) (hn : n ≤ 64) (f : Nat → Nat → Bool) : Ev (fun k => arboristref08_Graph.f k (mat n f)) (gI (gW n f)) := graph_l0 n hn f n 0 (by omega)
/-! ### arboristref08.Empty -/
theorem empty_l0 (n : Nat) (hn : n ≤ 1000) : ∀ (d i : Nat), i + d = n → Ev (fun k => arboristref08_Empty.l0 k (n : Int) (List.replicate i (rowT n fun _ => false)) (i : Int)) (mat n fun _ _ => false)
  | 0, i, h => by
    obtain rfl : i = n := by omega
    refine evs0 (fun k => ?_)
    rw [arboristref08_Empty.l0, if_neg (by omega)]
    congr 1
    unfold mat
    apply List.ext_getElem
    · simp
    · intro j h1 h2; simp
  | d + 1, i, h => by
    have hr := empty_l0 n hn d (i + 1) (by omega)
    rw [List.replicate_succ'] at hr
    refine evs1 hr (fun k e => ?_)
    rw [arboristref08_Empty.l0, if_pos (by omega), if_pos (by omega), if_pos (by omega), if_pos (by simp; omega), Int.toNat_natCast, rep_row, wrap_nat i (by omega)]
    exact e
theorem empty_ev (n : Nat) (hn : n ≤ 1000) : Ev (fun k => arboristref08_Empty.f k (n : Int)) (mat n fun _ _ => false) := empty_l0 n hn n 0 (by omega)
/-! ### arboristref08.Neighbors -/
theorem ofT_from (n : Nat) (f : Nat → Bool) (j : Nat) (h : j < n) : ((List.range' j (n - j)).filter f) = if f j = true then j :: (List.range' (j + 1) (n - (j + 1))).filter f else (List.range' (j + 1) (n - (j + 1))).filter f := by
  rw [show n - j = (n - (j + 1)) + 1 by omega, List.range'_succ, List.filter_cons]
theorem evp {ρ : Type} {F g : Nat → Option ρ} {r : ρ} (h : Ev g r) (H : ∀ k, g k = some r → F (k + 1) = some r) : Ev F r := evs1 h H
theorem neigh_l0 (n : Nat) (hn : n ≤ 1000) (f : Nat → Nat → Bool) (a : Nat) (ha : a < n) : ∀ (d j : Nat) (o : List Int), j + d = n → o.length ≤ j → Ev (fun k => arboristref08_Neighbors.l0 k (mat n f) (a : Int) o (j : Int)) (o ++ ((List.range' j (n - j)).filter (f a)).map fun (i : Nat) => (i : Int))
  | 0, j, o, h, ho => by
    rw [show n - j = 0 by omega]
    refine evs1 (evs0 (F := fun k => arboristref08_Neighbors.j1 k (mat n f) (a : Int) o (j : Int) false) (r := o ++ ((List.range' j 0).filter (f a)).map fun (i : Nat) => (i : Int)) (fun k => ?_)) (fun k e => ?_)
    · rw [arboristref08_Neighbors.j1, if_neg (by decide)]; simp
    · rw [arboristref08_Neighbors.l0, mat_len, if_neg (by omega)]; exact e
  | d + 1, j, o, h, ho => by
    rw [ofT_from n (f a) j (by omega)]
    by_cases c : f a j = true
    · rw [if_pos c]
      have hr := neigh_l0 n hn f a ha d (j + 1) (o ++ [(j : Int)]) (by omega) (by simp; omega)
      rw [List.append_assoc] at hr
      refine evp (g := fun k => arboristref08_Neighbors.j1 k (mat n f) (a : Int) o (j : Int) true) (evp hr (fun k e => ?_)) (fun k e => ?_)
      · rw [arboristref08_Neighbors.j1, if_pos rfl, if_pos (by omega), mat_len, if_pos (by omega), if_pos (by omega), mat_rd n f a ha, rowT_len, if_pos (by omega), rowT_rd n (f a) j (by omega), if_pos c, if_pos (by omega), wrap_nat j (by omega)]
        exact e
      · rw [arboristref08_Neighbors.l0, mat_len, if_pos (by omega), if_pos (by omega), decide_eq_true (by omega)]; exact e
    · rw [if_neg c]
      have hr := neigh_l0 n hn f a ha d (j + 1) o (by omega) (by omega)
      refine evp (g := fun k => arboristref08_Neighbors.j1 k (mat n f) (a : Int) o (j : Int) true) (evp hr (fun k e => ?_)) (fun k e => ?_)
      · rw [arboristref08_Neighbors.j1, if_pos rfl, if_pos (by omega), mat_len, if_pos (by omega), if_pos (by omega), mat_rd n f a ha, rowT_len, if_pos (by omega), rowT_rd n (f a) j (by omega), if_neg c, wrap_nat j (by omega)]
        exact e
      · rw [arboristref08_Neighbors.l0, mat_len, if_pos (by omega), if_pos (by omega), decide_eq_true (by omega)]; exact e
theorem neigh_ev (n : Nat) (hn : n ≤ 1000) (f : Nat → Nat → Bool) (a : Int) : Ev (fun k => arboristref08_Neighbors.f k (mat n f) a) (if isP n a = true then ofT n (f a.toNat) else []) := by
  by_cases c : isP n a = true
  · have h := of_decide_eq_true c
    obtain ⟨i, rfl⟩ := Int.eq_ofNat_of_zero_le h.1
    have hr := neigh_l0 n hn f i (by omega) n 0 [] (by omega) (by simp)
    rw [if_pos c]
    rw [List.nil_append, Nat.sub_zero, ← List.range_eq_range'] at hr
    exact hr
  · rw [if_neg c]
    have h : ¬ (0 ≤ a ∧ a < (n : Int)) := of_decide_eq_false (Bool.not_eq_true _ |>.mp c)
    have hj : Ev (fun k => arboristref08_Neighbors.j1 k (mat n f) a [] 0 false) [] := evs0 (fun k => by rw [arboristref08_Neighbors.j1, if_neg (by decide)])
    refine evs1 hj (fun k e => ?_)
    rw [arboristref08_Neighbors.f, arboristref08_Neighbors.l0, mat_len]
    by_cases c1 : (0 : Int) < (n : Int)
    · rw [if_pos c1]
      by_cases c2 : a ≥ 0
      · rw [if_pos c2, decide_eq_false (by omega)]; exact e
      · rw [if_neg c2]; exact e
    · rw [if_neg c1]; exact e
end Go.Proofs.YtefmpehjahfnpaaDoor.Pr

set_option linter.unusedVariables false
set_option linter.unusedSimpArgs false
namespace Go.Proofs.YtefmpehjahfnpaaDoor.Pr
open Go.RowKit Go.Proofs.YtefmpehjahfnpaaDoorW.PrintWords Go.Proofs.YtefmpehjahfnpaaDoorW.PrintLast Go.Proofs.YtefmpehjahfnpaaDoorW.PrintMore

theorem mn_cut {α : Type} (l : List α) (n : Nat) : 0 ≤ mn (l.length : Int) n ∧ mn (l.length : Int) n ≤ l.length ∧ l.take (mn (l.length : Int) n).toNat = l.take n := by
  unfold mn
  split
  · refine ⟨by omega, by omega, by simp⟩
  · refine ⟨by omega, by omega, ?_⟩
    rw [List.take_of_length_le (by omega), List.take_of_length_le (by omega)]
theorem range'_all_cons (p : Nat → Bool) (i d : Nat) : (List.range' i (d + 1)).all p = (p i && (List.range' (i + 1) d).all p) := by rw [List.range'_succ, List.all_cons]
section
variable (ws : List Nat)
def bF (i k : Nat) : Bool := (wAt ws i).testBit k
def qT (i k : Nat) : Bool := decide (k < ws.length) || !bF ws i k
def rT (i k : Nat) : Bool := (bF ws i k == bF ws k i) && !(decide (i = k) && bF ws i k)
def okT : Bool := ((List.range' 0 ws.length).all fun i => (List.range' 0 64).all (qT ws i)) && ((List.range' 0 ws.length).all fun i => (List.range' 0 ws.length).all (rT ws i))
theorem right_okT (hw : Wok ws) (hn : ws.length ≤ 40) : rightB ws = okT ws := by
  rw [Bool.eq_iff_iff, rightB_iff]
  unfold okT
  simp only [Bool.and_eq_true, List.all_eq_true, List.mem_range'_1, Nat.zero_le, true_and, Nat.zero_add]
  constructor
  · rintro ⟨_, h⟩
    refine ⟨fun i hi k hk => ?_, fun i hi k hk => ?_⟩
    · unfold qT
      by_cases c : k < ws.length
      · rw [decide_eq_true c]; rfl
      · have : bF ws i k = false := bits_ge (h i hi).1 (by omega)
        rw [this]; simp
    · unfold rT
      have e : bF ws i k = bF ws k i := by
        rw [Bool.eq_iff_iff]
        exact ⟨fun g => ((h i hi).2 k hk g).2, fun g => ((h k hk).2 i hi g).2⟩
      rw [e]
      by_cases c : i = k
      · subst c
        have : bF ws i i = false := by
          rw [Bool.eq_false_iff]
          exact fun g => ((h i hi).2 i hi g).1 rfl
        rw [this]; simp
      · simp [c]
  · rintro ⟨h1, h2⟩
    refine ⟨hn, fun i hi => ⟨lt_of_bits (fun k hk => ?_), fun k hk hb => ?_⟩⟩
    · by_cases c : k < 64
      · have := h1 i hi k c
        unfold qT at this
        rw [decide_eq_false (by omega), Bool.false_or] at this
        simpa [bF] using this
      · exact bits_ge (n := 64) (by have := wAt_lt hw i; omega) (by omega)
    · have g := h2 i hi k hk
      unfold rT at g
      rw [Bool.and_eq_true] at g
      obtain ⟨g1, g2⟩ := g
      have g1' : bF ws i k = bF ws k i := by simpa using g1
      refine ⟨fun e => ?_, ?_⟩
      · subst e
        rw [show bF ws k k = true from hb] at g2
        simp at g2
      · show bF ws k i = true
        rw [← g1']; exact hb
end
end Go.Proofs.YtefmpehjahfnpaaDoor.Pr

set_option linter.unusedVariables false
set_option linter.unusedSimpArgs false
namespace Go.Proofs.YtefmpehjahfnpaaDoor.Pr
open Go.RowKit Go.Proofs.YtefmpehjahfnpaaDoorW.PrintWords Go.Proofs.YtefmpehjahfnpaaDoorW.PrintLast Go.Proofs.YtefmpehjahfnpaaDoorW.PrintMore

theorem low16 (x : Int) : 0 ≤ Go.bits .and .i64 x 65535 ∧ Go.bits .and .i64 x 65535 ≤ 65535 := by
  have h2 : (BitVec.ofInt 64 (65535 : Int)).toNat = 65535 := by decide
  have h3 : (BitVec.ofInt 64 x &&& BitVec.ofInt 64 (65535 : Int)).toNat ≤ 65535 := by
    rw [BitVec.toNat_and, h2]; exact Nat.and_le_right
  have e : Go.bits .and .i64 x 65535 = IntKind.i64.wrap ((BitVec.ofInt 64 x &&& BitVec.ofInt 64 (65535 : Int)).toNat : Int) := rfl
  rw [e, IntKind.wrap_i64]
  omega
theorem kT_in {n : Nat} (h : 0 < n) (x : Int) : ∃ k : Nat, k < n ∧ Int.tmod (Go.bits .and .i64 x 65535) (n : Int) = (k : Int) := by
  obtain ⟨h1, h2⟩ := low16 x
  have a := Int.tmod_nonneg (n : Int) h1
  have b := Int.tmod_lt_of_pos (Go.bits .and .i64 x 65535) (show (0 : Int) < (n : Int) by omega)
  exact ⟨(Int.tmod (Go.bits .and .i64 x 65535) (n : Int)).toNat, by omega, by omega⟩
/-- a graph's truths: from either end, none with itself, of n points -/
def Sy (n : Nat) (f : Nat → Nat → Bool) : Prop := (∀ i k, f i k = f k i) ∧ (∀ i, f i i = false) ∧ ∀ i k, f i k = true → i < n ∧ k < n
def addE (f : Nat → Nat → Bool) (a b : Nat) : Nat → Nat → Bool := fun i k => f i k || (decide (i = a ∧ k = b) || decide (i = b ∧ k = a))
theorem Sy.no (n : Nat) : Sy n fun _ _ => false := ⟨fun _ _ => rfl, fun _ => rfl, fun _ _ h => by cases h⟩
theorem Sy.add {n : Nat} {f : Nat → Nat → Bool} (h : Sy n f) {a b : Nat} (ha : a < n) (hb : b < n) (e : a ≠ b) : Sy n (addE f a b) := by
  obtain ⟨h1, h2, h3⟩ := h
  refine ⟨fun i k => ?_, fun i => ?_, fun i k => ?_⟩
  · unfold addE
    rw [h1 i k]
    congr 1
    rw [Bool.eq_iff_iff]
    simp only [Bool.or_eq_true, decide_eq_true_eq]
    omega
  · unfold addE
    rw [h2 i, decide_eq_false (by omega), decide_eq_false (by omega)]
    rfl
  · unfold addE
    rw [Bool.or_eq_true, Bool.or_eq_true, decide_eq_true_iff, decide_eq_true_iff]
    rintro (h | h | h)
    · exact h3 i k h
    · omega
    · omega
theorem Sy.right {n : Nat} {f : Nat → Nat → Bool} (h : Sy n f) (hn : n ≤ 40) : rightB (gW n f) = true := gW_right n hn f (fun i k _ _ hb => ⟨fun e => (by rw [e, h.2.1] at hb; cases hb), (by rw [h.1]; exact hb)⟩)
theorem mat_edge (n : Nat) (f : Nat → Nat → Bool) (a b : Nat) (ha : a < n) (hb : b < n) (y : List (List Bool)) (hy : y = (mat n f).set a ((rd_L6 (mat n f) (a : Int)).set b true)) :
    y.length = n ∧ (rd_L6 y (b : Int)).length = n ∧ y.set b ((rd_L6 y (b : Int)).set a true) = mat n (addE f a b) := by
  rw [mat_rd n f a ha, rowT_set, mat_set] at hy
  subst hy
  rw [mat_len, mat_rd n _ b hb, rowT_len, rowT_set, mat_set]
  refine ⟨rfl, rfl, mat_congr (fun i k hi hk => ?_)⟩
  unfold addE
  by_cases c1 : i = b
  · subst c1
    rw [if_pos rfl]
    by_cases c2 : k = a
    · subst c2
      rw [if_pos rfl, decide_eq_true (show i = i ∧ k = k from ⟨rfl, rfl⟩)]
      simp
    · rw [if_neg c2, decide_eq_false (show ¬ (i = i ∧ k = a) by omega), Bool.or_false]
      by_cases c3 : i = a
      · subst c3
        rw [if_pos rfl]
        by_cases c4 : k = i
        · exact absurd c4 c2
        · rw [if_neg c4, decide_eq_false (by omega), Bool.or_false]
      · rw [if_neg c3, decide_eq_false (by omega), Bool.or_false]
  · rw [if_neg c1, decide_eq_false (show ¬ (i = b ∧ k = a) by omega), Bool.or_false]
    by_cases c3 : i = a
    · subst c3
      rw [if_pos rfl]
      by_cases c4 : k = b
      · rw [if_pos c4, decide_eq_true (by omega)]; simp
      · rw [if_neg c4, decide_eq_false (by omega), Bool.or_false]
    · rw [if_neg c3, decide_eq_false (by omega), Bool.or_false]
/-! ### joined -/
theorem joinW_no {ws : List Nat} {a b : Int} (h : ¬ (isP ws.length a = true ∧ isP ws.length b = true ∧ a ≠ b)) : joinW ws a b = ws := by unfold joinW; rw [if_neg h]
theorem joinW_gW {n : Nat} (f : Nat → Nat → Bool) {a b : Nat} (ha : a < n) (hb : b < n) (e : a ≠ b) : joinW (gW n f) (a : Int) (b : Int) = gW n (addE f a b) := by
  refine gI_ext (by rw [joinW_len, gW_len, gW_len]) (fun i hi => Nat.eq_of_testBit_eq (fun k => ?_))
  rw [joinW_len, gW_len] at hi
  have pa : isP n (a : Int) = true := decide_eq_true (by omega)
  have pb : isP n (b : Int) = true := decide_eq_true (by omega)
  rw [join_bit, gW_bit, gW_bit, gW_len, pa, pb, decide_eq_true hi]
  simp only [Bool.true_and, Bool.and_self]
  rw [decide_eq_true (show (a : Int) ≠ (b : Int) by omega), Bool.true_and]
  unfold addE
  by_cases c : k < n
  · rw [decide_eq_true c, Bool.true_and, Bool.true_and]
    congr 1
    rw [Bool.eq_iff_iff]
    simp only [Bool.or_eq_true, decide_eq_true_eq]
    omega
  · rw [decide_eq_false c, Bool.false_and, Bool.false_and, Bool.false_or, decide_eq_false (by omega), decide_eq_false (by omega)]
    rfl
/-! ### cliques -/
def cliqB (n : Nat) (f : Nat → Nat → Bool) (l : List Int) : Bool := l.all (isP n) && l.all fun x => l.all fun y => x == y || f x.toNat y.toNat
theorem isP_nat {n : Nat} {x : Int} (h : isP n x = true) : ∃ k : Nat, x = (k : Int) ∧ k < n := by
  have h := of_decide_eq_true h
  exact ⟨x.toNat, by omega, by omega⟩
def cliqR (ws : List Nat) (l : List Int) (x : Int) : Bool := l.all fun y => x == y || (wAt ws x.toNat).testBit y.toNat
end Go.Proofs.YtefmpehjahfnpaaDoor.Pr

set_option linter.unusedVariables false
set_option linter.unusedSimpArgs false
namespace Go.Proofs.YtefmpehjahfnpaaDoor.Pr
open Go.RowKit Go.Proofs.YtefmpehjahfnpaaDoorW.PrintWords Go.Proofs.YtefmpehjahfnpaaDoorW.PrintLast Go.Proofs.YtefmpehjahfnpaaDoorW.PrintMore

theorem shown_9 : Ev (fun k => arboristlaw09_shown.f k) true := Ev.of (fun k => arboristlaw09_shown.mono k) (k := 100) (by decide +kernel)
theorem made9_j (n : Nat) (l : List (List Int)) (f : Nat → Nat → Bool) (i : Nat) : Ev (fun k => arboristlaw09_made.j1 k (n : Int) l (mat n f) (i : Int) false) (mat n f) := evs0 (fun k => by rw [arboristlaw09_made.j1, if_neg (by decide)])
theorem made9_l0 (n : Nat) (hn : n ≤ 12) (l : List (List Int)) : ∀ (d i : Nat) (f : Nat → Nat → Bool), 40 = i + d → Sy n f → ∃ f', Sy n f' ∧ Ev (fun k => arboristlaw09_made.l0 k (n : Int) l (mat n f) (i : Int)) (mat n f')
  | 0, i, f, h, hf => by
    refine ⟨f, hf, evp (made9_j n l f i) (fun k e => ?_)⟩
    rw [arboristlaw09_made.l0]
    by_cases c : (i : Int) < (l.length : Int)
    · rw [if_pos c, if_neg (by omega)]; exact e
    · rw [if_neg c]; exact e
  | d + 1, i, f, h, hf => by
    by_cases c : i < l.length
    · by_cases c0 : n = 0
      · refine ⟨f, hf, evp (made9_j n l f i) (fun k e => ?_)⟩
        rw [arboristlaw09_made.l0, if_pos (by omega), if_pos (by omega), decide_eq_false (by omega)]
        exact e
      · -- an edge
        have hgo : ∀ {G : Nat → Option (List (List Bool))} {f' : Nat → Nat → Bool}, Ev G (mat n f') → (∀ k, arboristlaw09_made.j1 (k + 1) (n : Int) l (mat n f) (i : Int) true = G k) → Ev (fun k => arboristlaw09_made.l0 k (n : Int) l (mat n f) (i : Int)) (mat n f') := fun hG hj =>
          evp (g := fun k => arboristlaw09_made.j1 k (n : Int) l (mat n f) (i : Int) true) (evp hG (fun k e => by rw [hj]; exact e)) (fun k e => by
            rw [arboristlaw09_made.l0, if_pos (by omega), if_pos (by omega), decide_eq_true (by omega)]
            exact e)
        obtain ⟨e, he⟩ : ∃ e, e = rd_L2 l (i : Int) := ⟨_, rfl⟩
        obtain ⟨p, hp, hp2⟩ := kT_in (show 0 < n by omega) (rd e 0)
        obtain ⟨q, hq, hq2⟩ := kT_in (show 0 < n by omega) (rd e 1)
        by_cases c1 : e.length < 2
        · obtain ⟨f', s, hr⟩ := made9_l0 n hn l d (i + 1) f (by omega) hf
          refine ⟨f', s, hgo hr (fun k => ?_)⟩
          rw [arboristlaw09_made.j1, if_pos rfl, if_pos (by omega), if_pos (by omega), ← he, if_pos (by omega), wrap_nat i (by omega)]
        · by_cases c2 : p = q
          · obtain ⟨f', s, hr⟩ := made9_l0 n hn l d (i + 1) f (by omega) hf
            refine ⟨f', s, hgo hr (fun k => ?_)⟩
            rw [arboristlaw09_made.j1, if_pos rfl, if_pos (by omega), if_pos (by omega), ← he, if_neg (by omega), if_pos (by omega), if_neg (by omega), if_pos (by omega), hp2, hq2, if_pos (by omega), wrap_nat i (by omega)]
          · obtain ⟨f', s, hr⟩ := made9_l0 n hn l d (i + 1) (addE f p q) (by omega) (hf.add hp hq c2)
            obtain ⟨y, hy⟩ : ∃ y, y = (mat n f).set p ((rd_L6 (mat n f) (p : Int)).set q true) := ⟨_, rfl⟩
            obtain ⟨y1, y2, y3⟩ := mat_edge n f p q hp hq y hy
            refine ⟨f', s, hgo hr (fun k => ?_)⟩
            rw [arboristlaw09_made.j1, if_pos rfl, if_pos (by omega), if_pos (by omega), ← he, if_neg (by omega), if_pos (by omega), if_neg (by omega), if_pos (by omega), hp2, hq2, if_neg (by omega), if_pos (by omega), mat_len, if_pos (by omega), if_pos (by omega), if_pos (by rw [mat_rd n f p hp, rowT_len]; omega)]
            simp only [Option.bind_some, Int.toNat_natCast]
            rw [← hy, if_pos (by omega), if_pos (by omega), y3, wrap_nat i (by omega)]
    · refine ⟨f, hf, evp (made9_j n l f i) (fun k e => ?_)⟩
      rw [arboristlaw09_made.l0, if_neg (by omega)]
      exact e
theorem made9_ev (a : Int) (l : List (List Int)) : ∃ (n : Nat) (f : Nat → Nat → Bool), n ≤ 9 ∧ Sy n f ∧ Ev (fun k => arboristlaw09_made.f k a l) (mat n f) := by
  obtain ⟨n, hn, hn2⟩ := kT_in (show 0 < 10 by omega) a
  obtain ⟨f, hf, hr⟩ := made9_l0 n (by omega) l 40 0 (fun _ _ => false) (by omega) (Sy.no n)
  refine ⟨n, f, by omega, hf, evu2 (empty_ev n (by omega)) hr (fun k e1 e2 => ?_)⟩
  rw [show ((10 : Nat) : Int) = 10 from rfl] at hn2
  rw [arboristlaw09_made.f, hn2, e1, Option.bind_some]
  exact e2
/-! ### an order -/
def idI (n : Nat) : List Int := (List.range n).map fun (i : Nat) => (i : Int)
theorem idI_len (n : Nat) : (idI n).length = n := by simp [idI]
theorem idI_succ (n : Nat) : idI (n + 1) = idI n ++ [(n : Int)] := by simp [idI, List.range_succ]
theorem mem_idI {n : Nat} {x : Int} : x ∈ idI n ↔ ∃ k : Nat, k < n ∧ x = (k : Int) := by
  unfold idI
  simp only [List.mem_map, List.mem_range]
  constructor
  · rintro ⟨k, h, rfl⟩; exact ⟨k, h, rfl⟩
  · rintro ⟨k, h, rfl⟩; exact ⟨k, h, rfl⟩
theorem idI_nodup (n : Nat) : (idI n).Nodup := by
  unfold idI
  rw [List.Nodup, List.pairwise_map]
  exact List.nodup_range.imp (fun h e => h (by omega))
theorem given_step (out left : List Int) (p : Nat) (h : p < left.length) {I : List Int} (hp : (out ++ left).Perm I) : ((out ++ [rd left (p : Int)]) ++ (left.take p ++ left.drop (p + 1))).Perm I := by
  have hx : left[p]? = some (left[p]) := List.getElem?_eq_getElem h
  rw [rd_nat left p _ hx]
  have e : left = left.take p ++ left[p] :: left.drop (p + 1) := by rw [← List.drop_eq_getElem_cons h, List.take_append_drop]
  refine List.Perm.trans ?_ hp
  rw [List.append_assoc]
  refine List.Perm.append_left out ?_
  rw [List.singleton_append]
  conv => rhs; rw [e]
  exact List.perm_middle.symm
theorem given_l1 (n : Nat) (hn : n ≤ 1000) (l : List Int) (I : List Int) (d : Nat) : ∀ (i : Nat) (left out : List Int), i + d = n → left.length = d → out.length = i → (out ++ left).Perm I → ∃ o, o.Perm I ∧ Ev (fun k => arboristlaw09_given.l1 k (n : Int) l left out (i : Int)) o := by
  induction d with
  | zero =>
    intro i left out h hl ho hp
    obtain rfl := List.eq_nil_of_length_eq_zero hl
    exact ⟨out, by simpa using hp, evs0 (fun k => by rw [arboristlaw09_given.l1, if_neg (by omega)])⟩
  | succ d ih =>
    intro i left out h hl ho hp
    have next : ∀ p : Nat, p < left.length → ∃ o, o.Perm I ∧ Ev (fun k => arboristlaw09_given.l1 k (n : Int) l (left.take p ++ left.drop (p + 1)) (out ++ [rd left (p : Int)]) ((i + 1 : Nat) : Int)) o := fun p hpl =>
      ih (i + 1) _ _ (by omega) (by rw [List.length_append, List.length_take, List.length_drop]; omega) (by rw [List.length_append, ho]; rfl) (given_step out left p hpl hp)
    clear ih hp
    by_cases c : i < l.length
    · obtain ⟨p, hpl, hp2⟩ := kT_in (show 0 < left.length by omega) (rd l (i : Int))
      obtain ⟨o, ho1, ho2⟩ := next p hpl
      refine ⟨o, ho1, evp ho2 (fun k e => ?_)⟩
      have hq : wrap64 ((p : Int) + 1) = ((p + 1 : Nat) : Int) := wrap_nat p (by omega)
      have hw : wrap64 ((i : Int) + 1) = ((i + 1 : Nat) : Int) := wrap_nat i (by omega)
      have g1 : ([] : List Int).length + (left.take p).length < 17592186044416 := by rw [List.length_take]; simp; omega
      have g2 : (left.take p).length + (left.drop (p + 1)).length < 17592186044416 := by rw [List.length_take, List.length_drop]; omega
      rw [arboristlaw09_given.l1, if_pos (by omega), if_pos (by omega), if_pos (by omega), if_neg (by omega), hp2, if_pos (by omega), if_pos (by omega), if_pos (by omega)]
      rw [Option.bind_some, if_pos (by omega), Option.bind_some, Int.toNat_natCast, if_pos g1, Option.bind_some, hq, if_pos (by omega), if_pos (by omega), Option.bind_some, List.nil_append, Int.toNat_natCast, if_pos g2, hw]
      exact e
    · obtain ⟨o, ho1, ho2⟩ := next 0 (by omega)
      refine ⟨o, ho1, evp ho2 (fun k e => ?_)⟩
      have hw : wrap64 ((i : Int) + 1) = ((i + 1 : Nat) : Int) := wrap_nat i (by omega)
      have g1 : ([] : List Int).length + (left.take 0).length < 17592186044416 := by simp
      have g2 : (left.take 0).length + (left.drop 1).length < 17592186044416 := by simp; omega
      rw [arboristlaw09_given.l1, if_pos (by omega), if_neg (by omega), if_pos (by omega), if_pos (by omega)]
      rw [Option.bind_some, if_pos (by omega), Option.bind_some, if_pos g1, Option.bind_some, if_pos (by omega), Option.bind_some, List.nil_append, if_pos g2, hw]
      exact e
theorem given_l0 (n : Nat) (hn : n ≤ 1000) (l : List Int) : ∀ (d i : Nat), i + d = n → ∃ o, o.Perm (idI n) ∧ Ev (fun k => arboristlaw09_given.l0 k (n : Int) l (idI i) (i : Int)) o
  | 0, i, h => by
    obtain rfl : i = n := by omega
    obtain ⟨o, ho1, ho2⟩ := given_l1 i hn l (idI i) i 0 (idI i) [] (by omega) (idI_len i) rfl (by simp)
    refine ⟨o, ho1, evp ho2 (fun k e => ?_)⟩
    rw [arboristlaw09_given.l0, if_neg (by omega)]
    exact e
  | d + 1, i, h => by
    obtain ⟨o, ho1, ho2⟩ := given_l0 n hn l d (i + 1) (by omega)
    refine ⟨o, ho1, evp ho2 (fun k e => ?_)⟩
    rw [arboristlaw09_given.l0, if_pos (by omega), if_pos (by rw [idI_len]; omega), wrap_nat i (by omega), ← idI_succ]
    exact e
theorem given_ev (n : Nat) (hn : n ≤ 1000) (l : List Int) : ∃ o, o.Perm (idI n) ∧ Ev (fun k => arboristlaw09_given.f k (n : Int) l) o := given_l0 n hn l n 0 (by omega)
end Go.Proofs.YtefmpehjahfnpaaDoor.Pr

set_option linter.unusedVariables false
set_option linter.unusedSimpArgs false
namespace Go.Proofs.YtefmpehjahfnpaaDoor.Pr
open Go.RowKit Go.Proofs.YtefmpehjahfnpaaDoorW.PrintWords Go.Proofs.YtefmpehjahfnpaaDoorW.PrintLast Go.Proofs.YtefmpehjahfnpaaDoorW.PrintMore

theorem perm_of_in : ∀ (xs l : List Int), xs.Nodup → (∀ x ∈ xs, x ∈ l) → l.length ≤ xs.length → l.Perm xs
  | [], l, _, _, h => by
    have : l = [] := List.eq_nil_of_length_eq_zero (by simpa using h)
    rw [this]
  | x :: xs, l, hd, hin, hl => by
    have hx : x ∈ l := hin x List.mem_cons_self
    have h1 : l.Perm (x :: l.erase x) := List.perm_cons_erase hx
    have hlen := h1.length_eq
    have h2 := perm_of_in xs (l.erase x) (List.nodup_cons.1 hd).2 (fun y hy => by
      have hne : y ≠ x := fun e => (List.nodup_cons.1 hd).1 (e ▸ hy)
      exact (List.mem_erase_of_ne hne).2 (hin y (List.mem_cons_of_mem _ hy))) (by simp at hlen hl ⊢; omega)
    exact h1.trans (h2.cons x)
def validB (n : Nat) (l : List Int) : Bool := decide (l.length = n ∧ ∀ v, v < n → l.count (v : Int) = 1)
theorem idI_count (n v : Nat) (h : v < n) : (idI n).count (v : Int) = 1 := List.Nodup.count (idI_nodup n) |>.trans (if_pos (mem_idI.2 ⟨v, h, rfl⟩))
theorem validB_perm (n : Nat) (l : List Int) : validB n l = true ↔ l.Perm (idI n) := by
  unfold validB
  rw [decide_eq_true_iff]
  constructor
  · rintro ⟨h1, h2⟩
    refine perm_of_in (idI n) l (idI_nodup n) (fun x hx => ?_) (by rw [idI_len]; omega)
    obtain ⟨v, hv, rfl⟩ := mem_idI.1 hx
    exact List.count_pos_iff.1 (by rw [h2 v hv]; decide)
  · intro h
    exact ⟨by rw [h.length_eq, idI_len], fun v hv => by rw [h.count_eq, idI_count n v hv]⟩
/-! ### the program's -/
theorem chkN_iff : ∀ (l : List Int) (i : Nat), chkN i l = true ↔ l = (List.range' i l.length).map fun (k : Nat) => (k : Int)
  | [], i => by simp [chkN]
  | x :: l, i => by
    rw [chkN, List.length_cons, List.range'_succ, List.map_cons]
    by_cases c : (i : Int) = x
    · rw [if_pos c, chkN_iff l (i + 1)]
      constructor
      · intro h; rw [← h, c]
      · intro h; exact (List.cons.inj h).2
    · rw [if_neg c]
      constructor
      · intro h; cases h
      · intro h; exact absurd (List.cons.inj h).1.symm c
theorem idI_sorted (n : Nat) : (idI n).Pairwise (· ≤ ·) := by
  unfold idI
  rw [List.pairwise_map]
  exact List.pairwise_lt_range.imp (fun h => by omega)
theorem chk_perm (l : List Int) : chkN 0 (SortedSeq.sortZ l) = true ↔ l.Perm (idI l.length) := by
  rw [chkN_iff, SortedSeq.sortZ_len, ← List.range_eq_range']
  constructor
  · intro h
    have hp := (SortedSeq.sortZ_perm l).symm
    have e : SortedSeq.sortZ l = idI l.length := h
    rw [e] at hp
    exact hp
  · intro h
    exact SortedSeq.sortZ_uniq ((SortedSeq.sortZ_perm l).trans h) (SortedSeq.sortZ_sorted l) (idI_sorted _)
theorem pvalid_f (n : Nat) (l : List Int) (hl : l.length < 17592186043904) : order_Valid.f (n : Int) l = some (validB n l) := by
  unfold order_Valid.f
  by_cases c : l.length = n
  · rw [if_pos (by omega), if_pos hl]
    congr 1
    have h1 := chk_perm l
    rw [c] at h1
    have h2 := validB_perm n l
    rw [Bool.eq_iff_iff, h1, h2]
  · rw [if_neg (by omega)]
    congr 1
    unfold validB
    rw [decide_eq_false (fun h => c h.1)]
theorem pvalid_neg (a : Int) (ha : a < 0) (l : List Int) : order_Valid.f a l = some false := by
  unfold order_Valid.f
  rw [if_neg (by omega)]
/-! ### the document's -/
def cntV (l : List Int) (v : Int) (j : Nat) : Nat := (l.take j).count v
theorem cntV_succ (l : List Int) (v : Int) (j : Nat) (h : j < l.length) : cntV l v (j + 1) = cntV l v j + if rd l (j : Int) = v then 1 else 0 := by
  unfold cntV
  rw [List.take_succ_eq_append_getElem h, List.count_append, rd_nat l j _ (List.getElem?_eq_getElem h), List.count_singleton]
  by_cases c : l[j] = v
  · rw [if_pos c, if_pos (by simpa using c)]
  · rw [if_neg c, if_neg (by simpa using c)]
theorem cntV_le (l : List Int) (v : Int) (j : Nat) : cntV l v j ≤ j := Nat.le_trans List.count_le_length (by simp; omega)
theorem rvalid_l1 (n : Nat) (hn : n ≤ 1000000) (l : List Int) (hl : l.length = n) (v : Nat) (R : Bool) (H : Ev (fun k => arboristref09_Valid.l1 k (n : Int) l (v : Int) ((cntV l (v : Int) n : Nat) : Int) (n : Int)) R) (d : Nat) :
    ∀ j, j + d = n → Ev (fun k => arboristref09_Valid.l1 k (n : Int) l (v : Int) ((cntV l (v : Int) j : Nat) : Int) (j : Int)) R := by
  induction d with
  | zero =>
    intro j h
    obtain rfl : j = n := by omega
    exact H
  | succ d ih =>
    intro j h
    have hr := ih (j + 1) (by omega)
    rw [cntV_succ l _ j (by omega)] at hr
    have hc := cntV_le l (v : Int) j
    refine evp hr (fun k e => ?_)
    rw [arboristref09_Valid.l1, if_pos (by omega), if_pos (by omega), if_pos (by omega), wrap_nat j (by omega)]
    by_cases c : rd l (j : Int) = (v : Int)
    · rw [if_pos c, wrap_nat _ (by omega)]; rw [if_pos c] at e; exact e
    · rw [if_neg c]; rw [if_neg c, Nat.add_zero] at e; exact e
theorem rvalid_l0 (n : Nat) (hn : n ≤ 1000000) (l : List Int) (hl : l.length = n) (d : Nat) : ∀ v, v + d = n → Ev (fun k => arboristref09_Valid.l0 k (n : Int) l (v : Int)) ((List.range' v (n - v)).all fun x => decide (l.count (x : Int) = 1)) := by
  induction d with
  | zero =>
    intro v h
    obtain rfl : v = n := by omega
    rw [Nat.sub_self]
    exact evs0 (fun k => by rw [arboristref09_Valid.l0, if_neg (by omega)]; rfl)
  | succ d ih =>
    intro v h
    have hcv : cntV l (v : Int) n = l.count (v : Int) := by unfold cntV; rw [← hl, List.take_length]
    rw [show n - v = (n - (v + 1)) + 1 by omega, List.range'_succ, List.all_cons]
    refine evp (rvalid_l1 n hn l hl v ((decide (l.count (v : Int) = 1)) && ((List.range' (v + 1) (n - (v + 1))).all fun x => decide (l.count (x : Int) = 1))) ?_ n 0 (by omega)) (fun k e => ?_)
    · by_cases c : l.count (v : Int) = 1
      · rw [decide_eq_true c, Bool.true_and]
        refine evp (ih (v + 1) (by omega)) (fun k e => ?_)
        rw [arboristref09_Valid.l1, if_neg (by omega), hcv, if_pos (by omega), wrap_nat v (by omega)]
        exact e
      · rw [decide_eq_false c, Bool.false_and]
        exact evs0 (fun k => by rw [arboristref09_Valid.l1, if_neg (by omega), hcv, if_neg (by omega)])
    · rw [arboristref09_Valid.l0, if_pos (by omega)]
      have hz : cntV l (v : Int) 0 = 0 := by unfold cntV; simp
      rw [hz] at e
      exact e
theorem rvalid_ev (n : Nat) (hn : n ≤ 1000000) (l : List Int) : Ev (fun k => arboristref09_Valid.f k (n : Int) l) (validB n l) := by
  by_cases c : l.length = n
  · have e : validB n l = ((List.range' 0 (n - 0)).all fun x => decide (l.count (x : Int) = 1)) := by
      unfold validB
      rw [Nat.sub_zero, ← List.range_eq_range', Bool.eq_iff_iff, decide_eq_true_iff, List.all_eq_true]
      constructor
      · rintro ⟨_, h⟩ x hx; exact decide_eq_true (h x (List.mem_range.1 hx))
      · intro h; exact ⟨c, fun v hv => of_decide_eq_true (h v (List.mem_range.2 hv))⟩
    rw [e]
    refine evu1 (rvalid_l0 n hn l c n 0 (by omega)) (fun k e => ?_)
    rw [arboristref09_Valid.f, if_pos (by omega)]
    exact e
  · have e : validB n l = false := decide_eq_false (fun h => c h.1)
    rw [e]
    exact evu0 (fun k => by rw [arboristref09_Valid.f, if_neg (by omega)])
theorem validB_of {n : Nat} {l : List Int} (h : l.Perm (idI n)) : validB n l = true := (validB_perm n l).2 h
end Go.Proofs.YtefmpehjahfnpaaDoor.Pr

set_option linter.unusedVariables false
set_option linter.unusedSimpArgs false
namespace Go.Proofs.YtefmpehjahfnpaaDoor.Pure
open Go.RowKit Go.Proofs.YtefmpehjahfnpaaDoor.Pr Go.Proofs.YtefmpehjahfnpaaDoorW.PrintWords Go.Proofs.YtefmpehjahfnpaaDoorW.PrintLast Go.Proofs.YtefmpehjahfnpaaDoorW.PrintMore

theorem twice_valid (n : Nat) (o : List Int) (ho : o.Perm (idI n)) (p q : Nat) (hp : p < n) (hq : q < n) (hpq : p ≠ q) : validB n (o.set p (rd o (q : Int))) = false := by
  have hl : o.length = n := by rw [ho.length_eq, idI_len]
  cases h : validB n (o.set p (rd o (q : Int))) with
  | false => rfl
  | true =>
    exfalso
    have hperm := (validB_perm n _).1 h
    have hnd : (o.set p (rd o (q : Int))).Nodup := hperm.nodup_iff.2 (idI_nodup n)
    have hpw := List.pairwise_iff_getElem.1 hnd
    have hlen : (o.set p (rd o (q : Int))).length = n := by rw [List.length_set, hl]
    have e1 : (o.set p (rd o (q : Int)))[p]'(by omega) = rd o (q : Int) := List.getElem_set_self _
    have e2 : (o.set p (rd o (q : Int)))[q]'(by omega) = rd o (q : Int) := by
      rw [List.getElem_set_ne hpq]
      exact (rd_nat o q _ (List.getElem?_eq_getElem (by omega))).symm
    rcases Nat.lt_or_ge p q with c | c
    · exact hpw p q (by omega) (by omega) c (by rw [e1, e2])
    · exact hpw q p (by omega) (by omega) (by omega) (by rw [e1, e2])
theorem perm_j1 (n : Nat) (hn0 : 0 < n) (hn : n ≤ 40) (a2 : Int) (o : List Int) (ho : o.Perm (idI n)) : Ev (fun k => arboristlaw09_OrderPermutes.j1 k (n : Int) a2 true o false) true := by
  have hl : o.length = n := by rw [ho.length_eq, idI_len]
  obtain ⟨p, hp, hp2⟩ := kT_in hn0 a2
  have hq : Int.tmod (wrap64 ((p : Int) + 1)) (n : Int) = (((p + 1) % n : Nat) : Int) := by
    rw [wrap_nat p (by omega)]
    rfl
  have hqn : (p + 1) % n < n := Nat.mod_lt _ hn0
  obtain ⟨q, hqq⟩ : ∃ q, q = (p + 1) % n := ⟨_, rfl⟩
  rw [← hqq] at hq hqn
  have hv : (validB n (o.set p (rd o (q : Int))) == ((n : Int) == 1)) = true := by
    by_cases c : n = 1
    · have hp0 : p = 0 := by omega
      have hq0 : q = 0 := by omega
      subst hp0 hq0
      have e : o.set 0 (rd o ((0 : Nat) : Int)) = o := by
        rw [rd_nat o 0 _ (List.getElem?_eq_getElem (by omega))]
        exact List.set_getElem_self _
      rw [e, validB_of ho, c]
      rfl
    · have hpq : p ≠ q := by
        rw [hqq]
        by_cases c2 : p + 1 < n
        · rw [Nat.mod_eq_of_lt c2]; omega
        · have : p + 1 = n := by omega
          rw [this, Nat.mod_self]; omega
      rw [twice_valid n o ho p q hp hqn hpq]
      have : ((n : Int) == 1) = false := by simp; omega
      rw [this]
      rfl
  refine evs0 (fun k => ?_)
  rw [arboristlaw09_OrderPermutes.j1, if_neg (by decide), if_neg (by omega), Option.bind_some, List.length_nil, if_pos (by omega), Option.bind_some, hp2, hq, if_pos (by omega), if_pos (by omega), if_pos (by omega), List.nil_append, if_pos (by omega), if_pos rfl, Int.toNat_natCast, pvalid_f n _ (by rw [List.length_set]; omega), Option.bind_some, if_pos hv]
  have v0 := pvalid_f 0 [] (by decide)
  have v1 := pvalid_f 1 [] (by decide)
  rw [show ((0 : Nat) : Int) = 0 from rfl] at v0
  rw [show ((1 : Nat) : Int) = 1 from rfl] at v1
  rw [v0, Option.bind_some, show validB 0 [] = true by decide, if_pos rfl, v1, Option.bind_some]
  rfl
theorem perm_l0 (n : Nat) (hn0 : 0 < n) (hn : n ≤ 40) (a2 : Int) (o : List Int) (ho : o.Perm (idI n)) (i : Nat) : ∀ b, i ≤ n → b = (o.drop i).reverse → Ev (fun k => arboristlaw09_OrderPermutes.l0 k (n : Int) a2 true o b (i : Int)) true := by
  have hl : o.length = n := by rw [ho.length_eq, idI_len]
  induction i with
  | zero =>
    intro b hi hb
    rw [List.drop_zero] at hb
    refine evp (perm_j1 n hn0 hn a2 o ho) (fun k e => ?_)
    have hw1 : wrap64 ((n : Int) - 1) = ((n - 1 : Nat) : Int) := by rw [wrap_id (by omega) (by omega)]; omega
    have hvb : validB n b = true := validB_of (by rw [hb]; exact (List.reverse_perm o).trans ho)
    rw [arboristlaw09_OrderPermutes.l0, if_neg (by simp), pvalid_f n o (by omega), Option.bind_some, validB_of ho, if_pos rfl, pvalid_f n b (by rw [hb, List.length_reverse]; omega), Option.bind_some, hvb, if_pos rfl, hw1, pvalid_f (n - 1) o (by omega), Option.bind_some,
      show validB (n - 1) o = false from decide_eq_false (fun h => by have := h.1; omega), if_neg (by decide), wrap_nat n (by omega), pvalid_f (n + 1) o (by omega), Option.bind_some, show validB (n + 1) o = false from decide_eq_false (fun h => by have := h.1; omega), if_neg (by decide), if_pos (by omega),
      pvalid_f n _ (by rw [List.length_drop]; omega), Option.bind_some, show validB n (o.drop 1) = false from decide_eq_false (fun h => by have := h.1; rw [List.length_drop] at this; omega)]
    exact e
  | succ i ih =>
    intro b hi hb
    have hw : wrap64 (((i + 1 : Nat) : Int) - 1) = (i : Int) := by rw [wrap_id (by omega) (by omega)]; omega
    have hbl : b.length ≤ 40 := by rw [hb, List.length_reverse, List.length_drop]; omega
    refine evp (ih (b ++ [rd o (i : Int)]) (by omega) (by
      rw [hb, drop_at o i (by omega), List.reverse_cons])) (fun k e => ?_)
    rw [arboristlaw09_OrderPermutes.l0, if_pos (by omega), hw, if_pos (by omega), if_pos (by omega), if_pos (by omega)]
    exact e
theorem OrderPermutes : arboristlaw09_OrderPermutes.Pure := by
  intro a l a2 _ _ _
  obtain ⟨m, hm, hm2⟩ := kT_in (show 0 < 40 by omega) a
  rw [show ((40 : Nat) : Int) = 40 from rfl] at hm2
  have hw : wrap64 (1 + (m : Int)) = ((m + 1 : Nat) : Int) := by rw [Int.add_comm]; exact wrap_nat m (by omega)
  obtain ⟨o, ho, hg⟩ := given_ev (m + 1) (by omega) l
  have hl : o.length = m + 1 := by rw [ho.length_eq, idI_len]
  refine (evu3 shown_9 hg (perm_l0 (m + 1) (by omega) (by omega) a2 o ho (m + 1) [] (Nat.le_refl _) (by rw [← hl, List.drop_length]; rfl)) (fun k e1 e2 e3 => ?_)).rounds
  simp only [arboristlaw09_OrderPermutes.f]
  rw [e1, Option.bind_some, hm2, hw, e2, Option.bind_some]
  exact e3
end Go.Proofs.YtefmpehjahfnpaaDoor.Pure
