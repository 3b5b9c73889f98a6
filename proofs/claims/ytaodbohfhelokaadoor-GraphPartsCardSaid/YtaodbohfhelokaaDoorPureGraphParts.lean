/- GraphParts: each point is in one part, and no edge leaves one. -/
-- merge
import Derived.Laws.BitsAllLaws
import Derived.Test.YtaodbohfhelokaaDoorPr0
import Derived.Test.YtaodbohfhelokaaDoorPr1
import Derived.Test.YtaodbohfhelokaaDoorPr10
import Derived.Test.YtaodbohfhelokaaDoorPr11
import Derived.Test.YtaodbohfhelokaaDoorPr12
import Derived.Test.YtaodbohfhelokaaDoorPr13
import Derived.Test.YtaodbohfhelokaaDoorPr15
import Derived.Test.YtaodbohfhelokaaDoorPr16
import Derived.Test.YtaodbohfhelokaaDoorPr17
import Derived.Test.YtaodbohfhelokaaDoorPr18
import Derived.Test.YtaodbohfhelokaaDoorPr19
import Derived.Test.YtaodbohfhelokaaDoorPr2
import Derived.Test.YtaodbohfhelokaaDoorPr20
import Derived.Test.YtaodbohfhelokaaDoorPr21
import Derived.Test.YtaodbohfhelokaaDoorPr22
import Derived.Test.YtaodbohfhelokaaDoorPr24
import Derived.Test.YtaodbohfhelokaaDoorPr25
import Derived.Test.YtaodbohfhelokaaDoorPr26
import Derived.Test.YtaodbohfhelokaaDoorPr4
import Derived.Test.YtaodbohfhelokaaDoorPr5
import Derived.Test.YtaodbohfhelokaaDoorPr6
import Derived.Test.YtaodbohfhelokaaDoorPr7
import Derived.Test.YtaodbohfhelokaaDoorPr8
import Derived.Test.YtaodbohfhelokaaDoorPr9
namespace Go.Proofs.YtaodbohfhelokaaDoor.Pr
open Go.RowKit Go.Proofs.YtaodbohfhelokaaDoorW.PrintWords Go.Proofs.YtaodbohfhelokaaDoorW.PrintLast
theorem evs0 {ρ : Type} {F : Nat → Option ρ} {r : ρ} (H : ∀ k, F (k + 1) = some r) : Ev F r := ⟨1, fun k hk => by obtain ⟨m, rfl⟩ : ∃ m, k = m + 1 := ⟨k - 1, by omega⟩; exact H m⟩
theorem evu0 {ρ : Type} {F : Nat → Option ρ} {r : ρ} (H : ∀ k, F k = some r) : Ev F r := ⟨0, fun k _ => H k⟩
theorem evu1 {ρ : Type} {F : Nat → Option ρ} {r : ρ} {α1 : Type} {g1 : Nat → Option α1} {a1 : α1} (h1 : Ev g1 a1) (H : ∀ k, g1 k = some a1 → F k = some r) : Ev F r := by
  obtain ⟨K1, e1⟩ := h1
  exact ⟨K1, fun k hk => H k (e1 _ (by omega))⟩
theorem evs1 {ρ : Type} {F : Nat → Option ρ} {r : ρ} {α1 : Type} {g1 : Nat → Option α1} {a1 : α1} (h1 : Ev g1 a1) (H : ∀ k, g1 k = some a1 → F (k + 1) = some r) : Ev F r := by
  obtain ⟨K1, e1⟩ := h1
  refine ⟨K1 + 1, fun k hk => ?_⟩
  obtain ⟨m, rfl⟩ : ∃ m, k = m + 1 := ⟨k - 1, by omega⟩
  exact H m (e1 _ (by omega))
theorem evu2 {ρ : Type} {F : Nat → Option ρ} {r : ρ} {α1 : Type} {g1 : Nat → Option α1} {a1 : α1} {α2 : Type} {g2 : Nat → Option α2} {a2 : α2} (h1 : Ev g1 a1) (h2 : Ev g2 a2) (H : ∀ k, g1 k = some a1 → g2 k = some a2 → F k = some r) : Ev F r := by
  obtain ⟨K1, e1⟩ := h1; obtain ⟨K2, e2⟩ := h2
  exact ⟨K1 + K2, fun k hk => H k (e1 _ (by omega)) (e2 _ (by omega))⟩
theorem evs2 {ρ : Type} {F : Nat → Option ρ} {r : ρ} {α1 : Type} {g1 : Nat → Option α1} {a1 : α1} {α2 : Type} {g2 : Nat → Option α2} {a2 : α2} (h1 : Ev g1 a1) (h2 : Ev g2 a2) (H : ∀ k, g1 k = some a1 → g2 k = some a2 → F (k + 1) = some r) : Ev F r := by
  obtain ⟨K1, e1⟩ := h1; obtain ⟨K2, e2⟩ := h2
  refine ⟨K1 + K2 + 1, fun k hk => ?_⟩
  obtain ⟨m, rfl⟩ : ∃ m, k = m + 1 := ⟨k - 1, by omega⟩
  exact H m (e1 _ (by omega)) (e2 _ (by omega))
theorem evu3 {ρ : Type} {F : Nat → Option ρ} {r : ρ} {α1 : Type} {g1 : Nat → Option α1} {a1 : α1} {α2 : Type} {g2 : Nat → Option α2} {a2 : α2} {α3 : Type} {g3 : Nat → Option α3} {a3 : α3} (h1 : Ev g1 a1) (h2 : Ev g2 a2) (h3 : Ev g3 a3) (H : ∀ k, g1 k = some a1 → g2 k = some a2 → g3 k = some a3 → F k = some r) : Ev F r := by
  obtain ⟨K1, e1⟩ := h1; obtain ⟨K2, e2⟩ := h2; obtain ⟨K3, e3⟩ := h3
  exact ⟨K1 + K2 + K3, fun k hk => H k (e1 _ (by omega)) (e2 _ (by omega)) (e3 _ (by omega))⟩
theorem evs3 {ρ : Type} {F : Nat → Option ρ} {r : ρ} {α1 : Type} {g1 : Nat → Option α1} {a1 : α1} {α2 : Type} {g2 : Nat → Option α2} {a2 : α2} {α3 : Type} {g3 : Nat → Option α3} {a3 : α3} (h1 : Ev g1 a1) (h2 : Ev g2 a2) (h3 : Ev g3 a3) (H : ∀ k, g1 k = some a1 → g2 k = some a2 → g3 k = some a3 → F (k + 1) = some r) : Ev F r := by
  obtain ⟨K1, e1⟩ := h1; obtain ⟨K2, e2⟩ := h2; obtain ⟨K3, e3⟩ := h3
  refine ⟨K1 + K2 + K3 + 1, fun k hk => ?_⟩
  obtain ⟨m, rfl⟩ : ∃ m, k = m + 1 := ⟨k - 1, by omega⟩
  exact H m (e1 _ (by omega)) (e2 _ (by omega)) (e3 _ (by omega))
theorem evu4 {ρ : Type} {F : Nat → Option ρ} {r : ρ} {α1 : Type} {g1 : Nat → Option α1} {a1 : α1} {α2 : Type} {g2 : Nat → Option α2} {a2 : α2} {α3 : Type} {g3 : Nat → Option α3} {a3 : α3} {α4 : Type} {g4 : Nat → Option α4} {a4 : α4} (h1 : Ev g1 a1) (h2 : Ev g2 a2) (h3 : Ev g3 a3) (h4 : Ev g4 a4) (H : ∀ k, g1 k = some a1 → g2 k = some a2 → g3 k = some a3 → g4 k = some a4 → F k = some r) : Ev F r := by
  obtain ⟨K1, e1⟩ := h1; obtain ⟨K2, e2⟩ := h2; obtain ⟨K3, e3⟩ := h3; obtain ⟨K4, e4⟩ := h4
  exact ⟨K1 + K2 + K3 + K4, fun k hk => H k (e1 _ (by omega)) (e2 _ (by omega)) (e3 _ (by omega)) (e4 _ (by omega))⟩
theorem evs4 {ρ : Type} {F : Nat → Option ρ} {r : ρ} {α1 : Type} {g1 : Nat → Option α1} {a1 : α1} {α2 : Type} {g2 : Nat → Option α2} {a2 : α2} {α3 : Type} {g3 : Nat → Option α3} {a3 : α3} {α4 : Type} {g4 : Nat → Option α4} {a4 : α4} (h1 : Ev g1 a1) (h2 : Ev g2 a2) (h3 : Ev g3 a3) (h4 : Ev g4 a4) (H : ∀ k, g1 k = some a1 → g2 k = some a2 → g3 k = some a3 → g4 k = some a4 → F (k + 1) = some r) : Ev F r := by
  obtain ⟨K1, e1⟩ := h1; obtain ⟨K2, e2⟩ := h2; obtain ⟨K3, e3⟩ := h3; obtain ⟨K4, e4⟩ := h4
  refine ⟨K1 + K2 + K3 + K4 + 1, fun k hk => ?_⟩
  obtain ⟨m, rfl⟩ : ∃ m, k = m + 1 := ⟨k - 1, by omega⟩
  exact H m (e1 _ (by omega)) (e2 _ (by omega)) (e3 _ (by omega)) (e4 _ (by omega))
theorem evu5 {ρ : Type} {F : Nat → Option ρ} {r : ρ} {α1 : Type} {g1 : Nat → Option α1} {a1 : α1} {α2 : Type} {g2 : Nat → Option α2} {a2 : α2} {α3 : Type} {g3 : Nat → Option α3} {a3 : α3} {α4 : Type} {g4 : Nat → Option α4} {a4 : α4} {α5 : Type} {g5 : Nat → Option α5} {a5 : α5} (h1 : Ev g1 a1) (h2 : Ev g2 a2) (h3 : Ev g3 a3) (h4 : Ev g4 a4) (h5 : Ev g5 a5) (H : ∀ k, g1 k = some a1 → g2 k = some a2 → g3 k = some a3 → g4 k = some a4 → g5 k = some a5 → F k = some r) : Ev F r := by
  obtain ⟨K1, e1⟩ := h1; obtain ⟨K2, e2⟩ := h2; obtain ⟨K3, e3⟩ := h3; obtain ⟨K4, e4⟩ := h4; obtain ⟨K5, e5⟩ := h5
  exact ⟨K1 + K2 + K3 + K4 + K5, fun k hk => H k (e1 _ (by omega)) (e2 _ (by omega)) (e3 _ (by omega)) (e4 _ (by omega)) (e5 _ (by omega))⟩
theorem evs5 {ρ : Type} {F : Nat → Option ρ} {r : ρ} {α1 : Type} {g1 : Nat → Option α1} {a1 : α1} {α2 : Type} {g2 : Nat → Option α2} {a2 : α2} {α3 : Type} {g3 : Nat → Option α3} {a3 : α3} {α4 : Type} {g4 : Nat → Option α4} {a4 : α4} {α5 : Type} {g5 : Nat → Option α5} {a5 : α5} (h1 : Ev g1 a1) (h2 : Ev g2 a2) (h3 : Ev g3 a3) (h4 : Ev g4 a4) (h5 : Ev g5 a5) (H : ∀ k, g1 k = some a1 → g2 k = some a2 → g3 k = some a3 → g4 k = some a4 → g5 k = some a5 → F (k + 1) = some r) : Ev F r := by
  obtain ⟨K1, e1⟩ := h1; obtain ⟨K2, e2⟩ := h2; obtain ⟨K3, e3⟩ := h3; obtain ⟨K4, e4⟩ := h4; obtain ⟨K5, e5⟩ := h5
  refine ⟨K1 + K2 + K3 + K4 + K5 + 1, fun k hk => ?_⟩
  obtain ⟨m, rfl⟩ : ∃ m, k = m + 1 := ⟨k - 1, by omega⟩
  exact H m (e1 _ (by omega)) (e2 _ (by omega)) (e3 _ (by omega)) (e4 _ (by omega)) (e5 _ (by omega))
theorem evu6 {ρ : Type} {F : Nat → Option ρ} {r : ρ} {α1 : Type} {g1 : Nat → Option α1} {a1 : α1} {α2 : Type} {g2 : Nat → Option α2} {a2 : α2} {α3 : Type} {g3 : Nat → Option α3} {a3 : α3} {α4 : Type} {g4 : Nat → Option α4} {a4 : α4} {α5 : Type} {g5 : Nat → Option α5} {a5 : α5} {α6 : Type} {g6 : Nat → Option α6} {a6 : α6} (h1 : Ev g1 a1) (h2 : Ev g2 a2) (h3 : Ev g3 a3) (h4 : Ev g4 a4) (h5 : Ev g5 a5) (h6 : Ev g6 a6) (H : ∀ k, g1 k = some a1 → g2 k = some a2 → g3 k = some a3 → g4 k = some a4 → g5 k = some a5 → g6 k = some a6 → F k = some r) : Ev F r := by
  obtain ⟨K1, e1⟩ := h1; obtain ⟨K2, e2⟩ := h2; obtain ⟨K3, e3⟩ := h3; obtain ⟨K4, e4⟩ := h4; obtain ⟨K5, e5⟩ := h5; obtain ⟨K6, e6⟩ := h6
  exact ⟨K1 + K2 + K3 + K4 + K5 + K6, fun k hk => H k (e1 _ (by omega)) (e2 _ (by omega)) (e3 _ (by omega)) (e4 _ (by omega)) (e5 _ (by omega)) (e6 _ (by omega))⟩
theorem evs6 {ρ : Type} {F : Nat → Option ρ} {r : ρ} {α1 : Type} {g1 : Nat → Option α1} {a1 : α1} {α2 : Type} {g2 : Nat → Option α2} {a2 : α2} {α3 : Type} {g3 : Nat → Option α3} {a3 : α3} {α4 : Type} {g4 : Nat → Option α4} {a4 : α4} {α5 : Type} {g5 : Nat → Option α5} {a5 : α5} {α6 : Type} {g6 : Nat → Option α6} {a6 : α6} (h1 : Ev g1 a1) (h2 : Ev g2 a2) (h3 : Ev g3 a3) (h4 : Ev g4 a4) (h5 : Ev g5 a5) (h6 : Ev g6 a6) (H : ∀ k, g1 k = some a1 → g2 k = some a2 → g3 k = some a3 → g4 k = some a4 → g5 k = some a5 → g6 k = some a6 → F (k + 1) = some r) : Ev F r := by
  obtain ⟨K1, e1⟩ := h1; obtain ⟨K2, e2⟩ := h2; obtain ⟨K3, e3⟩ := h3; obtain ⟨K4, e4⟩ := h4; obtain ⟨K5, e5⟩ := h5; obtain ⟨K6, e6⟩ := h6
  refine ⟨K1 + K2 + K3 + K4 + K5 + K6 + 1, fun k hk => ?_⟩
  obtain ⟨m, rfl⟩ : ∃ m, k = m + 1 := ⟨k - 1, by omega⟩
  exact H m (e1 _ (by omega)) (e2 _ (by omega)) (e3 _ (by omega)) (e4 _ (by omega)) (e5 _ (by omega)) (e6 _ (by omega))
theorem evu7 {ρ : Type} {F : Nat → Option ρ} {r : ρ} {α1 : Type} {g1 : Nat → Option α1} {a1 : α1} {α2 : Type} {g2 : Nat → Option α2} {a2 : α2} {α3 : Type} {g3 : Nat → Option α3} {a3 : α3} {α4 : Type} {g4 : Nat → Option α4} {a4 : α4} {α5 : Type} {g5 : Nat → Option α5} {a5 : α5} {α6 : Type} {g6 : Nat → Option α6} {a6 : α6} {α7 : Type} {g7 : Nat → Option α7} {a7 : α7} (h1 : Ev g1 a1) (h2 : Ev g2 a2) (h3 : Ev g3 a3) (h4 : Ev g4 a4) (h5 : Ev g5 a5) (h6 : Ev g6 a6) (h7 : Ev g7 a7) (H : ∀ k, g1 k = some a1 → g2 k = some a2 → g3 k = some a3 → g4 k = some a4 → g5 k = some a5 → g6 k = some a6 → g7 k = some a7 → F k = some r) : Ev F r := by
  obtain ⟨K1, e1⟩ := h1; obtain ⟨K2, e2⟩ := h2; obtain ⟨K3, e3⟩ := h3; obtain ⟨K4, e4⟩ := h4; obtain ⟨K5, e5⟩ := h5; obtain ⟨K6, e6⟩ := h6; obtain ⟨K7, e7⟩ := h7
  exact ⟨K1 + K2 + K3 + K4 + K5 + K6 + K7, fun k hk => H k (e1 _ (by omega)) (e2 _ (by omega)) (e3 _ (by omega)) (e4 _ (by omega)) (e5 _ (by omega)) (e6 _ (by omega)) (e7 _ (by omega))⟩
theorem evs7 {ρ : Type} {F : Nat → Option ρ} {r : ρ} {α1 : Type} {g1 : Nat → Option α1} {a1 : α1} {α2 : Type} {g2 : Nat → Option α2} {a2 : α2} {α3 : Type} {g3 : Nat → Option α3} {a3 : α3} {α4 : Type} {g4 : Nat → Option α4} {a4 : α4} {α5 : Type} {g5 : Nat → Option α5} {a5 : α5} {α6 : Type} {g6 : Nat → Option α6} {a6 : α6} {α7 : Type} {g7 : Nat → Option α7} {a7 : α7} (h1 : Ev g1 a1) (h2 : Ev g2 a2) (h3 : Ev g3 a3) (h4 : Ev g4 a4) (h5 : Ev g5 a5) (h6 : Ev g6 a6) (h7 : Ev g7 a7) (H : ∀ k, g1 k = some a1 → g2 k = some a2 → g3 k = some a3 → g4 k = some a4 → g5 k = some a5 → g6 k = some a6 → g7 k = some a7 → F (k + 1) = some r) : Ev F r := by
  obtain ⟨K1, e1⟩ := h1; obtain ⟨K2, e2⟩ := h2; obtain ⟨K3, e3⟩ := h3; obtain ⟨K4, e4⟩ := h4; obtain ⟨K5, e5⟩ := h5; obtain ⟨K6, e6⟩ := h6; obtain ⟨K7, e7⟩ := h7
  refine ⟨K1 + K2 + K3 + K4 + K5 + K6 + K7 + 1, fun k hk => ?_⟩
  obtain ⟨m, rfl⟩ : ∃ m, k = m + 1 := ⟨k - 1, by omega⟩
  exact H m (e1 _ (by omega)) (e2 _ (by omega)) (e3 _ (by omega)) (e4 _ (by omega)) (e5 _ (by omega)) (e6 _ (by omega)) (e7 _ (by omega))
theorem evu8 {ρ : Type} {F : Nat → Option ρ} {r : ρ} {α1 : Type} {g1 : Nat → Option α1} {a1 : α1} {α2 : Type} {g2 : Nat → Option α2} {a2 : α2} {α3 : Type} {g3 : Nat → Option α3} {a3 : α3} {α4 : Type} {g4 : Nat → Option α4} {a4 : α4} {α5 : Type} {g5 : Nat → Option α5} {a5 : α5} {α6 : Type} {g6 : Nat → Option α6} {a6 : α6} {α7 : Type} {g7 : Nat → Option α7} {a7 : α7} {α8 : Type} {g8 : Nat → Option α8} {a8 : α8} (h1 : Ev g1 a1) (h2 : Ev g2 a2) (h3 : Ev g3 a3) (h4 : Ev g4 a4) (h5 : Ev g5 a5) (h6 : Ev g6 a6) (h7 : Ev g7 a7) (h8 : Ev g8 a8) (H : ∀ k, g1 k = some a1 → g2 k = some a2 → g3 k = some a3 → g4 k = some a4 → g5 k = some a5 → g6 k = some a6 → g7 k = some a7 → g8 k = some a8 → F k = some r) : Ev F r := by
  obtain ⟨K1, e1⟩ := h1; obtain ⟨K2, e2⟩ := h2; obtain ⟨K3, e3⟩ := h3; obtain ⟨K4, e4⟩ := h4; obtain ⟨K5, e5⟩ := h5; obtain ⟨K6, e6⟩ := h6; obtain ⟨K7, e7⟩ := h7; obtain ⟨K8, e8⟩ := h8
  exact ⟨K1 + K2 + K3 + K4 + K5 + K6 + K7 + K8, fun k hk => H k (e1 _ (by omega)) (e2 _ (by omega)) (e3 _ (by omega)) (e4 _ (by omega)) (e5 _ (by omega)) (e6 _ (by omega)) (e7 _ (by omega)) (e8 _ (by omega))⟩
theorem evs8 {ρ : Type} {F : Nat → Option ρ} {r : ρ} {α1 : Type} {g1 : Nat → Option α1} {a1 : α1} {α2 : Type} {g2 : Nat → Option α2} {a2 : α2} {α3 : Type} {g3 : Nat → Option α3} {a3 : α3} {α4 : Type} {g4 : Nat → Option α4} {a4 : α4} {α5 : Type} {g5 : Nat → Option α5} {a5 : α5} {α6 : Type} {g6 : Nat → Option α6} {a6 : α6} {α7 : Type} {g7 : Nat → Option α7} {a7 : α7} {α8 : Type} {g8 : Nat → Option α8} {a8 : α8} (h1 : Ev g1 a1) (h2 : Ev g2 a2) (h3 : Ev g3 a3) (h4 : Ev g4 a4) (h5 : Ev g5 a5) (h6 : Ev g6 a6) (h7 : Ev g7 a7) (h8 : Ev g8 a8) (H : ∀ k, g1 k = some a1 → g2 k = some a2 → g3 k = some a3 → g4 k = some a4 → g5 k = some a5 → g6 k = some a6 → g7 k = some a7 → g8 k = some a8 → F (k + 1) = some r) : Ev F r := by
  obtain ⟨K1, e1⟩ := h1; obtain ⟨K2, e2⟩ := h2; obtain ⟨K3, e3⟩ := h3; obtain ⟨K4, e4⟩ := h4; obtain ⟨K5, e5⟩ := h5; obtain ⟨K6, e6⟩ := h6; obtain ⟨K7, e7⟩ := h7; obtain ⟨K8, e8⟩ := h8
  refine ⟨K1 + K2 + K3 + K4 + K5 + K6 + K7 + K8 + 1, fun k hk => ?_⟩
  obtain ⟨m, rfl⟩ : ∃ m, k = m + 1 := ⟨k - 1, by omega⟩
  exact H m (e1 _ (by omega)) (e2 _ (by omega)) (e3 _ (by omega)) (e4 _ (by omega)) (e5 _ (by omega)) (e6 _ (by omega)) (e7 _ (by omega)) (e8 _ (by omega))
end Go.Proofs.YtaodbohfhelokaaDoor.Pr

set_option linter.unusedVariables false
namespace Go.Proofs.YtaodbohfhelokaaDoor.Pr
open Go.RowKit Go.Proofs.YtaodbohfhelokaaDoorW.PrintWords Go.Proofs.YtaodbohfhelokaaDoorW.PrintLast

theorem drop_at (l : List Int) (i : Nat) (h : i < l.length) : l.drop i = rd l (i : Int) :: l.drop (i + 1) := by
  rw [List.drop_eq_getElem_cons h, rd_nat l i _ (List.getElem?_eq_getElem h)]
theorem wrap_nat (i : Nat) (h : i < 9223372036854775807) : wrap64 ((i : Int) + 1) = ((i + 1 : Nat) : Int) := by rw [wrap_succ (by omega) (by omega)]; rfl
def inB (l : List Int) (v : Int) : Bool := l.any (fun x => x == v)
theorem In_loop (l : List Int) (hl : l.length ≤ 9223372036854775807) (v : Int) : ∀ d i : Nat, l.length = i + d → Ev (fun k => arboristref01_In.l0 k l v (i : Int)) (inB (l.drop i) v) := by
  intro d
  induction d with
  | zero =>
    intro i h
    refine Ev.step (f := fun _ => some (inB (l.drop i) v)) (fun k => ?_) (Ev.now _)
    simp only [arboristref01_In.l0]
    rw [if_neg (by omega), List.drop_eq_nil_of_le (by omega)]
    rfl
  | succ d ih =>
    intro i h
    have hi : i < l.length := by omega
    by_cases e : rd l (i : Int) = v
    · refine Ev.step (f := fun _ => some (inB (l.drop i) v)) (fun k => ?_) (Ev.now _)
      simp only [arboristref01_In.l0]
      rw [if_pos (by omega), if_pos (by omega), if_pos e, drop_at l i hi]
      simp [inB, e]
    · refine Ev.step (f := fun k => arboristref01_In.l0 k l v ((i + 1 : Nat) : Int)) (fun k => ?_) ?_
      · simp only [arboristref01_In.l0]
        rw [if_pos (by omega), if_pos (by omega), if_neg e, wrap_nat i (by omega)]
      · have := ih (i + 1) (by omega)
        rw [drop_at l i hi]
        have e2 : (rd l (i : Int) == v) = false := by simpa using e
        simpa [inB, e2] using this
theorem In_ev (l : List Int) (hl : l.length ≤ 9223372036854775807) (v : Int) : Ev (fun k => arboristref01_In.f k l v) (inB l v) := by
  have := In_loop l hl v l.length 0 (by omega)
  simpa [arboristref01_In.f] using this
def cmpL : List Int → List Int → Int
  | [], [] => 0
  | [], _ :: _ => -1
  | _ :: _, [] => 1
  | a :: l, b :: m => if a < b then -1 else if b < a then 1 else cmpL l m
theorem Compare_loop (a b : List Int) (ha : a.length ≤ 9223372036854775807) (hb : b.length ≤ 9223372036854775807) : ∀ (d i : Nat), a.length = i + d → i ≤ b.length → a.take i = b.take i → Ev (fun k => arboristref01_Compare.l0 k a b (i : Int)) (cmpL (a.drop i) (b.drop i)) := by
  intro d
  induction d with
  | zero =>
    intro i h hb2 he
    refine Ev.step (f := fun k => arboristref01_Compare.j1 k a b (i : Int) false) (fun k => ?_) ?_
    · simp only [arboristref01_Compare.l0]; rw [if_neg (by omega)]
    · refine Ev.step (f := fun _ => some (cmpL (a.drop i) (b.drop i))) (fun k => ?_) (Ev.now _)
      simp only [arboristref01_Compare.j1]
      rw [if_neg (by simp), List.drop_eq_nil_of_le (by omega)]
      by_cases hlt : i < b.length
      · rw [if_pos (by omega), drop_at b i hlt]; rfl
      · rw [if_neg (by omega), if_neg (by omega), List.drop_eq_nil_of_le (by omega)]; rfl
  | succ d ih =>
    intro i h hb2 he
    have hi : i < a.length := by omega
    by_cases hlt : i < b.length
    · refine Ev.step (f := fun k => arboristref01_Compare.j1 k a b (i : Int) true) (fun k => ?_) ?_
      · simp only [arboristref01_Compare.l0]; rw [if_pos (by omega), show decide ((i : Int) < (b.length : Int)) = true from decide_eq_true (by omega)]
      · rw [drop_at a i hi, drop_at b i hlt]
        by_cases h1 : rd a (i : Int) < rd b (i : Int)
        · refine Ev.step (f := fun _ => some (-1)) (fun k => ?_) (by simp only [cmpL, if_pos h1]; exact Ev.now _)
          simp only [arboristref01_Compare.j1]
          rw [if_pos trivial, if_pos (by omega), if_pos (by omega), if_pos (by omega), if_pos h1]
        · by_cases h2 : rd b (i : Int) < rd a (i : Int)
          · refine Ev.step (f := fun _ => some 1) (fun k => ?_) (by simp only [cmpL, if_neg h1, if_pos h2]; exact Ev.now _)
            simp only [arboristref01_Compare.j1]
            rw [if_pos trivial, if_pos (by omega), if_pos (by omega), if_pos (by omega), if_neg h1, if_pos h2]
          · refine Ev.step (f := fun k => arboristref01_Compare.l0 k a b ((i + 1 : Nat) : Int)) (fun k => ?_) ?_
            · simp only [arboristref01_Compare.j1]
              rw [if_pos trivial, if_pos (by omega), if_pos (by omega), if_pos (by omega), if_neg h1, if_neg (by omega), wrap_nat i (by omega)]
            · simp only [cmpL, if_neg h1, if_neg h2]
              refine ih (i + 1) (by omega) (by omega) ?_
              have e1 := rd_nat a i _ (List.getElem?_eq_getElem hi)
              have e2 := rd_nat b i _ (List.getElem?_eq_getElem hlt)
              rw [List.take_succ_eq_append_getElem hi, List.take_succ_eq_append_getElem hlt, he]
              have : a[i] = b[i] := by omega
              rw [this]
    · refine Ev.step (f := fun k => arboristref01_Compare.j1 k a b (i : Int) false) (fun k => ?_) ?_
      · simp only [arboristref01_Compare.l0]; rw [if_pos (by omega), show decide ((i : Int) < (b.length : Int)) = false from decide_eq_false (by omega)]
      · refine Ev.step (f := fun _ => some (cmpL (a.drop i) (b.drop i))) (fun k => ?_) (Ev.now _)
        simp only [arboristref01_Compare.j1]
        rw [if_neg (by simp), if_neg (by omega), if_pos (by omega), drop_at a i hi, show b.drop i = [] from List.drop_eq_nil_of_le (by omega)]
        rfl
theorem Compare_ev (a b : List Int) (ha : a.length ≤ 9223372036854775807) (hb : b.length ≤ 9223372036854775807) : Ev (fun k => arboristref01_Compare.f k a b) (cmpL a b) := by
  have := Compare_loop a b ha hb a.length 0 (by omega) (by omega) rfl
  simpa [arboristref01_Compare.f] using this
theorem cmpL_self : ∀ a : List Int, cmpL a a = 0
  | [] => rfl
  | a :: l => by simp [cmpL, cmpL_self l]
theorem cmpL_eq : ∀ a b : List Int, cmpL a b = 0 ↔ a = b
  | [], [] => by simp [cmpL]
  | [], _ :: _ => by simp [cmpL]
  | _ :: _, [] => by simp [cmpL]
  | a :: l, b :: m => by
    simp only [cmpL]
    split
    · simp; intro e; omega
    · split
      · simp; intro e; omega
      · rw [cmpL_eq l m]; simp; intro _; omega

end Go.Proofs.YtaodbohfhelokaaDoor.Pr

set_option linter.unusedVariables false
set_option linter.unusedSimpArgs false
namespace Go.Proofs.YtaodbohfhelokaaDoor.Pr
open Go.RowKit Go.Proofs.YtaodbohfhelokaaDoorW.PrintWords Go.Proofs.YtaodbohfhelokaaDoorW.PrintLast Go.Proofs.YtaodbohfhelokaaDoorW.PrintMore

/-- The word of the truths of f below n. -/
def wd : Nat → (Nat → Bool) → Nat
  | 0, _ => 0
  | n + 1, f => 2 ^ n * (if f n = true then 1 else 0) + wd n f
theorem wd_lt : ∀ (n : Nat) (f : Nat → Bool), wd n f < 2 ^ n
  | 0, _ => by simp [wd]
  | n + 1, f => by
    have := wd_lt n f
    rw [wd, Nat.pow_succ]
    split <;> omega
theorem one_bit (j : Nat) : (1 : Nat).testBit (j + 1) = false := by rw [Nat.testBit_succ]; simp
theorem wd_bit : ∀ (n : Nat) (f : Nat → Bool) (i : Nat), (wd n f).testBit i = (decide (i < n) && f i)
  | 0, f, i => by simp [wd]
  | n + 1, f, i => by
    rw [wd, Nat.testBit_two_pow_mul_add _ (wd_lt n f), wd_bit n f i]
    by_cases h : i < n
    · rw [if_pos h, decide_eq_true h, decide_eq_true (show i < n + 1 by omega)]
    · rw [if_neg h]
      by_cases e : i = n
      · subst e
        rw [Nat.sub_self, decide_eq_true (show i < i + 1 by omega), Bool.true_and]
        by_cases hf : f i = true
        · rw [if_pos hf, hf]; decide
        · rw [if_neg hf, Bool.not_eq_true _ |>.mp hf]; decide
      · obtain ⟨j, rfl⟩ : ∃ j, i = n + (j + 1) := ⟨i - n - 1, by omega⟩
        rw [decide_eq_false (show ¬ n + (j + 1) < n + 1 by omega), Bool.false_and, show n + (j + 1) - n = j + 1 by omega]
        split
        · exact one_bit j
        · simp
theorem bits_ge {x n : Nat} (h : x < 2 ^ n) {i : Nat} (hi : n ≤ i) : x.testBit i = false := Nat.testBit_lt_two_pow (Nat.lt_of_lt_of_le h (Nat.pow_le_pow_right (by omega) hi))
theorem wd_self {x n : Nat} (h : ∀ i, n ≤ i → x.testBit i = false) : wd n (fun i => x.testBit i) = x := Nat.eq_of_testBit_eq (fun i => by
  rw [wd_bit]
  by_cases c : i < n
  · rw [decide_eq_true c, Bool.true_and]
  · rw [decide_eq_false c, Bool.false_and, h i (by omega)])
theorem lt_of_bits {x n : Nat} (h : ∀ i, n ≤ i → x.testBit i = false) : x < 2 ^ n := by
  have := wd_lt n (fun i => x.testBit i)
  rwa [wd_self h] at this
theorem pow_64 : (2 : Nat) ^ 64 = 18446744073709551616 := by decide
theorem wd_64 {n : Nat} (h : n ≤ 64) (f : Nat → Bool) : wd n f < 18446744073709551616 := by
  rw [← pow_64]
  exact Nat.lt_of_lt_of_le (wd_lt n f) (Nat.pow_le_pow_right (by omega) h)
theorem shr_nat (x y : Nat) (hx : x < 18446744073709551616) : shr .u64 (x : Int) (y : Int) = ((x / 2 ^ y : Nat) : Int) := by
  unfold shr
  have hb : IntKind.bits .u64 = 64 := rfl
  rw [Int.toNat_natCast, hb]
  by_cases h : y ≤ 64
  · rw [Nat.min_eq_left h]
    push_cast
    rfl
  · rw [Nat.min_eq_right (by omega)]
    have e : x / 2 ^ y = 0 := Nat.div_eq_of_lt (Nat.lt_of_lt_of_le hx (by rw [← pow_64]; exact Nat.pow_le_pow_right (by omega) (by omega)))
    rw [e]
    omega
theorem shr_zero (x n : Nat) (hx : x < 18446744073709551616) : (shr .u64 (x : Int) (n : Int) = 0) ↔ x < 2 ^ n := by
  rw [shr_nat x n hx]
  have hp : 0 < 2 ^ n := Nat.two_pow_pos n
  constructor
  · intro h
    have h0 : x / 2 ^ n = 0 := by omega
    exact (Nat.div_eq_zero_iff_lt hp).1 h0
  · intro h
    rw [Nat.div_eq_of_lt h]; rfl
theorem and_one (x y : Nat) (hx : x < 18446744073709551616) : Go.bits .and .u64 (shr .u64 (x : Int) (y : Int)) 1 = if x.testBit y = true then 1 else 0 := by
  have h1 : x / 2 ^ y < 18446744073709551616 := Nat.lt_of_le_of_lt (Nat.div_le_self _ _) hx
  rw [shr_nat x y hx, show (1 : Int) = ((1 : Nat) : Int) from rfl, u64_and_nat _ _ h1 (by decide), Nat.and_one_is_mod, Nat.testBit_eq_decide_div_mod_eq]
  by_cases c : x / 2 ^ y % 2 = 1
  · rw [c]; simp
  · rw [show x / 2 ^ y % 2 = 0 by omega]; simp
theorem shl_one (b : Nat) (h : b < 64) : shl .u64 1 (b : Int) = ((2 ^ b : Nat) : Int) := by
  unfold shl
  have hb : IntKind.bits .u64 = 64 := rfl
  have hp : 2 ^ b < 18446744073709551616 := by rw [← pow_64]; exact Nat.pow_lt_pow_right (by omega) h
  rw [Int.toNat_natCast, hb, Nat.min_eq_left (by omega), IntKind.wrap_u64, Int.one_mul]
  have e : ((2 : Int) ^ b) = ((2 ^ b : Nat) : Int) := by push_cast; rfl
  rw [e]
  obtain ⟨p, hp1⟩ : ∃ p : Nat, p = 2 ^ b := ⟨_, rfl⟩
  rw [← hp1] at hp ⊢
  omega
theorem pow_bit (b i : Nat) : (2 ^ b).testBit i = decide (b = i) := Nat.testBit_two_pow
theorem andNot_u64 (a b : Nat) (ha : a < 18446744073709551616) (hb : b < 18446744073709551616) : ∃ c : Nat, c < 18446744073709551616 ∧ Go.bits .andNot .u64 (a : Int) (b : Int) = (c : Int) ∧ ∀ i, c.testBit i = (a.testBit i && !b.testBit i) := by
  refine ⟨a &&& (18446744073709551615 - b), Nat.lt_of_le_of_lt Nat.and_le_left ha, u64_andNot_nat a b ha hb, fun i => ?_⟩
  rw [Nat.testBit_and, show 18446744073709551615 - b = 2 ^ 64 - (b + 1) by omega, Nat.testBit_two_pow_sub_succ (by omega)]
  by_cases c : i < 64
  · rw [decide_eq_true c, Bool.true_and]
  · rw [decide_eq_false c, Bool.false_and, bits_ge (n := 64) (by omega) (by omega)]
    simp
theorem or_u64 (a b : Nat) (ha : a < 18446744073709551616) (hb : b < 18446744073709551616) : a ||| b < 18446744073709551616 ∧ Go.bits .or .u64 (a : Int) (b : Int) = ((a ||| b : Nat) : Int) := by
  refine ⟨?_, u64_or_nat a b ha hb⟩
  rw [← pow_64] at ha hb ⊢
  exact Nat.or_lt_two_pow ha hb
theorem pow_lt_64 (b : Nat) (h : b < 64) : 2 ^ b < 18446744073709551616 := by rw [← pow_64]; exact Nat.pow_lt_pow_right (by omega) h
/-! ### the places of a word's bits -/
theorem mem_listN (x : Nat) (v : Int) : v ∈ listN x ↔ ∃ i : Nat, i < 64 ∧ x.testBit i = true ∧ v = (i : Int) := by
  unfold listN
  simp only [List.mem_map, List.mem_filter, List.mem_range]
  constructor
  · rintro ⟨i, ⟨h1, h2⟩, rfl⟩
    exact ⟨i, h1, h2, rfl⟩
  · rintro ⟨i, h1, h2, rfl⟩
    exact ⟨i, ⟨h1, h2⟩, rfl⟩
/-- the numbers below n of which f is true -/
def ofT (n : Nat) (f : Nat → Bool) : List Int := ((List.range n).filter f).map fun (i : Nat) => (i : Int)
theorem filter_range (f : Nat → Bool) (n : Nat) : ∀ d, (List.range (n + d)).filter (fun i => decide (i < n) && f i) = (List.range n).filter f
  | 0 => List.filter_congr (fun i hi => by rw [decide_eq_true (show i < n by have := List.mem_range.1 hi; omega), Bool.true_and])
  | d + 1 => by
    rw [show n + (d + 1) = (n + d) + 1 by omega, List.range_succ, List.filter_append, filter_range f n d, List.filter_cons_of_neg (by rw [decide_eq_false (by omega)]; simp), List.filter_nil, List.append_nil]
theorem listN_wd {n : Nat} (h : n ≤ 64) (f : Nat → Bool) : listN (wd n f) = ofT n f := by
  unfold listN ofT
  congr 1
  obtain ⟨d, hd⟩ : ∃ d, 64 = n + d := ⟨64 - n, by omega⟩
  rw [hd, ← filter_range f n d]
  exact List.filter_congr (fun i _ => wd_bit n f i)
theorem list_f (x : Nat) (h : x < 18446744073709551616) : graph_list.f (x : Int) = some (listN x) := by
  unfold graph_list.f
  rw [if_pos ⟨by omega, by omega⟩, Int.toNat_natCast]
end Go.Proofs.YtaodbohfhelokaaDoor.Pr

set_option linter.unusedVariables false
set_option linter.unusedSimpArgs false
namespace Go.Proofs.YtaodbohfhelokaaDoor.Pr
open Go.RowKit Go.Proofs.YtaodbohfhelokaaDoorW.PrintWords Go.Proofs.YtaodbohfhelokaaDoorW.PrintLast Go.Proofs.YtaodbohfhelokaaDoorW.PrintMore

def gI (ws : List Nat) : List Int := ws.map fun (x : Nat) => (x : Int)
def wAt (ws : List Nat) (i : Nat) : Nat := ws.getD i 0
def Wok (ws : List Nat) : Prop := ∀ x ∈ ws, x < 18446744073709551616
theorem gI_len (ws : List Nat) : (gI ws).length = ws.length := by simp [gI]
theorem gI_rd (ws : List Nat) (i : Nat) : rd (gI ws) (i : Int) = ((wAt ws i : Nat) : Int) := by
  unfold rd gI wAt
  rw [Int.toNat_natCast, List.getD_eq_getElem?_getD, List.getD_eq_getElem?_getD, List.getElem?_map]
  cases ws[i]? <;> rfl
theorem wAt_get (ws : List Nat) (i : Nat) (h : i < ws.length) : wAt ws i = ws[i] := by
  unfold wAt
  rw [List.getD_eq_getElem?_getD, List.getElem?_eq_getElem h]
  rfl
theorem wAt_lt {ws : List Nat} (h : Wok ws) (i : Nat) : wAt ws i < 18446744073709551616 := by
  by_cases c : i < ws.length
  · rw [wAt_get ws i c]; exact h _ (List.getElem_mem c)
  · unfold wAt
    rw [List.getD_eq_getElem?_getD, List.getElem?_eq_none (by omega)]
    decide
theorem gI_ext {a b : List Nat} (hl : a.length = b.length) (h : ∀ i, i < a.length → wAt a i = wAt b i) : a = b := List.ext_getElem hl (fun i h1 h2 => by
  have := h i h1
  rwa [wAt_get a i h1, wAt_get b i h2] at this)
/-- a number is a point of n -/
def isP (n : Nat) (a : Int) : Bool := decide (0 ≤ a ∧ a < (n : Int))
theorem is_f (ws : List Nat) (a : Int) : graph_is.f (gI ws) a = some (isP ws.length a) := by
  unfold graph_is.f isP
  rw [gI_len]
  by_cases h : a ≥ 0
  · rw [if_pos h]
    congr 1
    simp [h]
  · rw [if_neg h, decide_eq_false (by omega)]
def besB (ws : List Nat) (a b : Int) : Bool := isP ws.length a && isP ws.length b && (wAt ws a.toNat).testBit b.toNat
theorem beside_f (ws : List Nat) (hw : Wok ws) (a b : Int) : graph_Beside.f (gI ws) a b = some (besB ws a b) := by
  unfold graph_Beside.f besB
  rw [is_f, Option.bind_some, is_f]
  by_cases ha : isP ws.length a = true
  · by_cases hb : isP ws.length b = true
    · have h1 := of_decide_eq_true ha
      have h2 := of_decide_eq_true hb
      obtain ⟨i, rfl⟩ := Int.eq_ofNat_of_zero_le h1.1
      obtain ⟨k, rfl⟩ := Int.eq_ofNat_of_zero_le h2.1
      rw [ha, hb, if_pos rfl, Option.bind_some, if_pos rfl, if_pos (by omega), if_pos (by rw [gI_len]; omega), if_pos (by omega), gI_rd, and_one _ _ (wAt_lt hw i)]
      simp only [Bool.and_self, Bool.true_and, Int.toNat_natCast]
      cases (wAt ws i).testBit k <;> rfl
    · rw [ha, if_pos rfl, Option.bind_some, if_neg hb]
      simp [Bool.not_eq_true _ |>.mp hb]
  · rw [if_neg ha]
    simp [Bool.not_eq_true _ |>.mp ha]
def nbL (ws : List Nat) (a : Int) : List Int := if isP ws.length a = true then listN (wAt ws a.toNat) else []
theorem neighbors_f (ws : List Nat) (hw : Wok ws) (a : Int) : graph_Neighbors.f (gI ws) a = some (nbL ws a) := by
  unfold graph_Neighbors.f nbL
  rw [is_f, Option.bind_some]
  by_cases ha : isP ws.length a = true
  · have h1 := of_decide_eq_true ha
    obtain ⟨i, rfl⟩ := Int.eq_ofNat_of_zero_le h1.1
    rw [if_pos ha, if_pos (by omega), if_pos (by rw [gI_len]; omega), gI_rd, list_f _ (wAt_lt hw i), Option.bind_some, if_pos ha, Int.toNat_natCast]
  · rw [if_neg ha, if_neg ha]
def joinW (ws : List Nat) (a b : Int) : List Nat := if isP ws.length a = true ∧ isP ws.length b = true ∧ a ≠ b then
  (ws.set a.toNat (wAt ws a.toNat ||| 2 ^ b.toNat)).set b.toNat (wAt (ws.set a.toNat (wAt ws a.toNat ||| 2 ^ b.toNat)) b.toNat ||| 2 ^ a.toNat) else ws
theorem wok_set {ws : List Nat} (hw : Wok ws) (i v : Nat) (hv : v < 18446744073709551616) : Wok (ws.set i v) := fun x hx => by
  rcases List.mem_or_eq_of_mem_set hx with h | h
  · exact hw x h
  · rw [h]; exact hv
theorem gI_set (ws : List Nat) (i v : Nat) : (gI ws).set i (v : Int) = gI (ws.set i v) := by unfold gI; rw [List.map_set]
theorem or_pow {x b : Nat} (hx : x < 18446744073709551616) (hb : b < 64) : x ||| 2 ^ b < 18446744073709551616 ∧ Go.bits .or .u64 (x : Int) (shl .u64 1 (b : Int)) = ((x ||| 2 ^ b : Nat) : Int) := by
  rw [shl_one b hb]
  exact or_u64 x (2 ^ b) hx (pow_lt_64 b hb)
theorem join_f (ws : List Nat) (hw : Wok ws) (hn : ws.length ≤ 64) (a b : Int) : graph_Join.f (gI ws) a b = some (gI (joinW ws a b)) ∧ Wok (joinW ws a b) := by
  unfold graph_Join.f joinW
  have hc : slices_Clone_uint64_uint64.f (gI ws) = some (gI ws) := by unfold slices_Clone_uint64_uint64.f; rw [if_pos (by rw [gI_len]; omega)]
  rw [hc, Option.bind_some, is_f, Option.bind_some, is_f]
  by_cases ha : isP ws.length a = true
  · by_cases hb : isP ws.length b = true
    · by_cases e : a = b
      · rw [if_pos ha, Option.bind_some, if_pos hb, if_pos e, if_neg (by simp [e])]
        exact ⟨rfl, hw⟩
      · have h1 := of_decide_eq_true ha
        have h2 := of_decide_eq_true hb
        obtain ⟨i, rfl⟩ := Int.eq_ofNat_of_zero_le h1.1
        obtain ⟨k, rfl⟩ := Int.eq_ofNat_of_zero_le h2.1
        obtain ⟨o1, o2⟩ := or_pow (wAt_lt hw i) (show k < 64 by omega)
        have hw2 := wok_set hw i _ o1
        obtain ⟨o3, o4⟩ := or_pow (wAt_lt hw2 k) (show i < 64 by omega)
        rw [if_pos ha, Option.bind_some, if_pos hb, if_neg e, if_pos (by omega), if_pos (by rw [gI_len]; omega), if_pos (by omega), if_pos ⟨ha, hb, e⟩]
        simp only [Option.bind_some, Int.toNat_natCast]
        rw [if_pos (by rw [gI_len]; omega), gI_rd, o2, gI_set, gI_rd, o4, gI_set]
        exact ⟨rfl, wok_set hw2 k _ o3⟩
    · rw [if_pos ha, Option.bind_some, if_neg hb, if_neg (by simp [hb])]
      exact ⟨rfl, hw⟩
  · rw [if_neg ha, if_neg (by simp [ha])]
    exact ⟨rfl, hw⟩
theorem joinW_len (ws : List Nat) (a b : Int) : (joinW ws a b).length = ws.length := by
  unfold joinW
  split <;> simp
theorem wAt_set (ws : List Nat) (i v k : Nat) (h : i < ws.length) : wAt (ws.set i v) k = if k = i then v else wAt ws k := by
  unfold wAt
  rw [List.getD_eq_getElem?_getD, List.getD_eq_getElem?_getD, List.getElem?_set]
  by_cases e : i = k
  · rw [if_pos e, if_pos h, if_pos e.symm]; rfl
  · rw [if_neg e, if_neg (fun h => e h.symm)]
/-- what is beside what, joined -/
theorem join_bit (ws : List Nat) (a b : Int) (i k : Nat) : (wAt (joinW ws a b) i).testBit k = ((wAt ws i).testBit k || (isP ws.length a && isP ws.length b && decide (a ≠ b) && (decide ((i : Int) = a ∧ (k : Int) = b) || decide ((i : Int) = b ∧ (k : Int) = a)))) := by
  unfold joinW
  by_cases c : isP ws.length a = true ∧ isP ws.length b = true ∧ a ≠ b
  · rw [if_pos c]
    obtain ⟨ha, hb, e⟩ := c
    have h1 := of_decide_eq_true ha
    have h2 := of_decide_eq_true hb
    obtain ⟨p, rfl⟩ := Int.eq_ofNat_of_zero_le h1.1
    obtain ⟨q, rfl⟩ := Int.eq_ofNat_of_zero_le h2.1
    have e2 : p ≠ q := fun h => e (by rw [h])
    rw [ha, hb, Bool.and_self, Bool.true_and, decide_eq_true e, Bool.true_and]
    simp only [Int.toNat_natCast]
    rw [wAt_set _ q _ i (by rw [List.length_set]; omega), wAt_set ws p _ q (by omega), wAt_set ws p _ i (by omega), if_neg (show ¬ q = p from fun h => e2 h.symm)]
    by_cases c1 : i = q
    · subst c1
      rw [if_pos rfl, Nat.testBit_or, pow_bit]
      have : ¬ i = p := fun h => e2 h.symm
      congr 1
      rw [Bool.eq_iff_iff, Bool.or_eq_true, decide_eq_true_iff, decide_eq_true_iff, decide_eq_true_iff]
      exact ⟨fun h => .inr ⟨rfl, by omega⟩, fun h => by rcases h with ⟨h1, h2⟩ | ⟨h1, h2⟩ <;> omega⟩
    · rw [if_neg c1]
      by_cases c2 : i = p
      · subst c2
        rw [if_pos rfl, Nat.testBit_or, pow_bit]
        congr 1
        rw [Bool.eq_iff_iff, Bool.or_eq_true, decide_eq_true_iff, decide_eq_true_iff, decide_eq_true_iff]
        exact ⟨fun h => .inl ⟨rfl, by omega⟩, fun h => by rcases h with ⟨h1, h2⟩ | ⟨h1, h2⟩ <;> omega⟩
      · rw [if_neg c2]
        have : (decide ((i : Int) = (p : Int) ∧ (k : Int) = (q : Int)) || decide ((i : Int) = (q : Int) ∧ (k : Int) = (p : Int))) = false := by
          rw [decide_eq_false (by omega), decide_eq_false (by omega)]; rfl
        rw [this, Bool.or_false]
  · rw [if_neg c]
    have : (isP ws.length a && isP ws.length b && decide (a ≠ b) && (decide ((i : Int) = a ∧ (k : Int) = b) || decide ((i : Int) = b ∧ (k : Int) = a))) = false := by
      rw [Bool.eq_false_iff]
      intro h
      simp only [Bool.and_eq_true, decide_eq_true_eq] at h
      exact c ⟨h.1.1.1, h.1.1.2, h.1.2⟩
    rw [this, Bool.or_false]
theorem new_f (a : Int) : graph_New.f a = some (gI (List.replicate (min (max a 0) 40).toNat 0)) := by
  unfold graph_New.f
  have e : mn (mx a 0) 40 = min (max a 0) 40 := by unfold mn mx; (repeat' split) <;> omega
  rw [e, if_pos (by omega), if_pos (by omega)]
  unfold gI
  rw [List.map_replicate]
  rfl
/-! ### Right -/
def rowR (ws : List Nat) (i : Nat) : Bool := decide (wAt ws i < 2 ^ ws.length) && (listN (wAt ws i)).all fun k => !(k == (i : Int)) && (wAt ws k.toNat).testBit i
def rightB (ws : List Nat) : Bool := decide (ws.length ≤ 40) && (List.range ws.length).all (rowR ws)
theorem rdn (l : List Int) (j : Nat) (h : j < l.length) : rd l (j : Int) = l[j] := rd_nat l j _ (List.getElem?_eq_getElem h)
theorem right_l1 (ws : List Nat) (hw : Wok ws) (hn : ws.length ≤ 40) (i : Nat) (hi : i < ws.length) (l : List Int) (hl : ∀ x ∈ l, 0 ≤ x ∧ x < (ws.length : Int)) (hll : l.length ≤ 64) (R : Bool)
    (H : Ev (fun k => graph_Right.l0 k (gI ws) (ws.length : Int) ((i + 1 : Nat) : Int) (gI ws)) R) : ∀ (d j : Nat), j + d = l.length →
    Ev (fun k => graph_Right.l1 k (i : Int) (gI ws) (ws.length : Int) (i : Int) l (l.length : Int) (j : Int) (gI ws)) (((l.drop j).all fun k => !(k == (i : Int)) && (wAt ws k.toNat).testBit i) && R)
  | 0, j, h => by
    rw [List.drop_eq_nil_of_le (by omega), List.all_nil, Bool.true_and]
    refine evs1 H (fun k e => ?_)
    rw [graph_Right.l1, if_neg (by omega), wrap_nat i (by omega)]
    exact e
  | d + 1, j, h => by
    have hj : j < l.length := by omega
    rw [List.drop_eq_getElem_cons hj, List.all_cons]
    obtain ⟨b1, b2⟩ := hl _ (List.getElem_mem hj)
    obtain ⟨x, hx⟩ : ∃ x, x = l[j] := ⟨_, rfl⟩
    rw [← hx] at b1 b2 ⊢
    have hr : rd l (j : Int) = x := by rw [hx]; exact rdn l j hj
    obtain ⟨m, rfl⟩ := Int.eq_ofNat_of_zero_le b1
    by_cases c : (m : Int) = (i : Int)
    · rw [show ((m : Int) == (i : Int)) = true by simpa using c]
      refine evs0 (fun k => ?_)
      rw [graph_Right.l1, if_pos (by omega), if_pos (by omega), if_pos (by omega), hr, if_pos c]
      simp
    · rw [show ((m : Int) == (i : Int)) = false from beq_false_of_ne c, Bool.not_false, Bool.true_and, Int.toNat_natCast]
      by_cases c2 : (wAt ws m).testBit i = true
      · rw [c2, Bool.true_and]
        refine evs1 (right_l1 ws hw hn i hi l hl hll R H d (j + 1) (by omega)) (fun k e => ?_)
        rw [graph_Right.l1, if_pos (by omega), if_pos (by omega), if_pos (by omega), hr, if_neg c, if_pos (by omega), if_pos (by rw [gI_len]; omega), if_pos (by omega), gI_rd, and_one _ _ (wAt_lt hw m), if_pos c2, if_neg (by decide), wrap_nat j (by omega)]
        exact e
      · rw [Bool.not_eq_true _ |>.mp c2, Bool.false_and, Bool.false_and]
        refine evs0 (fun k => ?_)
        rw [graph_Right.l1, if_pos (by omega), if_pos (by omega), if_pos (by omega), hr, if_neg c, if_pos (by omega), if_pos (by rw [gI_len]; omega), if_pos (by omega), gI_rd, and_one _ _ (wAt_lt hw m), if_neg c2, if_pos rfl]
theorem listN_in {x n : Nat} (h : x < 2 ^ n) (v : Int) (hv : v ∈ listN x) : 0 ≤ v ∧ v < (n : Int) := by
  obtain ⟨i, h1, h2, rfl⟩ := (mem_listN x v).1 hv
  refine ⟨by omega, ?_⟩
  by_cases c : i < n
  · omega
  · rw [bits_ge h (by omega)] at h2
    cases h2
theorem right_l0 (ws : List Nat) (hw : Wok ws) (hn : ws.length ≤ 40) : ∀ (d i : Nat), i + d = ws.length →
    Ev (fun k => graph_Right.l0 k (gI ws) (ws.length : Int) (i : Int) (gI ws)) ((List.range' i d).all (rowR ws))
  | 0, i, h => by
    refine evs0 (fun k => ?_)
    rw [graph_Right.l0, if_neg (by omega)]
    rfl
  | d + 1, i, h => by
    rw [List.range'_succ, List.all_cons]
    have hx := wAt_lt hw i
    by_cases c : wAt ws i < 2 ^ ws.length
    · have hr := right_l0 ws hw hn d (i + 1) (by omega)
      have h1 := right_l1 ws hw hn i (by omega) (listN (wAt ws i)) (listN_in c) (listN_len _) _ hr (listN (wAt ws i)).length 0 (by omega)
      rw [List.drop_zero] at h1
      refine evs1 h1 (fun k e => ?_)
      rw [graph_Right.l0, if_pos (by omega), if_pos (by omega), if_pos (by rw [gI_len]; omega), gI_rd, gI_len, if_pos ((shr_zero _ _ hx).2 c), list_f _ hx, Option.bind_some]
      unfold rowR
      rw [decide_eq_true c, Bool.true_and]
      exact e
    · refine evs0 (fun k => ?_)
      rw [graph_Right.l0, if_pos (by omega), if_pos (by omega), if_pos (by rw [gI_len]; omega), gI_rd, gI_len, if_neg (fun h => c ((shr_zero _ _ hx).1 h))]
      unfold rowR
      rw [decide_eq_false c, Bool.false_and, Bool.false_and]
theorem right_ev (ws : List Nat) (hw : Wok ws) : Ev (fun k => graph_Right.f k (gI ws)) (rightB ws) := by
  unfold rightB
  by_cases c : ws.length ≤ 40
  · rw [decide_eq_true c, Bool.true_and, List.range_eq_range']
    refine evu1 (right_l0 ws hw c ws.length 0 (by omega)) (fun k e => ?_)
    rw [graph_Right.f, gI_len, if_neg (by omega)]
    exact e
  · rw [decide_eq_false c, Bool.false_and]
    exact evu0 (fun k => by rw [graph_Right.f, gI_len, if_pos (by omega)])
/-- Right, by points -/
theorem rightB_iff (ws : List Nat) : rightB ws = true ↔ ws.length ≤ 40 ∧ ∀ i, i < ws.length → wAt ws i < 2 ^ ws.length ∧ ∀ k, k < ws.length → (wAt ws i).testBit k = true → k ≠ i ∧ (wAt ws k).testBit i = true := by
  unfold rightB rowR
  simp only [Bool.and_eq_true, decide_eq_true_eq, List.all_eq_true, List.mem_range]
  constructor
  · rintro ⟨h1, h2⟩
    refine ⟨h1, fun i hi => ⟨(h2 i hi).1, fun k hk hb => ?_⟩⟩
    have := (h2 i hi).2 (k : Int) ((mem_listN _ _).2 ⟨k, by omega, hb, rfl⟩)
    simp only [Bool.not_eq_true', beq_eq_false_iff_ne, Int.toNat_natCast] at this
    exact ⟨fun e => this.1 (by rw [e]), this.2⟩
  · rintro ⟨h1, h2⟩
    refine ⟨h1, fun i hi => ⟨(h2 i hi).1, fun v hv => ?_⟩⟩
    obtain ⟨k, k1, k2, rfl⟩ := (mem_listN _ _).1 hv
    have hk := listN_in (h2 i hi).1 _ hv
    obtain ⟨g1, g2⟩ := (h2 i hi).2 k (by omega) k2
    simp only [Bool.not_eq_true', beq_eq_false_iff_ne, Int.toNat_natCast]
    exact ⟨fun e => g1 (by omega), g2⟩
end Go.Proofs.YtaodbohfhelokaaDoor.Pr

set_option linter.unusedVariables false
set_option linter.unusedSimpArgs false
namespace Go.Proofs.YtaodbohfhelokaaDoor.Pr
open Go.RowKit Go.Proofs.YtaodbohfhelokaaDoorW.PrintWords Go.Proofs.YtaodbohfhelokaaDoorW.PrintLast Go.Proofs.YtaodbohfhelokaaDoorW.PrintMore

def rowT (n : Nat) (f : Nat → Bool) : List Bool := (List.range n).map f
def mat (n : Nat) (f : Nat → Nat → Bool) : List (List Bool) := (List.range n).map fun i => rowT n (f i)
theorem rowT_len (n : Nat) (f : Nat → Bool) : (rowT n f).length = n := by simp [rowT]
theorem mat_len (n : Nat) (f : Nat → Nat → Bool) : (mat n f).length = n := by simp [mat]
theorem rowT_rd (n : Nat) (f : Nat → Bool) (k : Nat) (h : k < n) : rdOf false (rowT n f) (k : Int) = f k := by
  unfold rdOf rowT
  rw [Int.toNat_natCast, List.getD_eq_getElem?_getD, List.getElem?_map, List.getElem?_range h]
  rfl
theorem mat_rd (n : Nat) (f : Nat → Nat → Bool) (i : Nat) (h : i < n) : rd_L5 (mat n f) (i : Int) = rowT n (f i) := by
  unfold rd_L5 mat
  rw [Int.toNat_natCast, List.getD_eq_getElem?_getD, List.getElem?_map, List.getElem?_range h]
  rfl
theorem rowT_set (n : Nat) (f : Nat → Bool) (k : Nat) (b : Bool) : (rowT n f).set k b = rowT n fun j => if j = k then b else f j := by
  unfold rowT
  apply List.ext_getElem
  · simp
  · intro j h1 h2
    rw [List.getElem_set]
    simp only [List.getElem_map, List.getElem_range]
    by_cases e : k = j
    · rw [if_pos e, if_pos e.symm]
    · rw [if_neg e, if_neg (fun h => e h.symm)]
theorem mat_set (n : Nat) (f : Nat → Nat → Bool) (i : Nat) (g : Nat → Bool) : (mat n f).set i (rowT n g) = mat n fun j => if j = i then g else f j := by
  unfold mat
  apply List.ext_getElem
  · simp
  · intro j h1 h2
    rw [List.getElem_set]
    simp only [List.getElem_map, List.getElem_range]
    by_cases e : i = j
    · rw [if_pos e, if_pos e.symm]
    · rw [if_neg e, if_neg (fun h => e h.symm)]
theorem rowT_congr {n : Nat} {f g : Nat → Bool} (h : ∀ k, k < n → f k = g k) : rowT n f = rowT n g := List.map_congr_left (fun k hk => h k (List.mem_range.1 hk))
theorem mat_congr {n : Nat} {f g : Nat → Nat → Bool} (h : ∀ i k, i < n → k < n → f i k = g i k) : mat n f = mat n g := List.map_congr_left (fun i hi => rowT_congr (fun k hk => h i k (List.mem_range.1 hi) hk))
theorem rep_row (n : Nat) : List.replicate n false = rowT n fun _ => false := by
  unfold rowT
  apply List.ext_getElem
  · simp
  · intro j h1 h2; simp
/-- the graph of truths -/
def gW (n : Nat) (f : Nat → Nat → Bool) : List Nat := (List.range n).map fun i => wd n (f i)
theorem gW_len (n : Nat) (f : Nat → Nat → Bool) : (gW n f).length = n := by simp [gW]
theorem gW_at (n : Nat) (f : Nat → Nat → Bool) (i : Nat) (h : i < n) : wAt (gW n f) i = wd n (f i) := by
  unfold wAt gW
  rw [List.getD_eq_getElem?_getD, List.getElem?_map, List.getElem?_range h]
  rfl
theorem gW_ok {n : Nat} (h : n ≤ 64) (f : Nat → Nat → Bool) : Wok (gW n f) := fun x hx => by
  obtain ⟨i, _, rfl⟩ := List.mem_map.1 hx
  exact wd_64 h _
theorem gW_bit (n : Nat) (f : Nat → Nat → Bool) (i k : Nat) : (wAt (gW n f) i).testBit k = (decide (i < n) && (decide (k < n) && f i k)) := by
  by_cases h : i < n
  · rw [gW_at n f i h, wd_bit, decide_eq_true h, Bool.true_and]
  · rw [decide_eq_false h, Bool.false_and]
    unfold wAt
    rw [List.getD_eq_getElem?_getD, List.getElem?_eq_none (by rw [gW_len]; omega)]
    simp
theorem gW_congr {n : Nat} {f g : Nat → Nat → Bool} (h : ∀ i k, i < n → k < n → f i k = g i k) : gW n f = gW n g := gI_ext (by rw [gW_len, gW_len]) (fun i hi => Nat.eq_of_testBit_eq (fun k => by
  rw [gW_len] at hi
  rw [gW_bit, gW_bit, decide_eq_true hi]
  simp only [Bool.true_and]
  by_cases c : k < n
  · rw [h i k hi c]
  · rw [decide_eq_false c]; rfl))
/-- a row of words of n points is the graph of its own truths -/
theorem gW_self {ws : List Nat} (h : ∀ i, i < ws.length → wAt ws i < 2 ^ ws.length) : gW ws.length (fun i k => (wAt ws i).testBit k) = ws := gI_ext (gW_len _ _) (fun i hi => by
  rw [gW_len] at hi
  rw [gW_at _ _ i hi]
  exact wd_self (fun k hk => bits_ge (h i hi) hk))
theorem gW_right (n : Nat) (hn : n ≤ 40) (f : Nat → Nat → Bool) (h : ∀ i k, i < n → k < n → f i k = true → k ≠ i ∧ f k i = true) : rightB (gW n f) = true := by
  rw [rightB_iff, gW_len]
  refine ⟨hn, fun i hi => ⟨by rw [gW_at n f i hi]; exact wd_lt _ _, fun k hk hb => ?_⟩⟩
  rw [gW_bit, decide_eq_true hi, decide_eq_true hk] at hb
  obtain ⟨h1, h2⟩ := h i k hi hk (by simpa using hb)
  refine ⟨h1, ?_⟩
  rw [gW_bit, decide_eq_true hi, decide_eq_true hk, h2]
  rfl
/-! ### arboristref08.Graph -/
theorem graph_l1 (n : Nat) (hn : n ≤ 64) (f : Nat → Nat → Bool) (i : Nat) (hi : i < n) (o : List Int) (ho : o.length < 17592186044416) (R : List Int) (H : Ev (fun k => arboristref08_Graph.l0 k (mat n f) ((i + 1 : Nat) : Int) (o ++ [((wd n (f i) : Nat) : Int)])) R) :
    ∀ (d j : Nat), j + d = n → Ev (fun k => arboristref08_Graph.l1 k (mat n f) (i : Int) ((wd j (f i) : Nat) : Int) (j : Int) o) R
  | 0, j, h => by
    obtain rfl : j = n := by omega
    refine evs1 H (fun k e => ?_)
    rw [arboristref08_Graph.l1, mat_len, if_neg (by omega), if_pos ho, wrap_nat i (by omega)]
    exact e
  | d + 1, j, h => by
    refine evs1 (graph_l1 n hn f i hi o ho R H d (j + 1) (by omega)) (fun k e => ?_)
    have hw : IntKind.u64.wrap (j : Int) = (j : Int) := by rw [IntKind.wrap_u64]; omega
    rw [arboristref08_Graph.l1, mat_len, if_pos (by omega), if_pos (by omega), if_pos (by omega), if_pos (by omega), mat_rd n f i hi, rowT_len, if_pos (by omega), rowT_rd n (f i) j (by omega), hw, wrap_nat j (by omega)]
    rw [wd] at e
    by_cases c : f i j = true
    · rw [if_pos c] at e ⊢
      have h1 := wd_lt j (f i)
      have h2 := pow_lt_64 j (by omega)
      have h3 : IntKind.u64.wrap (((wd j (f i) : Nat) : Int) + ((2 ^ j : Nat) : Int)) = ((2 ^ j * 1 + wd j (f i) : Nat) : Int) := by
        have h4 : 2 ^ j * 1 + wd j (f i) < 18446744073709551616 := by
          have := wd_64 (show j + 1 ≤ 64 by omega) (f i)
          rw [wd, if_pos c] at this
          exact this
        obtain ⟨p, hp⟩ : ∃ p : Nat, p = 2 ^ j := ⟨_, rfl⟩
        rw [← hp] at h4 ⊢
        rw [IntKind.wrap_u64]
        omega
      rw [if_pos (by omega), shl_one j (by omega), h3]
      exact e
    · rw [if_neg c] at e ⊢
      rw [Nat.mul_zero, Nat.zero_add] at e
      exact e
theorem graph_l0 (n : Nat) (hn : n ≤ 64) (f : Nat → Nat → Bool) : ∀ (d i : Nat), i + d = n → Ev (fun k => arboristref08_Graph.l0 k (mat n f) (i : Int) (gI ((List.range i).map fun j => wd n (f j)))) (gI (gW n f))
  | 0, i, h => by
    obtain rfl : i = n := by omega
    exact evs0 (fun k => by rw [arboristref08_Graph.l0, mat_len, if_neg (by omega)]; rfl)
  | d + 1, i, h => by
    have hr := graph_l0 n hn f d (i + 1) (by omega)
    rw [List.range_succ, List.map_append] at hr
    have e0 : gI ((List.range i).map (fun j => wd n (f j)) ++ [i].map (fun j => wd n (f j))) = gI ((List.range i).map fun j => wd n (f j)) ++ [((wd n (f i) : Nat) : Int)] := by simp [gI]
    rw [e0] at hr
    have hl : (gI ((List.range i).map fun j => wd n (f j))).length < 17592186044416 := by rw [gI_len]; simp; omega
    refine evs1 (graph_l1 n hn f i (by omega) _ hl _ hr n 0 (by omega)) (fun k e => ?_)
    rw [arboristref08_Graph.l0, mat_len, if_pos (by omega)]
    exact e
theorem graph_ev (n : Nat) (hn : n ≤ 64) (f : Nat → Nat → Bool) : Ev (fun k => arboristref08_Graph.f k (mat n f)) (gI (gW n f)) := graph_l0 n hn f n 0 (by omega)
/-! ### arboristref08.Empty -/
theorem empty_l0 (n : Nat) (hn : n ≤ 1000) : ∀ (d i : Nat), i + d = n → Ev (fun k => arboristref08_Empty.l0 k (n : Int) (List.replicate i (rowT n fun _ => false)) (i : Int)) (mat n fun _ _ => false)
  | 0, i, h => by
    obtain rfl : i = n := by omega
    refine evs0 (fun k => ?_)
    rw [arboristref08_Empty.l0, if_neg (by omega)]
    congr 1
    unfold mat
    apply List.ext_getElem
    · simp
    · intro j h1 h2; simp
  | d + 1, i, h => by
    have hr := empty_l0 n hn d (i + 1) (by omega)
    rw [List.replicate_succ'] at hr
    refine evs1 hr (fun k e => ?_)
    rw [arboristref08_Empty.l0, if_pos (by omega), if_pos (by omega), if_pos (by omega), if_pos (by simp; omega), Int.toNat_natCast, rep_row, wrap_nat i (by omega)]
    exact e
theorem empty_ev (n : Nat) (hn : n ≤ 1000) : Ev (fun k => arboristref08_Empty.f k (n : Int)) (mat n fun _ _ => false) := empty_l0 n hn n 0 (by omega)
/-! ### arboristref08.Neighbors -/
theorem ofT_from (n : Nat) (f : Nat → Bool) (j : Nat) (h : j < n) : ((List.range' j (n - j)).filter f) = if f j = true then j :: (List.range' (j + 1) (n - (j + 1))).filter f else (List.range' (j + 1) (n - (j + 1))).filter f := by
  rw [show n - j = (n - (j + 1)) + 1 by omega, List.range'_succ, List.filter_cons]
theorem evp {ρ : Type} {F g : Nat → Option ρ} {r : ρ} (h : Ev g r) (H : ∀ k, g k = some r → F (k + 1) = some r) : Ev F r := evs1 h H
theorem neigh_l0 (n : Nat) (hn : n ≤ 1000) (f : Nat → Nat → Bool) (a : Nat) (ha : a < n) : ∀ (d j : Nat) (o : List Int), j + d = n → o.length ≤ j → Ev (fun k => arboristref08_Neighbors.l0 k (mat n f) (a : Int) o (j : Int)) (o ++ ((List.range' j (n - j)).filter (f a)).map fun (i : Nat) => (i : Int))
  | 0, j, o, h, ho => by
    rw [show n - j = 0 by omega]
    refine evs1 (evs0 (F := fun k => arboristref08_Neighbors.j1 k (mat n f) (a : Int) o (j : Int) false) (r := o ++ ((List.range' j 0).filter (f a)).map fun (i : Nat) => (i : Int)) (fun k => ?_)) (fun k e => ?_)
    · rw [arboristref08_Neighbors.j1, if_neg (by decide)]; simp
    · rw [arboristref08_Neighbors.l0, mat_len, if_neg (by omega)]; exact e
  | d + 1, j, o, h, ho => by
    rw [ofT_from n (f a) j (by omega)]
    by_cases c : f a j = true
    · rw [if_pos c]
      have hr := neigh_l0 n hn f a ha d (j + 1) (o ++ [(j : Int)]) (by omega) (by simp; omega)
      rw [List.append_assoc] at hr
      refine evp (g := fun k => arboristref08_Neighbors.j1 k (mat n f) (a : Int) o (j : Int) true) (evp hr (fun k e => ?_)) (fun k e => ?_)
      · rw [arboristref08_Neighbors.j1, if_pos rfl, if_pos (by omega), mat_len, if_pos (by omega), if_pos (by omega), mat_rd n f a ha, rowT_len, if_pos (by omega), rowT_rd n (f a) j (by omega), if_pos c, if_pos (by omega), wrap_nat j (by omega)]
        exact e
      · rw [arboristref08_Neighbors.l0, mat_len, if_pos (by omega), if_pos (by omega), decide_eq_true (by omega)]; exact e
    · rw [if_neg c]
      have hr := neigh_l0 n hn f a ha d (j + 1) o (by omega) (by omega)
      refine evp (g := fun k => arboristref08_Neighbors.j1 k (mat n f) (a : Int) o (j : Int) true) (evp hr (fun k e => ?_)) (fun k e => ?_)
      · rw [arboristref08_Neighbors.j1, if_pos rfl, if_pos (by omega), mat_len, if_pos (by omega), if_pos (by omega), mat_rd n f a ha, rowT_len, if_pos (by omega), rowT_rd n (f a) j (by omega), if_neg c, wrap_nat j (by omega)]
        exact e
      · rw [arboristref08_Neighbors.l0, mat_len, if_pos (by omega), if_pos (by omega), decide_eq_true (by omega)]; exact e
theorem neigh_ev (n : Nat) (hn : n ≤ 1000) (f : Nat → Nat → Bool) (a : Int) : Ev (fun k => arboristref08_Neighbors.f k (mat n f) a) (if isP n a = true then ofT n (f a.toNat) else []) := by
  by_cases c : isP n a = true
  · have h := of_decide_eq_true c
    obtain ⟨i, rfl⟩ := Int.eq_ofNat_of_zero_le h.1
    have hr := neigh_l0 n hn f i (by omega) n 0 [] (by omega) (by simp)
    rw [if_pos c]
    rw [List.nil_append, Nat.sub_zero, ← List.range_eq_range'] at hr
    exact hr
  · rw [if_neg c]
    have h : ¬ (0 ≤ a ∧ a < (n : Int)) := of_decide_eq_false (Bool.not_eq_true _ |>.mp c)
    have hj : Ev (fun k => arboristref08_Neighbors.j1 k (mat n f) a [] 0 false) [] := evs0 (fun k => by rw [arboristref08_Neighbors.j1, if_neg (by decide)])
    refine evs1 hj (fun k e => ?_)
    rw [arboristref08_Neighbors.f, arboristref08_Neighbors.l0, mat_len]
    by_cases c1 : (0 : Int) < (n : Int)
    · rw [if_pos c1]
      by_cases c2 : a ≥ 0
      · rw [if_pos c2, decide_eq_false (by omega)]; exact e
      · rw [if_neg c2]; exact e
    · rw [if_neg c1]; exact e
end Go.Proofs.YtaodbohfhelokaaDoor.Pr

set_option linter.unusedVariables false
set_option linter.unusedSimpArgs false
namespace Go.Proofs.YtaodbohfhelokaaDoor.Pr
open Go.RowKit Go.Proofs.YtaodbohfhelokaaDoorW.PrintWords Go.Proofs.YtaodbohfhelokaaDoorW.PrintLast Go.Proofs.YtaodbohfhelokaaDoorW.PrintMore

theorem mn_cut {α : Type} (l : List α) (n : Nat) : 0 ≤ mn (l.length : Int) n ∧ mn (l.length : Int) n ≤ l.length ∧ l.take (mn (l.length : Int) n).toNat = l.take n := by
  unfold mn
  split
  · refine ⟨by omega, by omega, by simp⟩
  · refine ⟨by omega, by omega, ?_⟩
    rw [List.take_of_length_le (by omega), List.take_of_length_le (by omega)]
theorem range'_all_cons (p : Nat → Bool) (i d : Nat) : (List.range' i (d + 1)).all p = (p i && (List.range' (i + 1) d).all p) := by rw [List.range'_succ, List.all_cons]
section
variable (ws : List Nat)
def bF (i k : Nat) : Bool := (wAt ws i).testBit k
def qT (i k : Nat) : Bool := decide (k < ws.length) || !bF ws i k
def rT (i k : Nat) : Bool := (bF ws i k == bF ws k i) && !(decide (i = k) && bF ws i k)
theorem truths_l1 (hw : Wok ws) (hn : ws.length ≤ 40) (i : Nat) (hi : i < ws.length) (o : List (List Bool)) (ho : o.length ≤ 40) (R : List (List Bool) × Bool) : ∀ (d j : Nat) (ok : Bool), j + d = 64 →
    Ev (fun k => arboristref08_Truths.l0 k (ws.length : Int) (o ++ [rowT ws.length (bF ws i)]) (ok && (List.range' j d).all (qT ws i)) ((i + 1 : Nat) : Int) (gI ws)) R →
    Ev (fun k => arboristref08_Truths.l1 k (ws.length : Int) o ok (i : Int) (rowT ws.length fun m => decide (m < j) && bF ws i m) (j : Int) (gI ws)) R
  | 0, j, ok, h, H => by
    obtain rfl : j = 64 := by omega
    refine evp H (fun k e => ?_)
    rw [show (List.range' 64 0).all (qT ws i) = true from rfl, Bool.and_true] at e
    rw [arboristref08_Truths.l1, if_neg (by omega), if_pos (by omega), wrap_nat i (by omega), show rowT ws.length (fun m => decide (m < 64) && bF ws i m) = rowT ws.length (bF ws i) from rowT_congr (fun m hm => by rw [decide_eq_true (by omega), Bool.true_and])]
    exact e
  | d + 1, j, ok, h, H => by
    rw [range'_all_cons, ← Bool.and_assoc] at H
    have hu : IntKind.u64.wrap (j : Int) = (j : Int) := by rw [IntKind.wrap_u64]; omega
    have hx := wAt_lt hw i
    by_cases c : j < ws.length
    · rw [show qT ws i j = true by unfold qT; rw [decide_eq_true c]; rfl, Bool.and_true] at H
      refine evp (truths_l1 hw hn i hi o ho R d (j + 1) ok (by omega) H) (fun k e => ?_)
      have hs : (rowT ws.length fun m => decide (m < j) && bF ws i m).set j (Go.bits .and .u64 (shr .u64 (rd (gI ws) (i : Int)) (j : Int)) 1 == 1) = rowT ws.length fun m => decide (m < j + 1) && bF ws i m := by
        rw [rowT_set]
        refine rowT_congr (fun m hm => ?_)
        rw [gI_rd, and_one _ _ hx]
        by_cases e : m = j
        · rw [if_pos e, e, decide_eq_true (show j < j + 1 by omega), Bool.true_and]
          unfold bF
          cases (wAt ws i).testBit j <;> rfl
        · rw [if_neg e]
          by_cases g : m < j
          · rw [decide_eq_true g, decide_eq_true (by omega)]
          · rw [decide_eq_false g, decide_eq_false (by omega)]
      rw [arboristref08_Truths.l1, if_pos (by omega), if_pos (by omega), if_pos (by rw [gI_len]; omega), hu, if_pos (by omega), if_pos (by omega), if_pos (by omega), if_pos (by rw [rowT_len]; omega), Int.toNat_natCast, hs, wrap_nat j (by omega)]
      exact e
    · have hrow : (rowT ws.length fun m => decide (m < j) && bF ws i m) = rowT ws.length fun m => decide (m < j + 1) && bF ws i m := rowT_congr (fun m hm => by rw [decide_eq_true (by omega), decide_eq_true (by omega)])
      rw [show qT ws i j = !bF ws i j by unfold qT; rw [decide_eq_false c]; rfl] at H
      by_cases g : bF ws i j = true
      · rw [g, Bool.not_true, Bool.and_false] at H
        refine evp (truths_l1 hw hn i hi o ho R d (j + 1) false (by omega) H) (fun k e => ?_)
        rw [arboristref08_Truths.l1, if_pos (by omega), if_pos (by omega), if_pos (by rw [gI_len]; omega), hu, if_pos (by omega), if_neg (by omega), gI_rd, and_one _ _ hx, if_pos (show (wAt ws i).testBit j = true from g), if_pos rfl, wrap_nat j (by omega), hrow]
        exact e
      · rw [Bool.not_eq_true _ |>.mp g, Bool.not_false, Bool.and_true] at H
        refine evp (truths_l1 hw hn i hi o ho R d (j + 1) ok (by omega) H) (fun k e => ?_)
        rw [arboristref08_Truths.l1, if_pos (by omega), if_pos (by omega), if_pos (by rw [gI_len]; omega), hu, if_pos (by omega), if_neg (by omega), gI_rd, and_one _ _ hx, if_neg (show ¬ (wAt ws i).testBit j = true from g), if_neg (by decide), wrap_nat j (by omega), hrow]
        exact e
theorem truths_l0 (hw : Wok ws) (hn : ws.length ≤ 40) (R : List (List Bool) × Bool) : ∀ (d i : Nat) (ok : Bool), i + d = ws.length →
    Ev (fun k => arboristref08_Truths.l2 k (ws.length : Int) (mat ws.length (bF ws)) (ok && (List.range' i d).all fun i => (List.range' 0 64).all (qT ws i)) 0) R →
    Ev (fun k => arboristref08_Truths.l0 k (ws.length : Int) ((List.range i).map fun i => rowT ws.length (bF ws i)) ok (i : Int) (gI ws)) R
  | 0, i, ok, h, H => by
    obtain rfl : i = ws.length := by omega
    refine evp H (fun k e => ?_)
    rw [show (List.range' ws.length 0).all (fun i => (List.range' 0 64).all (qT ws i)) = true from rfl, Bool.and_true] at e
    rw [arboristref08_Truths.l0, if_neg (by omega)]
    exact e
  | d + 1, i, ok, h, H => by
    rw [range'_all_cons, ← Bool.and_assoc] at H
    have hr := truths_l0 hw hn R d (i + 1) _ (by omega) H
    rw [List.range_succ, List.map_append] at hr
    refine evp (truths_l1 ws hw hn i (by omega) _ (by simp; omega) R 64 0 ok (by omega) hr) (fun k e => ?_)
    rw [arboristref08_Truths.l0, if_pos (by omega), if_pos (by omega), if_pos (by omega), Int.toNat_natCast, rep_row]
    rw [show (rowT ws.length fun m => decide (m < 0) && bF ws i m) = rowT ws.length fun _ => false from rowT_congr (fun m _ => by rw [decide_eq_false (by omega)]; rfl)] at e
    exact e
theorem truths_l3 (hn : ws.length ≤ 40) (i : Nat) (hi : i < ws.length) (R : List (List Bool) × Bool) : ∀ (d j : Nat) (ok : Bool), j + d = ws.length →
    Ev (fun k => arboristref08_Truths.l2 k (ws.length : Int) (mat ws.length (bF ws)) (ok && (List.range' j d).all (rT ws i)) ((i + 1 : Nat) : Int)) R →
    Ev (fun k => arboristref08_Truths.l3 k (ws.length : Int) (mat ws.length (bF ws)) ok (i : Int) (j : Int)) R
  | 0, j, ok, h, H => by
    obtain rfl : j = ws.length := by omega
    refine evp H (fun k e => ?_)
    rw [show (List.range' ws.length 0).all (rT ws i) = true from rfl, Bool.and_true] at e
    rw [arboristref08_Truths.l3, if_neg (by omega), wrap_nat i (by omega)]
    exact e
  | d + 1, j, ok, h, H => by
    rw [range'_all_cons, ← Bool.and_assoc] at H
    have hj : j < ws.length := by omega
    refine evp (truths_l3 hn i hi R d (j + 1) _ (by omega) H) (fun k e => ?_)
    rw [arboristref08_Truths.l3, if_pos (by omega), if_pos (by omega), mat_len, if_pos (by omega), if_pos (by omega), mat_rd _ _ i hi, rowT_len, if_pos (by omega), if_pos (by omega), mat_rd _ _ j hj, rowT_len, if_pos (by omega), rowT_rd _ _ j hj, rowT_rd _ _ i hi, wrap_nat j (by omega)]
    unfold rT at e
    by_cases c1 : bF ws i j = bF ws j i
    · rw [show (bF ws i j == bF ws j i) = true by simpa using c1, Bool.true_and] at e
      rw [if_neg (by rw [c1]; simp)]
      by_cases c2 : i = j
      · rw [decide_eq_true c2, Bool.true_and] at e
        rw [if_pos (by omega)]
        by_cases c3 : bF ws i j = true
        · rw [if_pos c3]
          rw [c3, Bool.not_true, Bool.and_false] at e
          exact e
        · rw [if_neg c3]
          rw [Bool.not_eq_true _ |>.mp c3, Bool.not_false, Bool.and_true] at e
          exact e
      · rw [decide_eq_false c2, Bool.false_and, Bool.not_false, Bool.and_true] at e
        rw [if_neg (by omega)]
        exact e
    · rw [show (bF ws i j == bF ws j i) = false from beq_false_of_ne c1, Bool.false_and, Bool.and_false] at e
      rw [if_pos (by simpa using c1)]
      exact e
theorem truths_l2 (hn : ws.length ≤ 40) : ∀ (d i : Nat) (ok : Bool), i + d = ws.length →
    Ev (fun k => arboristref08_Truths.l2 k (ws.length : Int) (mat ws.length (bF ws)) ok (i : Int)) (mat ws.length (bF ws), ok && (List.range' i d).all fun i => (List.range' 0 ws.length).all (rT ws i))
  | 0, i, ok, h => evs0 (fun k => by
    rw [arboristref08_Truths.l2, if_neg (by omega), show (List.range' i 0).all (fun i => (List.range' 0 ws.length).all (rT ws i)) = true from rfl, Bool.and_true])
  | d + 1, i, ok, h => by
    rw [range'_all_cons, ← Bool.and_assoc]
    have hr := truths_l2 hn d (i + 1) (ok && (List.range' 0 ws.length).all (rT ws i)) (by omega)
    refine evp (truths_l3 ws hn i (by omega) _ ws.length 0 ok (by omega) hr) (fun k e => ?_)
    rw [arboristref08_Truths.l2, if_pos (by omega)]
    exact e
def okT : Bool := ((List.range' 0 ws.length).all fun i => (List.range' 0 64).all (qT ws i)) && ((List.range' 0 ws.length).all fun i => (List.range' 0 ws.length).all (rT ws i))
theorem truths_ev (hw : Wok ws) : Ev (fun k => arboristref08_Truths.f k (gI ws)) (if ws.length ≤ 40 then (mat ws.length (bF ws), okT ws) else ([], false)) := by
  by_cases c : ws.length ≤ 40
  · rw [if_pos c]
    have h2 := truths_l2 ws c ws.length 0 (true && (List.range' 0 ws.length).all fun i => (List.range' 0 64).all (qT ws i)) (by omega)
    have h0 := truths_l0 ws hw c _ ws.length 0 true (by omega) h2
    refine evu1 h0 (fun k e => ?_)
    rw [arboristref08_Truths.f, gI_len, if_neg (by omega)]
    exact e
  · rw [if_neg c]
    exact evu0 (fun k => by rw [arboristref08_Truths.f, gI_len, if_pos (by omega)])
theorem right_okT (hw : Wok ws) (hn : ws.length ≤ 40) : rightB ws = okT ws := by
  rw [Bool.eq_iff_iff, rightB_iff]
  unfold okT
  simp only [Bool.and_eq_true, List.all_eq_true, List.mem_range'_1, Nat.zero_le, true_and, Nat.zero_add]
  constructor
  · rintro ⟨_, h⟩
    refine ⟨fun i hi k hk => ?_, fun i hi k hk => ?_⟩
    · unfold qT
      by_cases c : k < ws.length
      · rw [decide_eq_true c]; rfl
      · have : bF ws i k = false := bits_ge (h i hi).1 (by omega)
        rw [this]; simp
    · unfold rT
      have e : bF ws i k = bF ws k i := by
        rw [Bool.eq_iff_iff]
        exact ⟨fun g => ((h i hi).2 k hk g).2, fun g => ((h k hk).2 i hi g).2⟩
      rw [e]
      by_cases c : i = k
      · subst c
        have : bF ws i i = false := by
          rw [Bool.eq_false_iff]
          exact fun g => ((h i hi).2 i hi g).1 rfl
        rw [this]; simp
      · simp [c]
  · rintro ⟨h1, h2⟩
    refine ⟨hn, fun i hi => ⟨lt_of_bits (fun k hk => ?_), fun k hk hb => ?_⟩⟩
    · by_cases c : k < 64
      · have := h1 i hi k c
        unfold qT at this
        rw [decide_eq_false (by omega), Bool.false_or] at this
        simpa [bF] using this
      · exact bits_ge (n := 64) (by have := wAt_lt hw i; omega) (by omega)
    · have g := h2 i hi k hk
      unfold rT at g
      rw [Bool.and_eq_true] at g
      obtain ⟨g1, g2⟩ := g
      have g1' : bF ws i k = bF ws k i := by simpa using g1
      refine ⟨fun e => ?_, ?_⟩
      · subst e
        rw [show bF ws k k = true from hb] at g2
        simp at g2
      · show bF ws k i = true
        rw [← g1']; exact hb
end
end Go.Proofs.YtaodbohfhelokaaDoor.Pr

set_option linter.unusedVariables false
set_option linter.unusedSimpArgs false
namespace Go.Proofs.YtaodbohfhelokaaDoor.Pr
open Go.RowKit Go.Proofs.YtaodbohfhelokaaDoorW.PrintWords Go.Proofs.YtaodbohfhelokaaDoorW.PrintLast Go.Proofs.YtaodbohfhelokaaDoorW.PrintMore

theorem shown_08 : Ev (fun k => arboristlaw08_shown.f k) true := Ev.of (fun k => arboristlaw08_shown.mono k) (k := 60) (by decide +kernel)
theorem low16 (x : Int) : 0 ≤ Go.bits .and .i64 x 65535 ∧ Go.bits .and .i64 x 65535 ≤ 65535 := by
  have h2 : (BitVec.ofInt 64 (65535 : Int)).toNat = 65535 := by decide
  have h3 : (BitVec.ofInt 64 x &&& BitVec.ofInt 64 (65535 : Int)).toNat ≤ 65535 := by
    rw [BitVec.toNat_and, h2]; exact Nat.and_le_right
  have e : Go.bits .and .i64 x 65535 = IntKind.i64.wrap ((BitVec.ofInt 64 x &&& BitVec.ofInt 64 (65535 : Int)).toNat : Int) := rfl
  rw [e, IntKind.wrap_i64]
  omega
theorem kT_in {n : Nat} (h : 0 < n) (x : Int) : ∃ k : Nat, k < n ∧ Int.tmod (Go.bits .and .i64 x 65535) (n : Int) = (k : Int) := by
  obtain ⟨h1, h2⟩ := low16 x
  have a := Int.tmod_nonneg (n : Int) h1
  have b := Int.tmod_lt_of_pos (Go.bits .and .i64 x 65535) (show (0 : Int) < (n : Int) by omega)
  exact ⟨(Int.tmod (Go.bits .and .i64 x 65535) (n : Int)).toNat, by omega, by omega⟩
/-- a graph's truths: from either end, none with itself, of n points -/
def Sy (n : Nat) (f : Nat → Nat → Bool) : Prop := (∀ i k, f i k = f k i) ∧ (∀ i, f i i = false) ∧ ∀ i k, f i k = true → i < n ∧ k < n
def addE (f : Nat → Nat → Bool) (a b : Nat) : Nat → Nat → Bool := fun i k => f i k || (decide (i = a ∧ k = b) || decide (i = b ∧ k = a))
theorem Sy.no (n : Nat) : Sy n fun _ _ => false := ⟨fun _ _ => rfl, fun _ => rfl, fun _ _ h => by cases h⟩
theorem Sy.add {n : Nat} {f : Nat → Nat → Bool} (h : Sy n f) {a b : Nat} (ha : a < n) (hb : b < n) (e : a ≠ b) : Sy n (addE f a b) := by
  obtain ⟨h1, h2, h3⟩ := h
  refine ⟨fun i k => ?_, fun i => ?_, fun i k => ?_⟩
  · unfold addE
    rw [h1 i k]
    congr 1
    rw [Bool.eq_iff_iff]
    simp only [Bool.or_eq_true, decide_eq_true_eq]
    omega
  · unfold addE
    rw [h2 i, decide_eq_false (by omega), decide_eq_false (by omega)]
    rfl
  · unfold addE
    rw [Bool.or_eq_true, Bool.or_eq_true, decide_eq_true_iff, decide_eq_true_iff]
    rintro (h | h | h)
    · exact h3 i k h
    · omega
    · omega
theorem Sy.right {n : Nat} {f : Nat → Nat → Bool} (h : Sy n f) (hn : n ≤ 40) : rightB (gW n f) = true := gW_right n hn f (fun i k _ _ hb => ⟨fun e => (by rw [e, h.2.1] at hb; cases hb), (by rw [h.1]; exact hb)⟩)
theorem mat_edge (n : Nat) (f : Nat → Nat → Bool) (a b : Nat) (ha : a < n) (hb : b < n) (y : List (List Bool)) (hy : y = (mat n f).set a ((rd_L5 (mat n f) (a : Int)).set b true)) :
    y.length = n ∧ (rd_L5 y (b : Int)).length = n ∧ y.set b ((rd_L5 y (b : Int)).set a true) = mat n (addE f a b) := by
  rw [mat_rd n f a ha, rowT_set, mat_set] at hy
  subst hy
  rw [mat_len, mat_rd n _ b hb, rowT_len, rowT_set, mat_set]
  refine ⟨rfl, rfl, mat_congr (fun i k hi hk => ?_)⟩
  unfold addE
  by_cases c1 : i = b
  · subst c1
    rw [if_pos rfl]
    by_cases c2 : k = a
    · subst c2
      rw [if_pos rfl, decide_eq_true (show i = i ∧ k = k from ⟨rfl, rfl⟩)]
      simp
    · rw [if_neg c2, decide_eq_false (show ¬ (i = i ∧ k = a) by omega), Bool.or_false]
      by_cases c3 : i = a
      · subst c3
        rw [if_pos rfl]
        by_cases c4 : k = i
        · exact absurd c4 c2
        · rw [if_neg c4, decide_eq_false (by omega), Bool.or_false]
      · rw [if_neg c3, decide_eq_false (by omega), Bool.or_false]
  · rw [if_neg c1, decide_eq_false (show ¬ (i = b ∧ k = a) by omega), Bool.or_false]
    by_cases c3 : i = a
    · subst c3
      rw [if_pos rfl]
      by_cases c4 : k = b
      · rw [if_pos c4, decide_eq_true (by omega)]; simp
      · rw [if_neg c4, decide_eq_false (by omega), Bool.or_false]
    · rw [if_neg c3, decide_eq_false (by omega), Bool.or_false]
theorem made_j (n : Nat) (l : List (List Int)) (f : Nat → Nat → Bool) (i : Nat) : Ev (fun k => arboristlaw08_made.j1 k (n : Int) l (mat n f) (i : Int) false) (mat n f) := evs0 (fun k => by rw [arboristlaw08_made.j1, if_neg (by decide)])
theorem made_l0 (n : Nat) (hn : n ≤ 12) (l : List (List Int)) : ∀ (d i : Nat) (f : Nat → Nat → Bool), 60 = i + d → Sy n f → ∃ f', Sy n f' ∧ Ev (fun k => arboristlaw08_made.l0 k (n : Int) l (mat n f) (i : Int)) (mat n f')
  | 0, i, f, h, hf => by
    refine ⟨f, hf, evp (made_j n l f i) (fun k e => ?_)⟩
    rw [arboristlaw08_made.l0]
    by_cases c : (i : Int) < (l.length : Int)
    · rw [if_pos c, if_neg (by omega)]; exact e
    · rw [if_neg c]; exact e
  | d + 1, i, f, h, hf => by
    by_cases c : i < l.length
    · by_cases c0 : n = 0
      · refine ⟨f, hf, evp (made_j n l f i) (fun k e => ?_)⟩
        rw [arboristlaw08_made.l0, if_pos (by omega), if_pos (by omega), decide_eq_false (by omega)]
        exact e
      · -- an edge
        have hgo : ∀ {G : Nat → Option (List (List Bool))} {f' : Nat → Nat → Bool}, Ev G (mat n f') → (∀ k, arboristlaw08_made.j1 (k + 1) (n : Int) l (mat n f) (i : Int) true = G k) → Ev (fun k => arboristlaw08_made.l0 k (n : Int) l (mat n f) (i : Int)) (mat n f') := fun hG hj =>
          evp (g := fun k => arboristlaw08_made.j1 k (n : Int) l (mat n f) (i : Int) true) (evp hG (fun k e => by rw [hj]; exact e)) (fun k e => by
            rw [arboristlaw08_made.l0, if_pos (by omega), if_pos (by omega), decide_eq_true (by omega)]
            exact e)
        obtain ⟨e, he⟩ : ∃ e, e = rd_L2 l (i : Int) := ⟨_, rfl⟩
        obtain ⟨p, hp, hp2⟩ := kT_in (show 0 < n by omega) (rd e 0)
        obtain ⟨q, hq, hq2⟩ := kT_in (show 0 < n by omega) (rd e 1)
        by_cases c1 : e.length < 2
        · obtain ⟨f', s, hr⟩ := made_l0 n hn l d (i + 1) f (by omega) hf
          refine ⟨f', s, hgo hr (fun k => ?_)⟩
          rw [arboristlaw08_made.j1, if_pos rfl, if_pos (by omega), if_pos (by omega), ← he, if_pos (by omega), wrap_nat i (by omega)]
        · by_cases c2 : p = q
          · obtain ⟨f', s, hr⟩ := made_l0 n hn l d (i + 1) f (by omega) hf
            refine ⟨f', s, hgo hr (fun k => ?_)⟩
            rw [arboristlaw08_made.j1, if_pos rfl, if_pos (by omega), if_pos (by omega), ← he, if_neg (by omega), if_pos (by omega), if_neg (by omega), if_pos (by omega), hp2, hq2, if_pos (by omega), wrap_nat i (by omega)]
          · obtain ⟨f', s, hr⟩ := made_l0 n hn l d (i + 1) (addE f p q) (by omega) (hf.add hp hq c2)
            obtain ⟨y, hy⟩ : ∃ y, y = (mat n f).set p ((rd_L5 (mat n f) (p : Int)).set q true) := ⟨_, rfl⟩
            obtain ⟨y1, y2, y3⟩ := mat_edge n f p q hp hq y hy
            refine ⟨f', s, hgo hr (fun k => ?_)⟩
            rw [arboristlaw08_made.j1, if_pos rfl, if_pos (by omega), if_pos (by omega), ← he, if_neg (by omega), if_pos (by omega), if_neg (by omega), if_pos (by omega), hp2, hq2, if_neg (by omega), if_pos (by omega), mat_len, if_pos (by omega), if_pos (by omega), if_pos (by rw [mat_rd n f p hp, rowT_len]; omega)]
            simp only [Option.bind_some, Int.toNat_natCast]
            rw [← hy, if_pos (by omega), if_pos (by omega), y3, wrap_nat i (by omega)]
    · refine ⟨f, hf, evp (made_j n l f i) (fun k e => ?_)⟩
      rw [arboristlaw08_made.l0, if_neg (by omega)]
      exact e
theorem made_ev (a : Int) (l : List (List Int)) : ∃ (n : Nat) (f : Nat → Nat → Bool), n ≤ 12 ∧ Sy n f ∧ Ev (fun k => arboristlaw08_made.f k a l) (mat n f) := by
  obtain ⟨n, hn, hn2⟩ := kT_in (show 0 < 13 by omega) a
  obtain ⟨f, hf, hr⟩ := made_l0 n (by omega) l 60 0 (fun _ _ => false) (by omega) (Sy.no n)
  refine ⟨n, f, by omega, hf, evu2 (empty_ev n (by omega)) hr (fun k e1 e2 => ?_)⟩
  rw [show ((13 : Nat) : Int) = 13 from rfl] at hn2
  rw [arboristlaw08_made.f, hn2, e1, Option.bind_some]
  exact e2
/-! ### joined -/
theorem joinW_no {ws : List Nat} {a b : Int} (h : ¬ (isP ws.length a = true ∧ isP ws.length b = true ∧ a ≠ b)) : joinW ws a b = ws := by unfold joinW; rw [if_neg h]
theorem joinW_gW {n : Nat} (f : Nat → Nat → Bool) {a b : Nat} (ha : a < n) (hb : b < n) (e : a ≠ b) : joinW (gW n f) (a : Int) (b : Int) = gW n (addE f a b) := by
  refine gI_ext (by rw [joinW_len, gW_len, gW_len]) (fun i hi => Nat.eq_of_testBit_eq (fun k => ?_))
  rw [joinW_len, gW_len] at hi
  have pa : isP n (a : Int) = true := decide_eq_true (by omega)
  have pb : isP n (b : Int) = true := decide_eq_true (by omega)
  rw [join_bit, gW_bit, gW_bit, gW_len, pa, pb, decide_eq_true hi]
  simp only [Bool.true_and, Bool.and_self]
  rw [decide_eq_true (show (a : Int) ≠ (b : Int) by omega), Bool.true_and]
  unfold addE
  by_cases c : k < n
  · rw [decide_eq_true c, Bool.true_and, Bool.true_and]
    congr 1
    rw [Bool.eq_iff_iff]
    simp only [Bool.or_eq_true, decide_eq_true_eq]
    omega
  · rw [decide_eq_false c, Bool.false_and, Bool.false_and, Bool.false_or, decide_eq_false (by omega), decide_eq_false (by omega)]
    rfl
/-! ### cliques -/
def cliqB (n : Nat) (f : Nat → Nat → Bool) (l : List Int) : Bool := l.all (isP n) && l.all fun x => l.all fun y => x == y || f x.toNat y.toNat
theorem isP_nat {n : Nat} {x : Int} (h : isP n x = true) : ∃ k : Nat, x = (k : Int) ∧ k < n := by
  have h := of_decide_eq_true h
  exact ⟨x.toNat, by omega, by omega⟩
def cliqR (ws : List Nat) (l : List Int) (x : Int) : Bool := l.all fun y => x == y || (wAt ws x.toNat).testBit y.toNat
theorem clique_l1 (ws : List Nat) (hw : Wok ws) (hn : ws.length ≤ 64) (l : List Int) (hll : l.length < 9223372036854775807) (hl : ∀ x ∈ l, isP ws.length x = true) (W : Nat) (hW : W < 18446744073709551616) (hb : ∀ i, W.testBit i = l.any fun x => x == (i : Int)) : ∀ (d j : Nat), j + d = l.length →
    Ev (fun k => graph_Clique.l1 k (W : Int) l (l.length : Int) (j : Int) (gI ws)) ((l.drop j).all (cliqR ws l))
  | 0, j, h => by
    rw [List.drop_eq_nil_of_le (by omega)]
    exact evs0 (fun k => by rw [graph_Clique.l1, if_neg (by omega)]; rfl)
  | d + 1, j, h => by
    have hj : j < l.length := by omega
    rw [List.drop_eq_getElem_cons hj, List.all_cons]
    obtain ⟨m, hm, hmn⟩ := isP_nat (hl _ (List.getElem_mem hj))
    have hr : rd l (j : Int) = (m : Int) := by rw [rdn l j hj, hm]
    rw [hm]
    obtain ⟨o1, o2⟩ := or_pow (wAt_lt hw m) (show m < 64 by omega)
    obtain ⟨c, c1, c2, c3⟩ := andNot_u64 W _ hW o1
    have hz : (c : Int) = 0 ↔ cliqR ws l (m : Int) = true := by
      unfold cliqR
      rw [List.all_eq_true]
      constructor
      · intro h0 y hy
        have h0' : c = 0 := by omega
        obtain ⟨i, hi, hin⟩ := isP_nat (hl y hy)
        have hbit := c3 i
        rw [h0', Nat.zero_testBit, hb, Nat.testBit_or, pow_bit] at hbit
        have ha : (l.any fun x => x == (i : Int)) = true := List.any_eq_true.2 ⟨y, hy, by rw [hi]; simp⟩
        rw [ha, Bool.true_and] at hbit
        have hbit2 : ((wAt ws m).testBit i || decide (m = i)) = true := by
          cases hq : ((wAt ws m).testBit i || decide (m = i)) with
          | true => rfl
          | false => rw [hq] at hbit; cases hbit
        rw [Bool.or_eq_true, decide_eq_true_iff] at hbit2
        rw [hi, Int.toNat_natCast, Int.toNat_natCast, Bool.or_eq_true]
        rcases hbit2 with g | g
        · exact .inr g
        · exact .inl (by simp [g])
      · intro h0
        have : c = 0 := Nat.eq_of_testBit_eq (fun i => by
          rw [c3, hb, Nat.zero_testBit, Nat.testBit_or, pow_bit]
          cases ha : (l.any fun x => x == (i : Int)) with
          | false => rfl
          | true =>
            obtain ⟨y, hy, hyi⟩ := List.any_eq_true.1 ha
            have hyi2 : y = (i : Int) := by simpa using hyi
            have g := h0 y hy
            rw [hyi2, Int.toNat_natCast, Int.toNat_natCast, Bool.or_eq_true] at g
            rcases g with g | g
            · have : m = i := by have := (beq_iff_eq.1 g); omega
              rw [decide_eq_true this]; simp
            · rw [g]; rfl)
        omega
    by_cases cz : cliqR ws l (m : Int) = true
    · rw [cz, Bool.true_and]
      refine evp (clique_l1 ws hw hn l hll hl W hW hb d (j + 1) (by omega)) (fun k e => ?_)
      rw [graph_Clique.l1, if_pos (by omega), if_pos (by omega), if_pos (by omega), hr, if_pos (by omega), if_pos (by rw [gI_len]; omega), gI_rd, o2, c2, if_pos (hz.2 cz), wrap_nat j (by omega)]
      exact e
    · rw [Bool.not_eq_true _ |>.mp cz, Bool.false_and]
      refine evs0 (fun k => ?_)
      rw [graph_Clique.l1, if_pos (by omega), if_pos (by omega), if_pos (by omega), hr, if_pos (by omega), if_pos (by rw [gI_len]; omega), gI_rd, o2, c2, if_neg (fun h => cz (hz.1 h))]
theorem clique_l0 (ws : List Nat) (hw : Wok ws) (hn : ws.length ≤ 64) (l : List Int) (hll : l.length < 9223372036854775807) : ∀ (d j W : Nat), j + d = l.length → W < 18446744073709551616 → (∀ i, W.testBit i = (l.take j).any fun x => x == (i : Int)) → (∀ x ∈ l.take j, isP ws.length x = true) →
    Ev (fun k => graph_Clique.l0 k l (W : Int) l (l.length : Int) (j : Int) (gI ws)) (l.all (isP ws.length) && l.all (cliqR ws l))
  | 0, j, W, h, hW, hb, hp => by
    have hj : l.take j = l := List.take_of_length_le (by omega)
    rw [hj] at hb hp
    have ha : l.all (isP ws.length) = true := List.all_eq_true.2 hp
    rw [ha, Bool.true_and]
    have h1 := clique_l1 ws hw hn l hll hp W hW hb l.length 0 (by omega)
    rw [List.drop_zero] at h1
    refine evp h1 (fun k e => ?_)
    rw [graph_Clique.l0, if_neg (by omega)]
    exact e
  | d + 1, j, W, h, hW, hb, hp => by
    have hj : j < l.length := by omega
    have hr : rd l (j : Int) = l[j] := rdn l j hj
    by_cases c : isP ws.length l[j] = true
    · obtain ⟨m, hm, hmn⟩ := isP_nat c
      obtain ⟨o1, o2⟩ := or_pow hW (show m < 64 by omega)
      refine evp (clique_l0 ws hw hn l hll d (j + 1) (W ||| 2 ^ m) (by omega) o1 (fun i => ?_) (fun x hx => ?_)) (fun k e => ?_)
      · rw [List.take_succ_eq_append_getElem hj, List.any_append, Nat.testBit_or, hb, pow_bit, List.any_cons, List.any_nil, Bool.or_false, hm]
        congr 1
        rw [Bool.eq_iff_iff, decide_eq_true_iff, beq_iff_eq]
        omega
      · rw [List.take_succ_eq_append_getElem hj, List.mem_append, List.mem_singleton] at hx
        rcases hx with hx | rfl
        · exact hp x hx
        · exact c
      · rw [graph_Clique.l0, if_pos (by omega), if_pos (by omega), if_pos (by omega), is_f, Option.bind_some, hr, if_pos c, hm, if_pos (by omega), o2, wrap_nat j (by omega)]
        exact e
    · have ha : l.all (isP ws.length) = false := by
        rw [Bool.eq_false_iff]
        intro hh
        exact c (List.all_eq_true.1 hh _ (List.getElem_mem hj))
      rw [ha, Bool.false_and]
      refine evs0 (fun k => ?_)
      rw [graph_Clique.l0, if_pos (by omega), if_pos (by omega), if_pos (by omega), is_f, Option.bind_some, hr, if_neg c]
theorem clique_ev (n : Nat) (hn : n ≤ 64) (f : Nat → Nat → Bool) (l : List Int) (hll : l.length < 9223372036854775807) : Ev (fun k => graph_Clique.f k (gI (gW n f)) l) (cliqB n f l) := by
  have h := clique_l0 (gW n f) (gW_ok hn f) (by rw [gW_len]; exact hn) l hll l.length 0 0 (by omega) (by decide) (fun i => by simp) (fun x hx => by simp at hx)
  rw [gW_len] at h
  have e : (l.all (isP n) && l.all (cliqR (gW n f) l)) = cliqB n f l := by
    unfold cliqB
    by_cases c : l.all (isP n) = true
    · rw [c, Bool.true_and, Bool.true_and]
      rw [Bool.eq_iff_iff, List.all_eq_true, List.all_eq_true]
      have hh : ∀ x ∈ l, cliqR (gW n f) l x = (l.all fun y => x == y || f x.toNat y.toNat) := fun x hx => by
        unfold cliqR
        rw [Bool.eq_iff_iff, List.all_eq_true, List.all_eq_true]
        obtain ⟨i, hi, hin⟩ := isP_nat (List.all_eq_true.1 c x hx)
        have hb : ∀ y ∈ l, (wAt (gW n f) x.toNat).testBit y.toNat = f x.toNat y.toNat := fun y hy => by
          obtain ⟨k, hk, hkn⟩ := isP_nat (List.all_eq_true.1 c y hy)
          rw [gW_bit, hi, hk, Int.toNat_natCast, Int.toNat_natCast, decide_eq_true hin, decide_eq_true hkn]
          rfl
        exact ⟨fun g y hy => by rw [← hb y hy]; exact g y hy, fun g y hy => by rw [hb y hy]; exact g y hy⟩
      exact ⟨fun g x hx => by rw [← hh x hx]; exact g x hx, fun g x hx => by rw [hh x hx]; exact g x hx⟩
    · rw [Bool.not_eq_true _ |>.mp c]; rfl
  rw [e] at h
  refine evu1 h (fun k e => ?_)
  rw [graph_Clique.f]
  exact e
theorem rclique_l2 (n : Nat) (hn : n ≤ 64) (f : Nat → Nat → Bool) (l : List Int) (hll : l.length < 9223372036854775807) (hl : ∀ x ∈ l, isP n x = true) (i : Nat) (hi : i < l.length) (R : Bool) (H : Ev (fun k => arboristref08_Clique.l1 k (mat n f) l ((i + 1 : Nat) : Int)) R) : ∀ (d j : Nat), j + d = l.length →
    Ev (fun k => arboristref08_Clique.l2 k (mat n f) l (i : Int) (j : Int)) (((l.drop j).all fun y => l[i] == y || f l[i].toNat y.toNat) && R)
  | 0, j, h => by
    rw [List.drop_eq_nil_of_le (by omega), List.all_nil, Bool.true_and]
    refine evp H (fun k e => ?_)
    rw [arboristref08_Clique.l2, if_neg (by omega), wrap_nat i (by omega)]
    exact e
  | d + 1, j, h => by
    have hj : j < l.length := by omega
    rw [List.drop_eq_getElem_cons hj, List.all_cons]
    obtain ⟨p, hp, hpn⟩ := isP_nat (hl _ (List.getElem_mem hi))
    obtain ⟨q, hq, hqn⟩ := isP_nat (hl _ (List.getElem_mem hj))
    have ri : rd l (i : Int) = (p : Int) := by rw [rdn l i hi, hp]
    have rj : rd l (j : Int) = (q : Int) := by rw [rdn l j hj, hq]
    have hrec := rclique_l2 n hn f l hll hl i hi R H d (j + 1) (by omega)
    rw [hp] at hrec ⊢
    rw [hq]
    by_cases c : p = q
    · rw [show (((p : Int)) == ((q : Int))) = true by simp [c], Bool.true_or, Bool.true_and]
      refine evp hrec (fun k e => ?_)
      rw [arboristref08_Clique.l2, if_pos (by omega), if_pos (by omega), if_pos (by omega), if_pos (by omega), ri, rj, if_pos (by omega), wrap_nat j (by omega)]
      exact e
    · rw [show (((p : Int)) == ((q : Int))) = false from beq_false_of_ne (by omega), Bool.false_or, Int.toNat_natCast, Int.toNat_natCast]
      by_cases g : f p q = true
      · rw [g, Bool.true_and]
        refine evp hrec (fun k e => ?_)
        rw [arboristref08_Clique.l2, if_pos (by omega), if_pos (by omega), if_pos (by omega), if_pos (by omega), ri, rj, if_neg (by omega), if_pos (by omega), mat_len, if_pos (by omega), if_pos (by omega), mat_rd n f p hpn, rowT_len, if_pos (by omega), rowT_rd n _ q hqn, if_pos g, wrap_nat j (by omega)]
        exact e
      · rw [Bool.not_eq_true _ |>.mp g, Bool.false_and, Bool.false_and]
        refine evs0 (fun k => ?_)
        rw [arboristref08_Clique.l2, if_pos (by omega), if_pos (by omega), if_pos (by omega), if_pos (by omega), ri, rj, if_neg (by omega), if_pos (by omega), mat_len, if_pos (by omega), if_pos (by omega), mat_rd n f p hpn, rowT_len, if_pos (by omega), rowT_rd n _ q hqn, if_neg g]
theorem rclique_l1 (n : Nat) (hn : n ≤ 64) (f : Nat → Nat → Bool) (l : List Int) (hll : l.length < 9223372036854775807) (hl : ∀ x ∈ l, isP n x = true) : ∀ (d i : Nat), i + d = l.length →
    Ev (fun k => arboristref08_Clique.l1 k (mat n f) l (i : Int)) ((l.drop i).all fun x => l.all fun y => x == y || f x.toNat y.toNat)
  | 0, i, h => by
    rw [List.drop_eq_nil_of_le (by omega)]
    exact evs0 (fun k => by rw [arboristref08_Clique.l1, if_neg (by omega)]; rfl)
  | d + 1, i, h => by
    have hi : i < l.length := by omega
    rw [List.drop_eq_getElem_cons hi, List.all_cons]
    have h2 := rclique_l2 n hn f l hll hl i hi _ (rclique_l1 n hn f l hll hl d (i + 1) (by omega)) l.length 0 (by omega)
    rw [List.drop_zero] at h2
    refine evp h2 (fun k e => ?_)
    rw [arboristref08_Clique.l1, if_pos (by omega)]
    exact e
theorem rclique_l0 (n : Nat) (hn : n ≤ 64) (f : Nat → Nat → Bool) (l : List Int) (hll : l.length < 9223372036854775807) : ∀ (d i : Nat), i + d = l.length → (∀ x ∈ l.take i, isP n x = true) →
    Ev (fun k => arboristref08_Clique.l0 k (mat n f) l (i : Int)) (cliqB n f l)
  | 0, i, h, hp => by
    rw [List.take_of_length_le (by omega)] at hp
    have h1 := rclique_l1 n hn f l hll hp l.length 0 (by omega)
    rw [List.drop_zero] at h1
    unfold cliqB
    rw [List.all_eq_true.2 hp, Bool.true_and]
    refine evp h1 (fun k e => ?_)
    rw [arboristref08_Clique.l0, if_neg (by omega)]
    exact e
  | d + 1, i, h, hp => by
    have hi : i < l.length := by omega
    have hr : rd l (i : Int) = l[i] := rdn l i hi
    by_cases c : isP n l[i] = true
    · have h1 := of_decide_eq_true c
      refine evp (rclique_l0 n hn f l hll d (i + 1) (by omega) (fun x hx => ?_)) (fun k e => ?_)
      · rw [List.take_succ_eq_append_getElem hi, List.mem_append, List.mem_singleton] at hx
        rcases hx with hx | rfl
        · exact hp x hx
        · exact c
      · rw [arboristref08_Clique.l0, if_pos (by omega), if_pos (by omega), hr, if_neg (by omega), mat_len, if_neg (by omega), wrap_nat i (by omega)]
        exact e
    · have h1 : ¬ (0 ≤ l[i] ∧ l[i] < (n : Int)) := of_decide_eq_false (Bool.not_eq_true _ |>.mp c)
      have ha : l.all (isP n) = false := by
        rw [Bool.eq_false_iff]
        intro hh
        exact c (List.all_eq_true.1 hh _ (List.getElem_mem hi))
      unfold cliqB
      rw [ha, Bool.false_and]
      refine evs0 (fun k => ?_)
      rw [arboristref08_Clique.l0, if_pos (by omega), if_pos (by omega), hr]
      by_cases g : l[i] < 0
      · rw [if_pos g]
      · rw [if_neg g, mat_len, if_pos (by omega)]
theorem rclique_ev (n : Nat) (hn : n ≤ 64) (f : Nat → Nat → Bool) (l : List Int) (hll : l.length < 9223372036854775807) : Ev (fun k => arboristref08_Clique.f k (mat n f) l) (cliqB n f l) := rclique_l0 n hn f l hll l.length 0 (by omega) (fun x hx => by simp at hx)
end Go.Proofs.YtaodbohfhelokaaDoor.Pr

set_option linter.unusedVariables false
set_option linter.unusedSimpArgs false
namespace Go.Proofs.YtaodbohfhelokaaDoor.Pr
open Go.RowKit Go.Proofs.YtaodbohfhelokaaDoorW.PrintWords Go.Proofs.YtaodbohfhelokaaDoorW.PrintLast Go.Proofs.YtaodbohfhelokaaDoorW.PrintMore

inductive Rch (f : Nat → Nat → Bool) (a : Nat) : Nat → Prop
  | refl : Rch f a a
  | step {b c : Nat} : Rch f a b → f b c = true → Rch f a c
theorem Rch.trans {f : Nat → Nat → Bool} {a b c : Nat} (h : Rch f a b) (g : Rch f b c) : Rch f a c := by
  induction g with
  | refl => exact h
  | step _ e ih => exact ih.step e
theorem Rch.one {f : Nat → Nat → Bool} {a b : Nat} (h : f a b = true) : Rch f a b := Rch.refl.step h
theorem Rch.symm {f : Nat → Nat → Bool} (hs : ∀ i k, f i k = f k i) {a b : Nat} (h : Rch f a b) : Rch f b a := by
  induction h with
  | refl => exact .refl
  | step _ e ih => exact (Rch.one (by rw [hs]; exact e)).trans ih
theorem Rch.lt {n : Nat} {f : Nat → Nat → Bool} (hf : Sy n f) {a b : Nat} (h : Rch f a b) (ha : a < n) : b < n := by
  cases h with
  | refl => exact ha
  | step _ e => exact (hf.2.2 _ _ e).2
theorem Rch.mono {f g : Nat → Nat → Bool} (h : ∀ i k, f i k = true → g i k = true) {a b : Nat} (r : Rch f a b) : Rch g a b := by
  induction r with
  | refl => exact .refl
  | step _ e ih => exact ih.step (h _ _ e)
/-- truths of who leads to whom -/
def RB (f r : Nat → Nat → Bool) : Prop := ∀ i k, r i k = true ↔ Rch f i k
theorem RB.ex (f : Nat → Nat → Bool) : ∃ r, RB f r := ⟨fun i k => @decide (Rch f i k) (Classical.propDecidable _), fun i k => @decide_eq_true_iff (Rch f i k) (Classical.propDecidable _)⟩
def isRep (r : Nat → Nat → Bool) (i : Nat) : Bool := !(List.range i).any fun j => r j i
def upto (n : Nat) (r : Nat → Nat → Bool) (i : Nat) : List (List Int) := ((List.range i).filter (isRep r)).map fun i => ofT n (r i)
def partsL (n : Nat) (r : Nat → Nat → Bool) : List (List Int) := upto n r n
theorem isRep_iff (r : Nat → Nat → Bool) (i : Nat) : isRep r i = true ↔ ∀ j, j < i → r j i = false := by
  unfold isRep
  simp [List.any_eq_true]
theorem upto_succ (n : Nat) (r : Nat → Nat → Bool) (i : Nat) : upto n r (i + 1) = if isRep r i = true then upto n r i ++ [ofT n (r i)] else upto n r i := by
  unfold upto
  rw [List.range_succ, List.filter_append, List.map_append]
  by_cases c : isRep r i = true
  · rw [if_pos c, List.filter_cons_of_pos c]; rfl
  · rw [if_neg c, List.filter_cons_of_neg c]; simp
theorem upto_len (n : Nat) (r : Nat → Nat → Bool) (i : Nat) : (upto n r i).length ≤ i := by
  unfold upto
  rw [List.length_map]
  exact Nat.le_trans (List.length_filter_le _ _) (by simp)
/-! ### counting truths -/
def cnt : Nat → (Nat → Bool) → Nat
  | 0, _ => 0
  | n + 1, s => cnt n s + if s n = true then 1 else 0
theorem cnt_le : ∀ (n : Nat) (s : Nat → Bool), cnt n s ≤ n
  | 0, _ => Nat.le_refl _
  | n + 1, s => by
    have := cnt_le n s
    rw [cnt]
    split <;> omega
theorem cnt_mono : ∀ (n : Nat) (s t : Nat → Bool), (∀ c, c < n → s c = true → t c = true) → cnt n s ≤ cnt n t
  | 0, _, _, _ => Nat.le_refl _
  | n + 1, s, t, h => by
    have := cnt_mono n s t (fun c hc => h c (by omega))
    rw [cnt, cnt]
    by_cases c : s n = true
    · rw [if_pos c, if_pos (h n (by omega) c)]; omega
    · rw [if_neg c]; omega
theorem cnt_lt : ∀ (n : Nat) (s t : Nat → Bool), (∀ c, c < n → s c = true → t c = true) → ∀ m, m < n → s m = false → t m = true → cnt n s < cnt n t
  | 0, _, _, _, m, hm, _, _ => absurd hm (by omega)
  | n + 1, s, t, h, m, hm, h1, h2 => by
    rw [cnt, cnt]
    by_cases e : m = n
    · subst e
      have := cnt_mono m s t (fun c hc => h c (by omega))
      rw [if_neg (by rw [h1]; decide), if_pos h2]
      omega
    · have := cnt_lt n s t (fun c hc => h c (by omega)) m (by omega) h1 h2
      by_cases c : s n = true
      · rw [if_pos c, if_pos (h n (by omega) c)]; omega
      · rw [if_neg c]; omega
theorem cnt_pos (n : Nat) (s : Nat → Bool) (i : Nat) (hi : i < n) (h : s i = true) : 1 ≤ cnt n s := by
  have := cnt_lt n (fun _ => false) s (fun _ _ h => by cases h) i hi rfl h
  omega
/-! ### the program's Parts -/
theorem ctz_bit (x : Nat) (h0 : x ≠ 0) (hx : x < 18446744073709551616) : x.testBit (Lib.ctz 64 x) = true := by
  obtain ⟨m, e, hk⟩ := Lib.ctzFrom_spec 64 x (by omega) hx
  have ec : Lib.ctz 64 x = Lib.ctzFrom 64 x := by unfold Lib.ctz; rw [if_neg h0]
  rw [ec]
  obtain ⟨k, hkk⟩ : ∃ k, k = Lib.ctzFrom 64 x := ⟨_, rfl⟩
  rw [← hkk] at e ⊢
  rw [e, bits_one, if_neg (by omega), if_pos rfl]
section
variable (n : Nat) (hn : n ≤ 40) (f r : Nat → Nat → Bool) (hf : Sy n f) (hr : RB f r)
include hn hf hr
theorem parts_l1 (out : List (List Int)) (ho : out.length ≤ 40) (S : Nat) (hS : S < 18446744073709551616) (i : Nat) (hi : i < n) (R : List (List Int))
    (H : Ev (fun k => graph_Parts.l0 k (out ++ [ofT n (r i)]) ((S ||| wd n (r i) : Nat) : Int) (n : Int) ((i + 1 : Nat) : Int) (gI (gW n f))) R) : ∀ (d P T : Nat), cnt n (fun k => P.testBit k) + d = n → P < 18446744073709551616 → T < 18446744073709551616 →
    (∀ k, P.testBit k = true → Rch f i k) → (∀ k, T.testBit k = true → Rch f i k ∧ P.testBit k = false) → (P.testBit i = true ∨ T.testBit i = true) → (∀ k m, P.testBit k = true → f k m = true → P.testBit m = true ∨ T.testBit m = true) →
    Ev (fun k => graph_Parts.l1 k out (S : Int) (P : Int) (T : Int) (n : Int) (i : Int) (gI (gW n f))) R := by
  intro d
  induction d with
  | zero =>
    intro P T hd hP hT h1 h2 h3 h4
    have hT0 : T = 0 := Nat.eq_of_testBit_eq (fun k => by
      rw [Nat.zero_testBit]
      cases c : T.testBit k with
      | false => rfl
      | true =>
        obtain ⟨a, b⟩ := h2 k c
        have hk := a.lt hf hi
        have := cnt_lt n (fun k => P.testBit k) (fun _ => true) (fun _ _ _ => rfl) k hk b rfl
        have := cnt_le n (fun _ => true)
        omega)
    subst hT0
    have hPe : P = wd n (r i) := Nat.eq_of_testBit_eq (fun k => by
      rw [wd_bit, Bool.eq_iff_iff, Bool.and_eq_true, decide_eq_true_iff, hr]
      constructor
      · intro h
        exact ⟨(h1 k h).lt hf hi, h1 k h⟩
      · rintro ⟨h0, h⟩
        clear h0
        induction h with
        | refl =>
          rcases h3 with h | h
          · exact h
          · rw [Nat.zero_testBit] at h; cases h
        | step _ e ih =>
          rcases h4 _ _ ih e with h | h
          · exact h
          · rw [Nat.zero_testBit] at h; cases h)
    refine evp H (fun k e => ?_)
    rw [graph_Parts.l1, if_pos (show ((0 : Nat) : Int) = 0 from rfl), list_f P hP, Option.bind_some, if_pos (by omega), (or_u64 S P hS hP).2, wrap_nat i (by omega)]
    rw [hPe, listN_wd (by omega)]
    exact e
  | succ d ih =>
    intro P T hd hP hT h1 h2 h3 h4
    by_cases hT0 : T = 0
    · -- all is reached
      subst hT0
      have hPe : P = wd n (r i) := Nat.eq_of_testBit_eq (fun k => by
        rw [wd_bit, Bool.eq_iff_iff, Bool.and_eq_true, decide_eq_true_iff, hr]
        constructor
        · intro h
          exact ⟨(h1 k h).lt hf hi, h1 k h⟩
        · rintro ⟨h0, h⟩
          clear h0
          induction h with
          | refl =>
            rcases h3 with h | h
            · exact h
            · rw [Nat.zero_testBit] at h; cases h
          | step _ e ih =>
            rcases h4 _ _ ih e with h | h
            · exact h
            · rw [Nat.zero_testBit] at h; cases h)
      refine evp H (fun k e => ?_)
      rw [graph_Parts.l1, if_pos (show ((0 : Nat) : Int) = 0 from rfl), list_f P hP, Option.bind_some, if_pos (by omega), (or_u64 S P hS hP).2, wrap_nat i (by omega)]
      rw [hPe, listN_wd (by omega)]
      exact e
    · obtain ⟨t, ht⟩ : ∃ t, t = Lib.ctz 64 T := ⟨_, rfl⟩
      have tb : T.testBit t = true := by rw [ht]; exact ctz_bit T hT0 hT
      obtain ⟨tR, tP⟩ := h2 t tb
      have tn := tR.lt hf hi
      obtain ⟨o1, o2⟩ := or_pow hP (show t < 64 by omega)
      have hw := wAt_lt (gW_ok (show n ≤ 64 by omega) f) t
      obtain ⟨o3, o4⟩ := or_u64 T (wAt (gW n f) t) hT hw
      obtain ⟨c, c1, c2, c3⟩ := andNot_u64 _ _ o3 o1
      have wb : ∀ k, (wAt (gW n f) t).testBit k = f t k := fun k => by
        rw [gW_bit, decide_eq_true tn, Bool.true_and]
        cases q : f t k with
        | false => rw [Bool.and_false]
        | true => rw [decide_eq_true (hf.2.2 _ _ q).2]; rfl
      have Pb : ∀ k, (P ||| 2 ^ t).testBit k = true ↔ P.testBit k = true ∨ k = t := fun k => by
        rw [Nat.testBit_or, pow_bit, Bool.or_eq_true, decide_eq_true_iff]
        exact ⟨fun h => h.imp id (fun e => e.symm), fun h => h.imp id (fun e => e.symm)⟩
      have cb : ∀ k, c.testBit k = true ↔ (T.testBit k = true ∨ f t k = true) ∧ (P ||| 2 ^ t).testBit k = false := fun k => by
        rw [c3, Nat.testBit_or T, wb, Bool.and_eq_true, Bool.or_eq_true, Bool.not_eq_true']
      have cR : ∀ k, c.testBit k = true → Rch f i k := fun k h => by
        rcases ((cb k).1 h).1 with g | g
        · exact (h2 k g).1
        · exact tR.step g
      have hcn : c < 2 ^ n := lt_of_bits (fun k hk => by
        cases q : c.testBit k with
        | false => rfl
        | true => have := (cR k q).lt hf hi; omega)
      have hcnt : cnt n (fun k => (P ||| 2 ^ t).testBit k) = cnt n (fun k => P.testBit k) + 1 := by
        have hgen : ∀ m, cnt m (fun k => (P ||| 2 ^ t).testBit k) = cnt m (fun k => P.testBit k) + if t < m then 1 else 0 := by
          intro m
          induction m with
          | zero => rfl
          | succ m ihm =>
            rw [cnt, cnt, ihm]
            by_cases e : m = t
            · subst e
              rw [if_neg (show ¬ m < m by omega), if_pos ((Pb m).2 (.inr rfl)), if_neg (by rw [tP]; decide), if_pos (show m < m + 1 by omega)]
            · have e2 : (P ||| 2 ^ t).testBit m = P.testBit m := by
                rw [Bool.eq_iff_iff]
                exact ⟨fun h => ((Pb m).1 h).elim id (fun h => absurd h e), fun h => (Pb m).2 (.inl h)⟩
              rw [e2]
              by_cases g : t < m
              · rw [if_pos g, if_pos (show t < m + 1 by omega)]; omega
              · rw [if_neg g, if_neg (show ¬ t < m + 1 by omega)]; omega
        rw [hgen n, if_pos tn]
      refine evp (ih (P ||| 2 ^ t) c (by omega) o1 c1 (fun k h => ?_) (fun k h => ⟨cR k h, ((cb k).1 h).2⟩) ?_ (fun k m h e => ?_)) (fun k e => ?_)
      · rcases (Pb k).1 h with h | h
        · exact h1 k h
        · rw [h]; exact tR
      · rcases h3 with h | h
        · exact .inl ((Pb i).2 (.inl h))
        · cases q : (P ||| 2 ^ t).testBit i with
          | true => exact .inl rfl
          | false => exact .inr ((cb i).2 ⟨.inl h, q⟩)
      · cases q : (P ||| 2 ^ t).testBit m with
        | true => exact .inl rfl
        | false =>
          refine .inr ((cb m).2 ⟨?_, q⟩)
          rcases (Pb k).1 h with g | g
          · rcases h4 k m g e with x | x
            · rw [(Pb m).2 (.inl x)] at q; cases q
            · exact .inl x
          · rw [g] at e; exact .inr e
      · have htz : bits_TrailingZeros64.f (T : Int) = some (t : Int) := by
          unfold bits_TrailingZeros64.f
          rw [if_pos ⟨by omega, by omega⟩, Int.toNat_natCast, ht]
        rw [graph_Parts.l1, if_neg (by omega), htz, Option.bind_some, if_pos (by omega), gI_len, gW_len, if_pos (by omega), gI_rd, o4, o2, c2, if_pos ((shr_zero c n c1).2 hcn)]
        exact e
theorem parts_l0 : ∀ (d i S : Nat), i + d = n → S < 18446744073709551616 → (∀ k, S.testBit k = true ↔ ∃ j, j < i ∧ r j k = true) →
    Ev (fun k => graph_Parts.l0 k (upto n r i) (S : Int) (n : Int) (i : Int) (gI (gW n f))) (partsL n r) := by
  intro d
  induction d with
  | zero =>
    intro i S h hS hb
    obtain rfl : i = n := by omega
    exact evs0 (fun k => by rw [graph_Parts.l0, if_neg (by omega)]; rfl)
  | succ d ih =>
    intro i S h hS hb
    have hi : i < n := by omega
    by_cases c : S.testBit i = true
    · obtain ⟨j, hj, hji⟩ := (hb i).1 c
      have hrep : ¬ isRep r i = true := fun h => by rw [(isRep_iff r i).1 h j hj] at hji; cases hji
      have hrec := ih (i + 1) S (by omega) hS (fun k => by
        rw [hb k]
        constructor
        · rintro ⟨m, a, b⟩; exact ⟨m, by omega, b⟩
        · rintro ⟨m, a, b⟩
          by_cases e : m = i
          · subst e
            exact ⟨j, hj, (hr j k).2 (((hr j m).1 hji).trans ((hr m k).1 b))⟩
          · exact ⟨m, by omega, b⟩)
      rw [upto_succ, if_neg hrep] at hrec
      refine evp hrec (fun k e => ?_)
      rw [graph_Parts.l0, if_pos (by omega), if_pos (by omega), and_one S i hS, if_pos c, if_pos rfl, wrap_nat i (by omega)]
      exact e
    · have hrep : isRep r i = true := (isRep_iff r i).2 (fun j hj => by
        cases q : r j i with
        | false => rfl
        | true => exact absurd ((hb i).2 ⟨j, hj, q⟩) c)
      have hP := wd_64 (show n ≤ 64 by omega) (r i)
      have hrec := ih (i + 1) (S ||| wd n (r i)) (by omega) (or_u64 S _ hS hP).1 (fun k => by
        rw [Nat.testBit_or, Bool.or_eq_true, hb, wd_bit, Bool.and_eq_true, decide_eq_true_iff]
        constructor
        · rintro (⟨m, a, b⟩ | ⟨_, b⟩)
          · exact ⟨m, by omega, b⟩
          · exact ⟨i, by omega, b⟩
        · rintro ⟨m, a, b⟩
          by_cases e : m = i
          · subst e
            exact .inr ⟨((hr m k).1 b).lt hf hi, b⟩
          · exact .inl ⟨m, by omega, b⟩)
      rw [upto_succ, if_pos hrep] at hrec
      have hl := upto_len n r i
      have h1 := parts_l1 n hn f r hf hr (upto n r i) (by omega) S hS i hi _ hrec (n - cnt n (fun k => (0 : Nat).testBit k)) 0 (2 ^ i) (by have := cnt_le n (fun k => (0 : Nat).testBit k); omega) (by decide) (pow_lt_64 i (by omega))
        (fun k h => by rw [Nat.zero_testBit] at h; cases h) (fun k h => by
          rw [pow_bit, decide_eq_true_iff] at h
          subst h
          exact ⟨.refl, Nat.zero_testBit _⟩) (.inr (by rw [pow_bit]; simp)) (fun k m h => by rw [Nat.zero_testBit] at h; cases h)
      refine evp h1 (fun k e => ?_)
      rw [graph_Parts.l0, if_pos (by omega), if_pos (by omega), and_one S i hS, if_neg c, if_neg (by decide), shl_one i (by omega)]
      exact e
theorem parts_ev : Ev (fun k => graph_Parts.f k (gI (gW n f))) (partsL n r) := by
  refine evu1 (parts_l0 n hn f r hf hr n 0 0 (by omega) (by decide) (fun k => ?_)) (fun k e => ?_)
  · rw [Nat.zero_testBit]
    exact ⟨fun h => (by cases h), fun ⟨j, a, _⟩ => absurd a (by omega)⟩
  · rw [graph_Parts.f, gI_len, gW_len]
    exact e
end
end Go.Proofs.YtaodbohfhelokaaDoor.Pr

set_option linter.unusedVariables false
set_option linter.unusedSimpArgs false
namespace Go.Proofs.YtaodbohfhelokaaDoor.Pr
open Go.RowKit Go.Proofs.YtaodbohfhelokaaDoorW.PrintWords Go.Proofs.YtaodbohfhelokaaDoorW.PrintLast Go.Proofs.YtaodbohfhelokaaDoorW.PrintMore

section
variable (n : Nat) (hn : n ≤ 40) (f r : Nat → Nat → Bool) (hf : Sy n f) (hr : RB f r) (z : Nat → Bool) (o : List (List Int)) (i : Nat)
include hn
theorem rp_l3 (u a : Nat) (ha : a < n) : ∀ (d b : Nat) (s : Nat → Bool), b + d = n → ∃ s' : Nat → Bool, (∀ c, s c = true → s' c = true) ∧ (∀ x, (∀ c, s c = true → Rch f x c) → ∀ c, s' c = true → Rch f x c) ∧ (s a = true → ∀ c, b ≤ c → c < n → f a c = true → s' c = true) ∧
    ∀ R, Ev (fun k => arboristref08_Parts.l2 k (mat n f) (n : Int) (rowT n z) o (i : Int) (rowT n s') (u : Int) ((a + 1 : Nat) : Int)) R → Ev (fun k => arboristref08_Parts.l3 k (mat n f) (n : Int) (rowT n z) o (i : Int) (rowT n s) (u : Int) (a : Int) (b : Int)) R
  | 0, b, s, h => ⟨s, fun _ h => h, fun _ h => h, fun _ c h1 h2 => absurd h2 (by omega), fun R H => evp H (fun k e => by
      rw [arboristref08_Parts.l3, if_neg (by omega), wrap_nat a (by omega)]
      exact e)⟩
  | d + 1, b, s, h => by
    obtain ⟨s1, hs1⟩ : ∃ s1 : Nat → Bool, s1 = fun j => if j = b then (s b || (s a && f a b)) else s j := ⟨_, rfl⟩
    have m1 : ∀ c, s c = true → s1 c = true := fun c hc => by
      rw [hs1]
      by_cases e : c = b
      · subst e; simp [hc]
      · simp [e, hc]
    obtain ⟨s', g1, g2, g3, g4⟩ := rp_l3 u a ha d (b + 1) s1 (by omega)
    refine ⟨s', fun c h => g1 c (m1 c h), fun x hx => g2 x (fun c h => ?_), fun hsa c h1 h2 hfc => ?_, fun R H => evp (g4 R H) (fun k e => ?_)⟩
    · rw [hs1] at h
      by_cases e : c = b
      · subst e
        simp only [if_pos, Bool.or_eq_true, Bool.and_eq_true] at h
        rcases h with h | h
        · exact hx c h
        · exact (hx a h.1).step h.2
      · simp only [if_neg e] at h
        exact hx c h
    · by_cases e : c = b
      · refine g1 c ?_
        rw [hs1]
        subst e
        simp [hsa, hfc]
      · exact g3 (m1 a hsa) c (by omega) h2 hfc
    · have hb : b < n := by omega
      have hset : ∀ v : Bool, v = (s b || (s a && f a b)) → (rowT n s).set b v = rowT n s1 := fun v hv => by rw [rowT_set, hs1, hv]
      rw [arboristref08_Parts.l3, if_pos (by omega), if_pos (by omega), rowT_len, if_pos (by omega), rowT_rd n s b hb, wrap_nat b (by omega), Int.toNat_natCast]
      by_cases c1 : s b = true
      · rw [if_pos c1, hset true (by simp [c1])]
        exact e
      · rw [if_neg c1, if_pos (by omega), if_pos (by omega), rowT_rd n s a ha]
        by_cases c2 : s a = true
        · rw [if_pos c2, mat_len, if_pos (by omega), mat_rd n f a ha, rowT_len, if_pos (by omega), rowT_rd n _ b hb, hset _ (by simp [Bool.not_eq_true _ |>.mp c1, c2])]
          exact e
        · rw [if_neg c2, hset false (by simp [Bool.not_eq_true _ |>.mp c1, Bool.not_eq_true _ |>.mp c2])]
          exact e
theorem rp_l2 (u : Nat) (hu : u ≤ 40) : ∀ (d a : Nat) (s : Nat → Bool), a + d = n → ∃ s' : Nat → Bool, (∀ c, s c = true → s' c = true) ∧ (∀ x, (∀ c, s c = true → Rch f x c) → ∀ c, s' c = true → Rch f x c) ∧ (∀ a', a ≤ a' → a' < n → s a' = true → ∀ c, c < n → f a' c = true → s' c = true) ∧
    ∀ R, Ev (fun k => arboristref08_Parts.l1 k (mat n f) (n : Int) (rowT n z) o (i : Int) (rowT n s') ((u + 1 : Nat) : Int)) R → Ev (fun k => arboristref08_Parts.l2 k (mat n f) (n : Int) (rowT n z) o (i : Int) (rowT n s) (u : Int) (a : Int)) R
  | 0, a, s, h => ⟨s, fun _ h => h, fun _ h => h, fun a' h1 h2 => absurd h2 (by omega), fun R H => evp H (fun k e => by
      rw [arboristref08_Parts.l2, if_neg (by omega), wrap_nat u (by omega)]
      exact e)⟩
  | d + 1, a, s, h => by
    obtain ⟨s1, a1, a2, a3, a4⟩ := rp_l3 n hn f z o i u a (by omega) n 0 s (by omega)
    obtain ⟨s2, b1, b2, b3, b4⟩ := rp_l2 u hu d (a + 1) s1 (by omega)
    refine ⟨s2, fun c h => b1 c (a1 c h), fun x hx => b2 x (a2 x hx), fun a' h1 h2 hs c hc hfc => ?_, fun R H => evp (a4 R (b4 R H)) (fun k e => ?_)⟩
    · by_cases e : a' = a
      · subst e
        exact b1 c (a3 hs c (by omega) hc hfc)
      · exact b3 a' (by omega) h2 (a1 a' hs) c hc hfc
    · rw [arboristref08_Parts.l2, if_pos (by omega)]
      exact e
include hf hr
theorem rp_l1 (hi : i < n) (R : List (List Int)) (H : Ev (fun k => arboristref08_Parts.l4 k (mat n f) (n : Int) (rowT n z) o (i : Int) (rowT n (r i)) [] 0) R) : ∀ (d u : Nat) (s : Nat → Bool), u + d = n → s i = true → (∀ c, s c = true → Rch f i c) →
    (u + 1 ≤ cnt n s ∨ ∀ a c, a < n → s a = true → c < n → f a c = true → s c = true) → Ev (fun k => arboristref08_Parts.l1 k (mat n f) (n : Int) (rowT n z) o (i : Int) (rowT n s) (u : Int)) R := by
  have hcl : ∀ s : Nat → Bool, s i = true → (∀ a c, a < n → s a = true → c < n → f a c = true → s c = true) → ∀ c, Rch f i c → s c = true := fun s h0 hc c h => by
    induction h with
    | refl => exact h0
    | step g e ih => exact hc _ _ (g.lt hf hi) ih (hf.2.2 _ _ e).2 e
  intro d
  induction d with
  | zero =>
    intro u s h h0 hR hq
    have hc : ∀ a c, a < n → s a = true → c < n → f a c = true → s c = true := by
      rcases hq with h1 | h1
      · have := cnt_le n s; omega
      · exact h1
    have e : rowT n s = rowT n (r i) := rowT_congr (fun c _ => by
      rw [Bool.eq_iff_iff, hr]
      exact ⟨hR c, hcl s h0 hc c⟩)
    rw [e]
    refine evp H (fun k e => ?_)
    rw [arboristref08_Parts.l1, if_neg (by omega)]
    exact e
  | succ d ih =>
    intro u s h h0 hR hq
    obtain ⟨s', a1, a2, a3, a4⟩ := rp_l2 n hn f z o i u (by omega) n 0 s (by omega)
    have hR' := a2 i hR
    refine evp (a4 R (ih (u + 1) s' (by omega) (a1 i h0) hR' ?_)) (fun k e => ?_)
    · by_cases hc : ∀ a c, a < n → s a = true → c < n → f a c = true → s c = true
      · refine .inr (fun a c ha hs hcn hfc => a1 c (hcl s h0 hc c ((hR' a hs).step hfc)))
      · have hu : u + 1 ≤ cnt n s := hq.resolve_right hc
        obtain ⟨a, hc⟩ := Classical.not_forall.1 hc
        obtain ⟨c, hc⟩ := Classical.not_forall.1 hc
        simp only [Classical.not_imp] at hc
        obtain ⟨ha, hs, hcn, hfc, hsc⟩ := hc
        have := cnt_lt n s s' (fun c _ => a1 c) c hcn (Bool.not_eq_true _ |>.mp hsc) (a3 a (by omega) ha hs c hcn hfc)
        exact .inl (by omega)
    · rw [arboristref08_Parts.l1, if_pos (by omega)]
      exact e
omit hf hr in
theorem rp_l4 (s : Nat → Bool) (hi : i < n) (ho : o.length ≤ 40) (R : List (List Int)) : ∀ (d a : Nat) (z : Nat → Bool) (part : List Int), a + d = n → part.length ≤ a →
    Ev (fun k => arboristref08_Parts.l0 k (mat n f) (n : Int) (rowT n fun k => z k || (decide (a ≤ k) && s k)) (o ++ [part ++ ((List.range' a (n - a)).filter s).map fun (j : Nat) => (j : Int)]) ((i + 1 : Nat) : Int)) R →
    Ev (fun k => arboristref08_Parts.l4 k (mat n f) (n : Int) (rowT n z) o (i : Int) (rowT n s) part (a : Int)) R
  | 0, a, z, part, h, hp, H => by
    refine evp H (fun k e => ?_)
    rw [show n - a = 0 by omega] at e
    rw [arboristref08_Parts.l4, if_neg (by omega), if_pos (by omega), wrap_nat i (by omega), show rowT n z = rowT n (fun k => z k || (decide (a ≤ k) && s k)) from rowT_congr (fun k hk => by rw [decide_eq_false (by omega), Bool.false_and, Bool.or_false])]
    simpa using e
  | d + 1, a, z, part, h, hp, H => by
    have ha : a < n := by omega
    rw [ofT_from n s a ha] at H
    by_cases c : s a = true
    · rw [if_pos c] at H
      have hrec := rp_l4 s hi ho R d (a + 1) (fun j => if j = a then true else z j) (part ++ [(a : Int)]) (by omega) (by simp; omega) (by
        rw [List.append_assoc]
        have e : rowT n (fun k => (if k = a then true else z k) || (decide (a + 1 ≤ k) && s k)) = rowT n (fun k => z k || (decide (a ≤ k) && s k)) := rowT_congr (fun k hk => by
          by_cases e : k = a
          · subst e; rw [if_pos rfl, decide_eq_true (Nat.le_refl _), c]; simp
          · rw [if_neg e]
            congr 2
            rw [decide_eq_decide]
            omega)
        rw [e]
        exact H)
      refine evp hrec (fun k e => ?_)
      rw [arboristref08_Parts.l4, if_pos (by omega), if_pos (by omega), rowT_len, if_pos (by omega), rowT_rd n s a ha, if_pos c, rowT_len, if_pos (by omega), if_pos (by omega), Int.toNat_natCast, rowT_set, wrap_nat a (by omega)]
      exact e
    · rw [if_neg c] at H
      have hrec := rp_l4 s hi ho R d (a + 1) z part (by omega) (by omega) (by
        have e : rowT n (fun k => z k || (decide (a + 1 ≤ k) && s k)) = rowT n (fun k => z k || (decide (a ≤ k) && s k)) := rowT_congr (fun k hk => by
          by_cases e : k = a
          · subst e; rw [Bool.not_eq_true _ |>.mp c]; simp
          · congr 2
            rw [decide_eq_decide]
            omega)
        rw [e]
        exact H)
      refine evp hrec (fun k e => ?_)
      rw [arboristref08_Parts.l4, if_pos (by omega), if_pos (by omega), rowT_len, if_pos (by omega), rowT_rd n s a ha, if_neg c, wrap_nat a (by omega)]
      exact e
end
theorem rp_l0 (n : Nat) (hn : n ≤ 40) (f r : Nat → Nat → Bool) (hf : Sy n f) (hr : RB f r) : ∀ (d i : Nat) (z : Nat → Bool), i + d = n → (∀ k, k < n → (z k = true ↔ ∃ j, j < i ∧ r j k = true)) →
    Ev (fun k => arboristref08_Parts.l0 k (mat n f) (n : Int) (rowT n z) (upto n r i) (i : Int)) (partsL n r)
  | 0, i, z, h, hz => by
    obtain rfl : i = n := by omega
    exact evs0 (fun k => by rw [arboristref08_Parts.l0, if_neg (by omega)]; rfl)
  | d + 1, i, z, h, hz => by
    have hi : i < n := by omega
    by_cases c : z i = true
    · obtain ⟨j, hj, hji⟩ := (hz i hi).1 c
      have hrep : ¬ isRep r i = true := fun h => by rw [(isRep_iff r i).1 h j hj] at hji; cases hji
      have hrec := rp_l0 n hn f r hf hr d (i + 1) z (by omega) (fun k hk => by
        rw [hz k hk]
        constructor
        · rintro ⟨m, a, b⟩; exact ⟨m, by omega, b⟩
        · rintro ⟨m, a, b⟩
          by_cases e : m = i
          · subst e
            exact ⟨j, hj, (hr j k).2 (((hr j m).1 hji).trans ((hr m k).1 b))⟩
          · exact ⟨m, by omega, b⟩)
      rw [upto_succ, if_neg hrep] at hrec
      refine evp hrec (fun k e => ?_)
      rw [arboristref08_Parts.l0, if_pos (by omega), if_pos (by omega), rowT_len, if_pos (by omega), rowT_rd n z i hi, if_pos c, wrap_nat i (by omega)]
      exact e
    · have hrep : isRep r i = true := (isRep_iff r i).2 (fun j hj => by
        cases q : r j i with
        | false => rfl
        | true => exact absurd ((hz i hi).2 ⟨j, hj, q⟩) c)
      have hl := upto_len n r i
      have hrec := rp_l0 n hn f r hf hr d (i + 1) (fun k => z k || (decide (0 ≤ k) && r i k)) (by omega) (fun k hk => by
        rw [decide_eq_true (Nat.zero_le k), Bool.true_and, Bool.or_eq_true, hz k hk]
        constructor
        · rintro (⟨m, a, b⟩ | b)
          · exact ⟨m, by omega, b⟩
          · exact ⟨i, by omega, b⟩
        · rintro ⟨m, a, b⟩
          by_cases e : m = i
          · subst e; exact .inr b
          · exact .inl ⟨m, by omega, b⟩)
      rw [upto_succ, if_pos hrep] at hrec
      have h4 := rp_l4 n hn f (upto n r i) i (r i) hi (by omega) (partsL n r) n 0 z [] (by omega) (by simp) (by
        rw [List.nil_append, Nat.sub_zero, ← List.range_eq_range']
        exact hrec)
      have h1 := rp_l1 n hn f r hf hr z (upto n r i) i hi _ h4 n 0 (fun j => if j = i then true else false) (by omega) (by simp) (fun c hc => by
        by_cases e : c = i
        · rw [e]; exact .refl
        · rw [if_neg e] at hc; cases hc) (.inl (cnt_pos n _ i hi (by simp)))
      refine evp h1 (fun k e => ?_)
      rw [arboristref08_Parts.l0, if_pos (by omega), if_pos (by omega), rowT_len, if_pos (by omega), rowT_rd n z i hi, if_neg c, if_pos (by omega), if_pos (by omega)]
      simp only [Option.bind_some, Int.toNat_natCast]
      rw [rep_row, rowT_len, if_pos (by omega), rowT_set]
      exact e
theorem rparts_ev (n : Nat) (hn : n ≤ 40) (f r : Nat → Nat → Bool) (hf : Sy n f) (hr : RB f r) : Ev (fun k => arboristref08_Parts.f k (mat n f)) (partsL n r) := by
  refine evu1 (rp_l0 n hn f r hf hr n 0 (fun _ => false) (by omega) (fun k _ => ⟨fun h => (by cases h), fun ⟨j, a, _⟩ => absurd a (by omega)⟩)) (fun k e => ?_)
  rw [arboristref08_Parts.f, mat_len, if_pos (by omega), if_pos (by omega), Int.toNat_natCast, rep_row]
  exact e
theorem L2_at (B : List (List Int)) (i : Nat) (h : i < B.length) : rd_L2 B (i : Int) = B[i] := by
  unfold rd_L2
  rw [List.getD_eq_getElem?_getD, Int.toNat_natCast, List.getElem?_eq_getElem h]
  rfl
theorem same8_loop (a : List (List Int)) (ha : a.length < 9223372036854775807) (hx : ∀ x ∈ a, x.length ≤ 9223372036854775807) : ∀ (d i : Nat), a.length = i + d → Ev (fun k => arboristlaw08_same.l0 k a a (i : Int)) true
  | 0, i, h => evs0 (fun k => by rw [arboristlaw08_same.l0, if_neg (by omega)])
  | d + 1, i, h => by
    have hi : i < a.length := by omega
    have hm := hx _ (List.getElem_mem hi)
    refine evs2 (Compare_ev a[i] a[i] hm hm) (same8_loop a ha hx d (i + 1) (by omega)) (fun k e1 e2 => ?_)
    rw [arboristlaw08_same.l0, if_pos (by omega), if_pos (by omega), if_pos (by omega), L2_at a i hi, e1, Option.bind_some, cmpL_self, if_pos rfl, wrap_nat i (by omega)]
    exact e2
theorem same8_ev (a : List (List Int)) (ha : a.length < 9223372036854775807) (hx : ∀ x ∈ a, x.length ≤ 9223372036854775807) : Ev (fun k => arboristlaw08_same.f k a a) true :=
  evu1 (same8_loop a ha hx a.length 0 (by omega)) (fun k e => by rw [arboristlaw08_same.f, if_pos rfl]; exact e)
theorem ofT_len (n : Nat) (f : Nat → Bool) : (ofT n f).length ≤ n := by
  unfold ofT
  rw [List.length_map]
  exact Nat.le_trans (List.length_filter_le _ _) (by simp)
end Go.Proofs.YtaodbohfhelokaaDoor.Pr

set_option linter.unusedVariables false
set_option linter.unusedSimpArgs false
namespace Go.Proofs.YtaodbohfhelokaaDoor.Pure
open Go.RowKit Go.Proofs.YtaodbohfhelokaaDoor.Pr Go.Proofs.YtaodbohfhelokaaDoorW.PrintWords Go.Proofs.YtaodbohfhelokaaDoorW.PrintLast Go.Proofs.YtaodbohfhelokaaDoorW.PrintMore

/-! ### a row of numbers that rises -/
theorem rising_loop (l : List Int) (hl : l.length ≤ 1000) (hp : l.Pairwise (· < ·)) : ∀ (d i : Nat), 1 ≤ i → l.length + 1 = i + d → Ev (fun k => arboristref01_Rising.l0 k l (i : Int)) true
  | 0, i, h1, h => evs0 (fun k => by rw [arboristref01_Rising.l0, if_neg (by omega)])
  | d + 1, i, h1, h => by
    by_cases c : i < l.length
    · have hi : i - 1 < l.length := by omega
      have hlt : l[i - 1] < l[i] := (List.pairwise_iff_getElem.1 hp) _ _ hi c (by omega)
      have e1 : rd l (i : Int) = l[i] := rdn l i c
      have e2 : wrap64 ((i : Int) - 1) = ((i - 1 : Nat) : Int) := by unfold wrap64; omega
      have e3 : rd l ((i - 1 : Nat) : Int) = l[i - 1] := rdn l (i - 1) hi
      refine evp (rising_loop l hl hp d (i + 1) (by omega) (by omega)) (fun k e => ?_)
      rw [arboristref01_Rising.l0, if_pos (by omega), if_pos (by omega), e2, if_pos (by omega), if_pos (by omega), e1, e3, if_neg (by omega), wrap_nat i (by omega)]
      exact e
    · exact evs0 (fun k => by rw [arboristref01_Rising.l0, if_neg (by omega)])
theorem rising_ev (l : List Int) (hl : l.length ≤ 1000) (hp : l.Pairwise (· < ·)) : Ev (fun k => arboristref01_Rising.f k l) true := evu1 (rising_loop l hl hp l.length 1 (by omega) (by omega)) (fun k e => by rw [arboristref01_Rising.f]; exact e)
theorem ofT_rise (n : Nat) (g : Nat → Bool) : (ofT n g).Pairwise (· < ·) := by
  unfold ofT
  rw [List.pairwise_map]
  refine List.Pairwise.imp (fun h => ?_) (List.Pairwise.sublist List.filter_sublist List.pairwise_lt_range)
  omega
theorem mem_ofT (n : Nat) (g : Nat → Bool) (v : Int) : v ∈ ofT n g ↔ ∃ k : Nat, k < n ∧ g k = true ∧ v = (k : Int) := by
  unfold ofT
  simp only [List.mem_map, List.mem_filter, List.mem_range]
  constructor
  · rintro ⟨k, ⟨a, b⟩, rfl⟩; exact ⟨k, a, b, rfl⟩
  · rintro ⟨k, a, b, rfl⟩; exact ⟨k, ⟨a, b⟩, rfl⟩
section
variable (n : Nat) (f r : Nat → Nat → Bool) (hf : Sy n f) (hr : RB f r)
include hf hr
/-- the first of a part is its least -/
theorem part_first (i : Nat) (hi : i < n) (hrep : isRep r i = true) : ∃ l, ofT n (r i) = (i : Int) :: l := by
  have hm : (i : Int) ∈ ofT n (r i) := (mem_ofT _ _ _).2 ⟨i, hi, (hr i i).2 .refl, rfl⟩
  have hp := ofT_rise n (r i)
  cases hl : ofT n (r i) with
  | nil => rw [hl] at hm; simp at hm
  | cons x l =>
    refine ⟨l, ?_⟩
    rw [hl] at hm hp
    have hx : x ∈ ofT n (r i) := by rw [hl]; simp
    obtain ⟨k, k1, k2, k3⟩ := (mem_ofT _ _ _).1 hx
    rcases List.mem_cons.1 hm with h | h
    · rw [h]
    · have := (List.pairwise_cons.1 hp).1 _ h
      have hki : k < i := by omega
      have h1 := (isRep_iff r i).1 hrep k hki
      have h2 := (hr k i).2 (((hr i k).1 k2).symm hf.1)
      rw [h2] at h1
      cases h1
end
/-- a row of numbers by points -/
def rowI (n : Nat) (g : Nat → Int) : List Int := (List.range n).map g
theorem rowI_len (n : Nat) (g : Nat → Int) : (rowI n g).length = n := by simp [rowI]
theorem rowI_rd (n : Nat) (g : Nat → Int) (k : Nat) (h : k < n) : rd (rowI n g) (k : Int) = g k := by
  unfold rd rowI
  rw [Int.toNat_natCast, List.getD_eq_getElem?_getD, List.getElem?_map, List.getElem?_range h]
  rfl
theorem rowI_set (n : Nat) (g : Nat → Int) (k : Nat) (v : Int) : (rowI n g).set k v = rowI n fun j => if j = k then v else g j := by
  unfold rowI
  apply List.ext_getElem
  · simp
  · intro j h1 h2
    rw [List.getElem_set]
    simp only [List.getElem_map, List.getElem_range]
    by_cases e : k = j
    · rw [if_pos e, if_pos e.symm]
    · rw [if_neg e, if_neg (fun h => e h.symm)]
section
variable (n : Nat) (hn : n ≤ 12) (f r : Nat → Nat → Bool) (hf : Sy n f) (hr : RB f r)
include hn hf hr
omit hf hr in
/-- each point has the number of a part, and points beside each other the same one -/
theorem gp_l4 (g : Nat → Int) (hs : ∀ a b, a < n → b < n → f a b = true → g a = g b) (a : Nat) (ha : a < n) (H : Ev (fun k => arboristlaw08_GraphParts.l3 k true (mat n f) (rowI n g) ((a + 1 : Nat) : Int) (gI (gW n f))) true) : ∀ (d b : Nat), b + d = n →
    Ev (fun k => arboristlaw08_GraphParts.l4 k true (mat n f) (rowI n g) (a : Int) (b : Int) (gI (gW n f))) true
  | 0, b, h => evp H (fun k e => by
    rw [arboristlaw08_GraphParts.l4, mat_len, if_neg (by omega), wrap_nat a (by omega)]
    exact e)
  | d + 1, b, h => by
    have hb : b < n := by omega
    refine evp (gp_l4 g hs a ha H d (b + 1) (by omega)) (fun k e => ?_)
    have hB : besB (gW n f) (a : Int) (b : Int) = f a b := by
      unfold besB isP
      rw [gW_len, decide_eq_true (by omega), decide_eq_true (by omega), Int.toNat_natCast, Int.toNat_natCast, gW_bit, decide_eq_true ha, decide_eq_true hb]
      rfl
    rw [arboristlaw08_GraphParts.l4, mat_len, if_pos (by omega), beside_f _ (gW_ok (by omega) f), Option.bind_some, hB, wrap_nat b (by omega)]
    by_cases c : f a b = true
    · rw [if_pos c, if_pos (by omega), rowI_len, if_pos (by omega), if_pos (by omega), if_pos (by omega), rowI_rd n g a ha, rowI_rd n g b hb, if_pos (hs a b ha hb c)]
      exact e
    · rw [if_neg c]
      exact e
omit hf hr in
theorem gp_l3 (g : Nat → Int) (hg : ∀ a, a < n → 0 ≤ g a) (hs : ∀ a b, a < n → b < n → f a b = true → g a = g b) : ∀ (d a : Nat), a + d = n →
    Ev (fun k => arboristlaw08_GraphParts.l3 k true (mat n f) (rowI n g) (a : Int) (gI (gW n f))) true
  | 0, a, h => evs0 (fun k => by rw [arboristlaw08_GraphParts.l3, mat_len, if_neg (by omega)])
  | d + 1, a, h => by
    have ha : a < n := by omega
    have := hg a ha
    refine evp (gp_l4 n hn f g hs a ha (gp_l3 g hg hs d (a + 1) (by omega)) n 0 (by omega)) (fun k e => ?_)
    rw [arboristlaw08_GraphParts.l3, mat_len, if_pos (by omega), if_pos (by omega), rowI_len, if_pos (by omega), rowI_rd n g a ha, if_neg (by omega)]
    exact e
omit hf hr in
/-- the points of one part get its number -/
theorem gp_l2 (P : List (List Int)) (hP : P.length ≤ 12) (m : Nat) (hm : m < P.length) (q : Nat → Bool) (hq : P[m] = ofT n q) (last : Int) (R : Bool) : ∀ (d j : Nat) (g : Nat → Int), j + d = (ofT n q).length → (∀ k, k < n → q k = true → (k : Int) ∈ (ofT n q).drop j → g k < 0) →
    Ev (fun k => arboristlaw08_GraphParts.l1 k true (mat n f) P (rowI n fun k => if (k : Int) ∈ (ofT n q).drop j then (m : Int) else g k) last ((m + 1 : Nat) : Int) (gI (gW n f))) R →
    Ev (fun k => arboristlaw08_GraphParts.l2 k true (mat n f) P (rowI n g) last (m : Int) (j : Int) (gI (gW n f))) R
  | 0, j, g, h, hg, H => by
    refine evp H (fun k e => ?_)
    rw [List.drop_eq_nil_of_le (by omega)] at e
    rw [arboristlaw08_GraphParts.l2, if_pos (by omega), if_pos (by omega), L2_at P m hm, hq, if_neg (by omega), wrap_nat m (by omega)]
    simpa using e
  | d + 1, j, g, h, hg, H => by
    have hj : j < (ofT n q).length := by omega
    have hlen := ofT_len n q
    have hdrop := List.drop_eq_getElem_cons hj
    obtain ⟨x, hx⟩ : ∃ x, x = (ofT n q)[j] := ⟨_, rfl⟩
    rw [← hx] at hdrop
    have hmem : x ∈ ofT n q := by rw [hx]; exact List.getElem_mem hj
    obtain ⟨c, hc, hqc, hxc⟩ := (mem_ofT _ _ _).1 hmem
    subst hxc
    have hr0 : rd (ofT n q) (j : Int) = (c : Int) := by rw [rdn _ j hj, hx]
    have hgc : g c < 0 := hg c hc hqc (by rw [hdrop]; simp)
    have hnd : ¬ (c : Int) ∈ (ofT n q).drop (j + 1) := fun hin => by
      have hp := List.Pairwise.sublist (List.drop_sublist j _) (ofT_rise n q)
      rw [hdrop] at hp
      have := (List.pairwise_cons.1 hp).1 _ hin
      omega
    have hrec := gp_l2 P hP m hm q hq last R d (j + 1) (fun k => if k = c then (m : Int) else g k) (by omega) (fun k hk hqk hin => by
      have : k ≠ c := fun e => hnd (by rw [e] at hin; exact hin)
      rw [if_neg this]
      exact hg k hk hqk (by rw [hdrop]; exact List.mem_cons_of_mem _ hin)) (by
      have e : (rowI n fun k => if (k : Int) ∈ (ofT n q).drop (j + 1) then (m : Int) else if k = c then (m : Int) else g k) = rowI n fun k => if (k : Int) ∈ (ofT n q).drop j then (m : Int) else g k := by
        unfold rowI
        refine List.map_congr_left (fun k _ => ?_)
        have hiff : (k : Int) ∈ (ofT n q).drop j ↔ (k : Int) = (c : Int) ∨ (k : Int) ∈ (ofT n q).drop (j + 1) := by rw [hdrop, List.mem_cons]
        by_cases c1 : (k : Int) ∈ (ofT n q).drop (j + 1)
        · rw [if_pos c1, if_pos (hiff.2 (.inr c1))]
        · rw [if_neg c1]
          by_cases c2 : k = c
          · rw [if_pos c2, if_pos (hiff.2 (.inl (by omega)))]
          · rw [if_neg c2, if_neg (fun h => by
              rcases hiff.1 h with h | h
              · omega
              · exact c1 h)]
      rw [e]
      exact H)
    refine evp hrec (fun k e => ?_)
    rw [arboristlaw08_GraphParts.l2, if_pos (by omega), if_pos (by omega), L2_at P m hm, hq, if_pos (by omega), if_pos (by omega), hr0, if_pos (by omega), rowI_len, if_pos (by omega), rowI_rd n g c hc, if_neg (by omega), Int.toNat_natCast, rowI_set, wrap_nat j (by omega)]
    exact e
/-- all parts: those that begin at i or behind -/
theorem gp_l1 : ∀ (d i : Nat) (g : Nat → Int) (last : Int), i + d = n → last < (i : Int) → (∀ k, k < n → ((∃ j, j < i ∧ r j k = true) → 0 ≤ g k) ∧ ((¬ ∃ j, j < i ∧ r j k = true) → g k = -1)) → (∀ a b, a < n → b < n → f a b = true → g a = g b) →
    Ev (fun k => arboristlaw08_GraphParts.l1 k true (mat n f) (partsL n r) (rowI n g) last (((upto n r i).length : Nat) : Int) (gI (gW n f))) true := by
  intro d
  induction d with
  | zero =>
    intro i g last h hl hg hs
    obtain rfl : i = n := by omega
    refine evp (gp_l3 i hn f g (fun a ha => (hg a ha).1 ⟨a, ha, (hr a a).2 .refl⟩) hs i 0 (by omega)) (fun k e => ?_)
    rw [arboristlaw08_GraphParts.l1, if_neg (by unfold partsL; omega)]
    exact e
  | succ d ih =>
    intro i g last h hl hg hs
    have hi : i < n := by omega
    by_cases hrep : isRep r i = true
    · -- the part of i
      have hup := upto_succ n r i
      rw [if_pos hrep] at hup
      obtain ⟨m, hm⟩ : ∃ m, m = (upto n r i).length := ⟨_, rfl⟩
      have hpre : ∀ e, ∃ t, upto n r (i + 1 + e) = upto n r (i + 1) ++ t := by
        intro e
        induction e with
        | zero => exact ⟨[], by simp⟩
        | succ e ihe =>
          obtain ⟨t, ht⟩ := ihe
          rw [show i + 1 + (e + 1) = (i + 1 + e) + 1 by omega, upto_succ]
          split
          · exact ⟨t ++ [ofT n (r (i + 1 + e))], by rw [ht, List.append_assoc]⟩
          · exact ⟨t, ht⟩
      obtain ⟨t, ht⟩ := hpre (n - (i + 1))
      rw [show i + 1 + (n - (i + 1)) = n by omega, hup] at ht
      have hP : partsL n r = upto n r i ++ (ofT n (r i) :: t) := by unfold partsL; rw [ht]; simp
      have hml : m < (partsL n r).length := by rw [hP, hm]; simp
      have hat : (partsL n r)[m] = ofT n (r i) := by
        have : (partsL n r)[m]? = some (ofT n (r i)) := by rw [hP, hm]; simp
        exact (List.getElem?_eq_some_iff.1 this).2
      have hpl : (partsL n r).length ≤ 12 := by have := upto_len n r n; unfold partsL; omega
      obtain ⟨tl, htl⟩ := part_first n f r hf hr i hi hrep
      have hrow : rd_L2 (partsL n r) (m : Int) = ofT n (r i) := by rw [L2_at _ m hml, hat]
      have hlen := ofT_len n (r i)
      have hpos : 0 < (ofT n (r i)).length := by rw [htl]; simp
      have h0 : rd (ofT n (r i)) 0 = (i : Int) := by rw [htl]; rfl
      have hnone : ∀ k, k < n → r i k = true → ¬ ∃ j, j < i ∧ r j k = true := fun k hk hik hex => by
        obtain ⟨j, hj, hjk⟩ := hex
        have := (isRep_iff r i).1 hrep j hj
        rw [(hr j i).2 (((hr j k).1 hjk).trans (((hr i k).1 hik).symm hf.1))] at this
        cases this
      have hin : ∀ k, k < n → ((k : Int) ∈ ofT n (r i) ↔ r i k = true) := fun k hk => by
        rw [mem_ofT]
        exact ⟨fun ⟨c, _, c2, c3⟩ => by have : k = c := by omega
                                        rw [this]; exact c2, fun h => ⟨k, hk, h, rfl⟩⟩
      have hrec := ih (i + 1) (fun k => if (k : Int) ∈ ofT n (r i) then (m : Int) else g k) (i : Int) (by omega) (by omega) (fun k hk => by
        by_cases c : r i k = true
        · rw [if_pos ((hin k hk).2 c)]
          exact ⟨fun _ => by omega, fun hne => absurd ⟨i, by omega, c⟩ hne⟩
        · rw [if_neg (fun h => c ((hin k hk).1 h))]
          refine ⟨fun ⟨j, hj, hjk⟩ => (hg k hk).1 ⟨j, ?_, hjk⟩, fun hne => (hg k hk).2 (fun ⟨j, hj, hjk⟩ => hne ⟨j, by omega, hjk⟩)⟩
          by_cases e : j = i
          · rw [e] at hjk; exact absurd hjk c
          · omega) (fun a b ha hb hab => by
        have e : r i a = r i b := by
          rw [Bool.eq_iff_iff, hr, hr]
          exact ⟨fun h => h.step hab, fun h => h.step (by rw [hf.1]; exact hab)⟩
        by_cases c : r i a = true
        · rw [if_pos ((hin a ha).2 c), if_pos ((hin b hb).2 (by rw [← e]; exact c))]
        · rw [if_neg (fun h => c ((hin a ha).1 h)), if_neg (fun h => c (by rw [e]; exact (hin b hb).1 h))]
          exact hs a b ha hb hab)
      rw [hup, List.length_append, List.length_singleton, ← hm] at hrec
      have h2 := gp_l2 n hn f (partsL n r) hpl m hml (r i) hat (i : Int) true (ofT n (r i)).length 0 g (by omega) (fun k hk hik _ => by rw [(hg k hk).2 (hnone k hk hik)]; decide) (by rw [List.drop_zero]; exact hrec)
      have hj : Ev (fun k => arboristlaw08_GraphParts.j2 k true (mat n f) (partsL n r) (rowI n g) (m : Int) false (gI (gW n f))) true := evp h2 (fun k e => by
        rw [arboristlaw08_GraphParts.j2, if_neg (by decide), if_pos (by omega), if_pos (by omega), hrow, if_pos (by omega), h0]
        exact e)
      obtain ⟨L, hL⟩ : ∃ L, (ofT n (r i)).length = L + 1 := ⟨(ofT n (r i)).length - 1, by omega⟩
      have hlast : rd (ofT n (r i)) (L : Int) < (n : Int) := by
        rw [rdn _ L (by omega)]
        obtain ⟨c, c1, _, c3⟩ := (mem_ofT _ _ _).1 (List.getElem_mem (show L < (ofT n (r i)).length by omega))
        rw [c3]; omega
      have hwr : wrap64 ((((ofT n (r i)).length : Nat) : Int) - 1) = (L : Int) := by unfold wrap64; omega
      rw [← hm]
      refine evs2 (rising_ev (ofT n (r i)) (by omega) (ofT_rise n (r i))) hj (fun k e1 e2 => ?_)
      rw [arboristlaw08_GraphParts.l1, if_pos (by omega), if_pos (by omega), hrow, if_neg (by omega), if_pos (by omega), h0, if_neg (by omega), e1, Option.bind_some, if_pos rfl, hwr, if_pos (by omega), if_pos (by omega), mat_len, if_neg (by omega), decide_eq_false (by omega)]
      exact e2
    · have hup := upto_succ n r i
      rw [if_neg hrep] at hup
      rw [← hup]
      refine ih (i + 1) g last (by omega) (by omega) (fun k hk => ?_) hs
      have hex : (∃ j, j < i + 1 ∧ r j k = true) ↔ ∃ j, j < i ∧ r j k = true := by
        constructor
        · rintro ⟨j, hj, hjk⟩
          by_cases e : j = i
          · have hno : ¬ ∀ j, j < i → r j i = false := fun h => hrep ((isRep_iff r i).2 h)
            obtain ⟨p, hp⟩ := Classical.not_forall.1 hno
            simp only [Classical.not_imp, Bool.not_eq_false] at hp
            rw [e] at hjk
            exact ⟨p, hp.1, (hr p k).2 (((hr p i).1 hp.2).trans ((hr i k).1 hjk))⟩
          · exact ⟨j, by omega, hjk⟩
        · rintro ⟨j, hj, hjk⟩; exact ⟨j, by omega, hjk⟩
      rw [hex]
      exact hg k hk
theorem gp_l0 : ∀ (d i : Nat), i + d = n → Ev (fun k => arboristlaw08_GraphParts.l0 k true (mat n f) (partsL n r) (rowI n fun k => if k < i then -1 else 0) (i : Int) (gI (gW n f))) true
  | 0, i, h => by
    obtain rfl : i = n := by omega
    have h1 := gp_l1 i hn f r hf hr i 0 (fun k => if k < i then -1 else 0) (-1) (by omega) (by omega) (fun k hk => ⟨fun ⟨j, hj, _⟩ => absurd hj (by omega), fun _ => by rw [if_pos hk]⟩) (fun a b ha hb _ => by rw [if_pos ha, if_pos hb])
    refine evp h1 (fun k e => ?_)
    rw [arboristlaw08_GraphParts.l0, mat_len, if_neg (by omega)]
    exact e
  | d + 1, i, h => by
    refine evp (gp_l0 d (i + 1) (by omega)) (fun k e => ?_)
    rw [arboristlaw08_GraphParts.l0, mat_len, if_pos (by omega), if_pos (by omega), rowI_len, if_pos (by omega), Int.toNat_natCast, rowI_set, wrap_nat i (by omega)]
    have e2 : (rowI n fun j => if j = i then (-1 : Int) else if j < i then -1 else 0) = rowI n fun j => if j < i + 1 then -1 else 0 := by
      unfold rowI
      refine List.map_congr_left (fun j _ => ?_)
      by_cases c : j = i
      · rw [if_pos c, if_pos (by omega)]
      · rw [if_neg c]
        by_cases c2 : j < i
        · rw [if_pos c2, if_pos (by omega)]
        · rw [if_neg c2, if_neg (by omega)]
    rw [e2]
    exact e
end
theorem GraphParts : arboristlaw08_GraphParts.Pure := by
  intro a l _ _
  obtain ⟨n, f, hn, hf, hm⟩ := made_ev a l
  obtain ⟨r, hr⟩ := RB.ex f
  have h0 := gp_l0 n hn f r hf hr n 0 (by omega)
  have hz : (rowI n fun k => if k < 0 then (-1 : Int) else 0) = List.replicate n 0 := by
    unfold rowI
    apply List.ext_getElem
    · simp
    · intro j h1 h2; simp
  rw [hz] at h0
  refine (evu5 shown_08 hm (graph_ev n (by omega) f) (parts_ev n (by omega) f r hf hr) h0 (fun k e1 e2 e3 e4 e5 => ?_)).rounds
  simp only [arboristlaw08_GraphParts.f]
  rw [e1, Option.bind_some, e2, Option.bind_some, e3, Option.bind_some, e4, Option.bind_some, mat_len, if_pos (by omega), if_pos (by omega), Int.toNat_natCast]
  exact e5
end Go.Proofs.YtaodbohfhelokaaDoor.Pure
