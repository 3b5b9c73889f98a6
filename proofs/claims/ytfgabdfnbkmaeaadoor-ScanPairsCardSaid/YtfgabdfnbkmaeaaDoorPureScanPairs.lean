/- ScanPairs: tokens of two texts, with a line end between, are those of the one, and those of the other one behind. -/
-- merge
import Derived.Test.YtfgabdfnbkmaeaaDoorPr0
import Derived.Test.YtfgabdfnbkmaeaaDoorPr10
import Derived.Test.YtfgabdfnbkmaeaaDoorPr11
import Derived.Test.YtfgabdfnbkmaeaaDoorPr12
import Derived.Test.YtfgabdfnbkmaeaaDoorPr21
import Derived.Test.YtfgabdfnbkmaeaaDoorPr3
import Derived.Test.YtfgabdfnbkmaeaaDoorPr4
import Derived.Test.YtfgabdfnbkmaeaaDoorPr5
import Derived.Test.YtfgabdfnbkmaeaaDoorPr9
namespace Go.Proofs.YtfgabdfnbkmaeaaDoor.Pr
open Go.RowKit Go.Proofs.YtfgabdfnbkmaeaaDoorW.PrintWords Go.Proofs.YtfgabdfnbkmaeaaDoorW.PrintLast
theorem evs0 {ρ : Type} {F : Nat → Option ρ} {r : ρ} (H : ∀ k, F (k + 1) = some r) : Ev F r := ⟨1, fun k hk => by obtain ⟨m, rfl⟩ : ∃ m, k = m + 1 := ⟨k - 1, by omega⟩; exact H m⟩
theorem evu0 {ρ : Type} {F : Nat → Option ρ} {r : ρ} (H : ∀ k, F k = some r) : Ev F r := ⟨0, fun k _ => H k⟩
theorem evu1 {ρ : Type} {F : Nat → Option ρ} {r : ρ} {α1 : Type} {g1 : Nat → Option α1} {a1 : α1} (h1 : Ev g1 a1) (H : ∀ k, g1 k = some a1 → F k = some r) : Ev F r := by
  obtain ⟨K1, e1⟩ := h1
  exact ⟨K1, fun k hk => H k (e1 _ (by omega))⟩
theorem evs1 {ρ : Type} {F : Nat → Option ρ} {r : ρ} {α1 : Type} {g1 : Nat → Option α1} {a1 : α1} (h1 : Ev g1 a1) (H : ∀ k, g1 k = some a1 → F (k + 1) = some r) : Ev F r := by
  obtain ⟨K1, e1⟩ := h1
  refine ⟨K1 + 1, fun k hk => ?_⟩
  obtain ⟨m, rfl⟩ : ∃ m, k = m + 1 := ⟨k - 1, by omega⟩
  exact H m (e1 _ (by omega))
theorem evu2 {ρ : Type} {F : Nat → Option ρ} {r : ρ} {α1 : Type} {g1 : Nat → Option α1} {a1 : α1} {α2 : Type} {g2 : Nat → Option α2} {a2 : α2} (h1 : Ev g1 a1) (h2 : Ev g2 a2) (H : ∀ k, g1 k = some a1 → g2 k = some a2 → F k = some r) : Ev F r := by
  obtain ⟨K1, e1⟩ := h1; obtain ⟨K2, e2⟩ := h2
  exact ⟨K1 + K2, fun k hk => H k (e1 _ (by omega)) (e2 _ (by omega))⟩
theorem evs2 {ρ : Type} {F : Nat → Option ρ} {r : ρ} {α1 : Type} {g1 : Nat → Option α1} {a1 : α1} {α2 : Type} {g2 : Nat → Option α2} {a2 : α2} (h1 : Ev g1 a1) (h2 : Ev g2 a2) (H : ∀ k, g1 k = some a1 → g2 k = some a2 → F (k + 1) = some r) : Ev F r := by
  obtain ⟨K1, e1⟩ := h1; obtain ⟨K2, e2⟩ := h2
  refine ⟨K1 + K2 + 1, fun k hk => ?_⟩
  obtain ⟨m, rfl⟩ : ∃ m, k = m + 1 := ⟨k - 1, by omega⟩
  exact H m (e1 _ (by omega)) (e2 _ (by omega))
theorem evu3 {ρ : Type} {F : Nat → Option ρ} {r : ρ} {α1 : Type} {g1 : Nat → Option α1} {a1 : α1} {α2 : Type} {g2 : Nat → Option α2} {a2 : α2} {α3 : Type} {g3 : Nat → Option α3} {a3 : α3} (h1 : Ev g1 a1) (h2 : Ev g2 a2) (h3 : Ev g3 a3) (H : ∀ k, g1 k = some a1 → g2 k = some a2 → g3 k = some a3 → F k = some r) : Ev F r := by
  obtain ⟨K1, e1⟩ := h1; obtain ⟨K2, e2⟩ := h2; obtain ⟨K3, e3⟩ := h3
  exact ⟨K1 + K2 + K3, fun k hk => H k (e1 _ (by omega)) (e2 _ (by omega)) (e3 _ (by omega))⟩
theorem evs3 {ρ : Type} {F : Nat → Option ρ} {r : ρ} {α1 : Type} {g1 : Nat → Option α1} {a1 : α1} {α2 : Type} {g2 : Nat → Option α2} {a2 : α2} {α3 : Type} {g3 : Nat → Option α3} {a3 : α3} (h1 : Ev g1 a1) (h2 : Ev g2 a2) (h3 : Ev g3 a3) (H : ∀ k, g1 k = some a1 → g2 k = some a2 → g3 k = some a3 → F (k + 1) = some r) : Ev F r := by
  obtain ⟨K1, e1⟩ := h1; obtain ⟨K2, e2⟩ := h2; obtain ⟨K3, e3⟩ := h3
  refine ⟨K1 + K2 + K3 + 1, fun k hk => ?_⟩
  obtain ⟨m, rfl⟩ : ∃ m, k = m + 1 := ⟨k - 1, by omega⟩
  exact H m (e1 _ (by omega)) (e2 _ (by omega)) (e3 _ (by omega))
theorem evu4 {ρ : Type} {F : Nat → Option ρ} {r : ρ} {α1 : Type} {g1 : Nat → Option α1} {a1 : α1} {α2 : Type} {g2 : Nat → Option α2} {a2 : α2} {α3 : Type} {g3 : Nat → Option α3} {a3 : α3} {α4 : Type} {g4 : Nat → Option α4} {a4 : α4} (h1 : Ev g1 a1) (h2 : Ev g2 a2) (h3 : Ev g3 a3) (h4 : Ev g4 a4) (H : ∀ k, g1 k = some a1 → g2 k = some a2 → g3 k = some a3 → g4 k = some a4 → F k = some r) : Ev F r := by
  obtain ⟨K1, e1⟩ := h1; obtain ⟨K2, e2⟩ := h2; obtain ⟨K3, e3⟩ := h3; obtain ⟨K4, e4⟩ := h4
  exact ⟨K1 + K2 + K3 + K4, fun k hk => H k (e1 _ (by omega)) (e2 _ (by omega)) (e3 _ (by omega)) (e4 _ (by omega))⟩
theorem evs4 {ρ : Type} {F : Nat → Option ρ} {r : ρ} {α1 : Type} {g1 : Nat → Option α1} {a1 : α1} {α2 : Type} {g2 : Nat → Option α2} {a2 : α2} {α3 : Type} {g3 : Nat → Option α3} {a3 : α3} {α4 : Type} {g4 : Nat → Option α4} {a4 : α4} (h1 : Ev g1 a1) (h2 : Ev g2 a2) (h3 : Ev g3 a3) (h4 : Ev g4 a4) (H : ∀ k, g1 k = some a1 → g2 k = some a2 → g3 k = some a3 → g4 k = some a4 → F (k + 1) = some r) : Ev F r := by
  obtain ⟨K1, e1⟩ := h1; obtain ⟨K2, e2⟩ := h2; obtain ⟨K3, e3⟩ := h3; obtain ⟨K4, e4⟩ := h4
  refine ⟨K1 + K2 + K3 + K4 + 1, fun k hk => ?_⟩
  obtain ⟨m, rfl⟩ : ∃ m, k = m + 1 := ⟨k - 1, by omega⟩
  exact H m (e1 _ (by omega)) (e2 _ (by omega)) (e3 _ (by omega)) (e4 _ (by omega))
theorem evu5 {ρ : Type} {F : Nat → Option ρ} {r : ρ} {α1 : Type} {g1 : Nat → Option α1} {a1 : α1} {α2 : Type} {g2 : Nat → Option α2} {a2 : α2} {α3 : Type} {g3 : Nat → Option α3} {a3 : α3} {α4 : Type} {g4 : Nat → Option α4} {a4 : α4} {α5 : Type} {g5 : Nat → Option α5} {a5 : α5} (h1 : Ev g1 a1) (h2 : Ev g2 a2) (h3 : Ev g3 a3) (h4 : Ev g4 a4) (h5 : Ev g5 a5) (H : ∀ k, g1 k = some a1 → g2 k = some a2 → g3 k = some a3 → g4 k = some a4 → g5 k = some a5 → F k = some r) : Ev F r := by
  obtain ⟨K1, e1⟩ := h1; obtain ⟨K2, e2⟩ := h2; obtain ⟨K3, e3⟩ := h3; obtain ⟨K4, e4⟩ := h4; obtain ⟨K5, e5⟩ := h5
  exact ⟨K1 + K2 + K3 + K4 + K5, fun k hk => H k (e1 _ (by omega)) (e2 _ (by omega)) (e3 _ (by omega)) (e4 _ (by omega)) (e5 _ (by omega))⟩
theorem evs5 {ρ : Type} {F : Nat → Option ρ} {r : ρ} {α1 : Type} {g1 : Nat → Option α1} {a1 : α1} {α2 : Type} {g2 : Nat → Option α2} {a2 : α2} {α3 : Type} {g3 : Nat → Option α3} {a3 : α3} {α4 : Type} {g4 : Nat → Option α4} {a4 : α4} {α5 : Type} {g5 : Nat → Option α5} {a5 : α5} (h1 : Ev g1 a1) (h2 : Ev g2 a2) (h3 : Ev g3 a3) (h4 : Ev g4 a4) (h5 : Ev g5 a5) (H : ∀ k, g1 k = some a1 → g2 k = some a2 → g3 k = some a3 → g4 k = some a4 → g5 k = some a5 → F (k + 1) = some r) : Ev F r := by
  obtain ⟨K1, e1⟩ := h1; obtain ⟨K2, e2⟩ := h2; obtain ⟨K3, e3⟩ := h3; obtain ⟨K4, e4⟩ := h4; obtain ⟨K5, e5⟩ := h5
  refine ⟨K1 + K2 + K3 + K4 + K5 + 1, fun k hk => ?_⟩
  obtain ⟨m, rfl⟩ : ∃ m, k = m + 1 := ⟨k - 1, by omega⟩
  exact H m (e1 _ (by omega)) (e2 _ (by omega)) (e3 _ (by omega)) (e4 _ (by omega)) (e5 _ (by omega))
theorem evu6 {ρ : Type} {F : Nat → Option ρ} {r : ρ} {α1 : Type} {g1 : Nat → Option α1} {a1 : α1} {α2 : Type} {g2 : Nat → Option α2} {a2 : α2} {α3 : Type} {g3 : Nat → Option α3} {a3 : α3} {α4 : Type} {g4 : Nat → Option α4} {a4 : α4} {α5 : Type} {g5 : Nat → Option α5} {a5 : α5} {α6 : Type} {g6 : Nat → Option α6} {a6 : α6} (h1 : Ev g1 a1) (h2 : Ev g2 a2) (h3 : Ev g3 a3) (h4 : Ev g4 a4) (h5 : Ev g5 a5) (h6 : Ev g6 a6) (H : ∀ k, g1 k = some a1 → g2 k = some a2 → g3 k = some a3 → g4 k = some a4 → g5 k = some a5 → g6 k = some a6 → F k = some r) : Ev F r := by
  obtain ⟨K1, e1⟩ := h1; obtain ⟨K2, e2⟩ := h2; obtain ⟨K3, e3⟩ := h3; obtain ⟨K4, e4⟩ := h4; obtain ⟨K5, e5⟩ := h5; obtain ⟨K6, e6⟩ := h6
  exact ⟨K1 + K2 + K3 + K4 + K5 + K6, fun k hk => H k (e1 _ (by omega)) (e2 _ (by omega)) (e3 _ (by omega)) (e4 _ (by omega)) (e5 _ (by omega)) (e6 _ (by omega))⟩
theorem evs6 {ρ : Type} {F : Nat → Option ρ} {r : ρ} {α1 : Type} {g1 : Nat → Option α1} {a1 : α1} {α2 : Type} {g2 : Nat → Option α2} {a2 : α2} {α3 : Type} {g3 : Nat → Option α3} {a3 : α3} {α4 : Type} {g4 : Nat → Option α4} {a4 : α4} {α5 : Type} {g5 : Nat → Option α5} {a5 : α5} {α6 : Type} {g6 : Nat → Option α6} {a6 : α6} (h1 : Ev g1 a1) (h2 : Ev g2 a2) (h3 : Ev g3 a3) (h4 : Ev g4 a4) (h5 : Ev g5 a5) (h6 : Ev g6 a6) (H : ∀ k, g1 k = some a1 → g2 k = some a2 → g3 k = some a3 → g4 k = some a4 → g5 k = some a5 → g6 k = some a6 → F (k + 1) = some r) : Ev F r := by
  obtain ⟨K1, e1⟩ := h1; obtain ⟨K2, e2⟩ := h2; obtain ⟨K3, e3⟩ := h3; obtain ⟨K4, e4⟩ := h4; obtain ⟨K5, e5⟩ := h5; obtain ⟨K6, e6⟩ := h6
  refine ⟨K1 + K2 + K3 + K4 + K5 + K6 + 1, fun k hk => ?_⟩
  obtain ⟨m, rfl⟩ : ∃ m, k = m + 1 := ⟨k - 1, by omega⟩
  exact H m (e1 _ (by omega)) (e2 _ (by omega)) (e3 _ (by omega)) (e4 _ (by omega)) (e5 _ (by omega)) (e6 _ (by omega))
theorem evu7 {ρ : Type} {F : Nat → Option ρ} {r : ρ} {α1 : Type} {g1 : Nat → Option α1} {a1 : α1} {α2 : Type} {g2 : Nat → Option α2} {a2 : α2} {α3 : Type} {g3 : Nat → Option α3} {a3 : α3} {α4 : Type} {g4 : Nat → Option α4} {a4 : α4} {α5 : Type} {g5 : Nat → Option α5} {a5 : α5} {α6 : Type} {g6 : Nat → Option α6} {a6 : α6} {α7 : Type} {g7 : Nat → Option α7} {a7 : α7} (h1 : Ev g1 a1) (h2 : Ev g2 a2) (h3 : Ev g3 a3) (h4 : Ev g4 a4) (h5 : Ev g5 a5) (h6 : Ev g6 a6) (h7 : Ev g7 a7) (H : ∀ k, g1 k = some a1 → g2 k = some a2 → g3 k = some a3 → g4 k = some a4 → g5 k = some a5 → g6 k = some a6 → g7 k = some a7 → F k = some r) : Ev F r := by
  obtain ⟨K1, e1⟩ := h1; obtain ⟨K2, e2⟩ := h2; obtain ⟨K3, e3⟩ := h3; obtain ⟨K4, e4⟩ := h4; obtain ⟨K5, e5⟩ := h5; obtain ⟨K6, e6⟩ := h6; obtain ⟨K7, e7⟩ := h7
  exact ⟨K1 + K2 + K3 + K4 + K5 + K6 + K7, fun k hk => H k (e1 _ (by omega)) (e2 _ (by omega)) (e3 _ (by omega)) (e4 _ (by omega)) (e5 _ (by omega)) (e6 _ (by omega)) (e7 _ (by omega))⟩
theorem evs7 {ρ : Type} {F : Nat → Option ρ} {r : ρ} {α1 : Type} {g1 : Nat → Option α1} {a1 : α1} {α2 : Type} {g2 : Nat → Option α2} {a2 : α2} {α3 : Type} {g3 : Nat → Option α3} {a3 : α3} {α4 : Type} {g4 : Nat → Option α4} {a4 : α4} {α5 : Type} {g5 : Nat → Option α5} {a5 : α5} {α6 : Type} {g6 : Nat → Option α6} {a6 : α6} {α7 : Type} {g7 : Nat → Option α7} {a7 : α7} (h1 : Ev g1 a1) (h2 : Ev g2 a2) (h3 : Ev g3 a3) (h4 : Ev g4 a4) (h5 : Ev g5 a5) (h6 : Ev g6 a6) (h7 : Ev g7 a7) (H : ∀ k, g1 k = some a1 → g2 k = some a2 → g3 k = some a3 → g4 k = some a4 → g5 k = some a5 → g6 k = some a6 → g7 k = some a7 → F (k + 1) = some r) : Ev F r := by
  obtain ⟨K1, e1⟩ := h1; obtain ⟨K2, e2⟩ := h2; obtain ⟨K3, e3⟩ := h3; obtain ⟨K4, e4⟩ := h4; obtain ⟨K5, e5⟩ := h5; obtain ⟨K6, e6⟩ := h6; obtain ⟨K7, e7⟩ := h7
  refine ⟨K1 + K2 + K3 + K4 + K5 + K6 + K7 + 1, fun k hk => ?_⟩
  obtain ⟨m, rfl⟩ : ∃ m, k = m + 1 := ⟨k - 1, by omega⟩
  exact H m (e1 _ (by omega)) (e2 _ (by omega)) (e3 _ (by omega)) (e4 _ (by omega)) (e5 _ (by omega)) (e6 _ (by omega)) (e7 _ (by omega))
theorem evu8 {ρ : Type} {F : Nat → Option ρ} {r : ρ} {α1 : Type} {g1 : Nat → Option α1} {a1 : α1} {α2 : Type} {g2 : Nat → Option α2} {a2 : α2} {α3 : Type} {g3 : Nat → Option α3} {a3 : α3} {α4 : Type} {g4 : Nat → Option α4} {a4 : α4} {α5 : Type} {g5 : Nat → Option α5} {a5 : α5} {α6 : Type} {g6 : Nat → Option α6} {a6 : α6} {α7 : Type} {g7 : Nat → Option α7} {a7 : α7} {α8 : Type} {g8 : Nat → Option α8} {a8 : α8} (h1 : Ev g1 a1) (h2 : Ev g2 a2) (h3 : Ev g3 a3) (h4 : Ev g4 a4) (h5 : Ev g5 a5) (h6 : Ev g6 a6) (h7 : Ev g7 a7) (h8 : Ev g8 a8) (H : ∀ k, g1 k = some a1 → g2 k = some a2 → g3 k = some a3 → g4 k = some a4 → g5 k = some a5 → g6 k = some a6 → g7 k = some a7 → g8 k = some a8 → F k = some r) : Ev F r := by
  obtain ⟨K1, e1⟩ := h1; obtain ⟨K2, e2⟩ := h2; obtain ⟨K3, e3⟩ := h3; obtain ⟨K4, e4⟩ := h4; obtain ⟨K5, e5⟩ := h5; obtain ⟨K6, e6⟩ := h6; obtain ⟨K7, e7⟩ := h7; obtain ⟨K8, e8⟩ := h8
  exact ⟨K1 + K2 + K3 + K4 + K5 + K6 + K7 + K8, fun k hk => H k (e1 _ (by omega)) (e2 _ (by omega)) (e3 _ (by omega)) (e4 _ (by omega)) (e5 _ (by omega)) (e6 _ (by omega)) (e7 _ (by omega)) (e8 _ (by omega))⟩
theorem evs8 {ρ : Type} {F : Nat → Option ρ} {r : ρ} {α1 : Type} {g1 : Nat → Option α1} {a1 : α1} {α2 : Type} {g2 : Nat → Option α2} {a2 : α2} {α3 : Type} {g3 : Nat → Option α3} {a3 : α3} {α4 : Type} {g4 : Nat → Option α4} {a4 : α4} {α5 : Type} {g5 : Nat → Option α5} {a5 : α5} {α6 : Type} {g6 : Nat → Option α6} {a6 : α6} {α7 : Type} {g7 : Nat → Option α7} {a7 : α7} {α8 : Type} {g8 : Nat → Option α8} {a8 : α8} (h1 : Ev g1 a1) (h2 : Ev g2 a2) (h3 : Ev g3 a3) (h4 : Ev g4 a4) (h5 : Ev g5 a5) (h6 : Ev g6 a6) (h7 : Ev g7 a7) (h8 : Ev g8 a8) (H : ∀ k, g1 k = some a1 → g2 k = some a2 → g3 k = some a3 → g4 k = some a4 → g5 k = some a5 → g6 k = some a6 → g7 k = some a7 → g8 k = some a8 → F (k + 1) = some r) : Ev F r := by
  obtain ⟨K1, e1⟩ := h1; obtain ⟨K2, e2⟩ := h2; obtain ⟨K3, e3⟩ := h3; obtain ⟨K4, e4⟩ := h4; obtain ⟨K5, e5⟩ := h5; obtain ⟨K6, e6⟩ := h6; obtain ⟨K7, e7⟩ := h7; obtain ⟨K8, e8⟩ := h8
  refine ⟨K1 + K2 + K3 + K4 + K5 + K6 + K7 + K8 + 1, fun k hk => ?_⟩
  obtain ⟨m, rfl⟩ : ∃ m, k = m + 1 := ⟨k - 1, by omega⟩
  exact H m (e1 _ (by omega)) (e2 _ (by omega)) (e3 _ (by omega)) (e4 _ (by omega)) (e5 _ (by omega)) (e6 _ (by omega)) (e7 _ (by omega)) (e8 _ (by omega))
end Go.Proofs.YtfgabdfnbkmaeaaDoor.Pr

set_option linter.unusedVariables false
set_option linter.unusedSimpArgs false
namespace Go.Proofs.YtfgabdfnbkmaeaaDoor.Pr
open Go Go.RowKit Go.Proofs.YtfgabdfnbkmaeaaDoorW.PrintWords Go.Proofs.YtfgabdfnbkmaeaaDoorW.PrintLast Go.Proofs.YtfgabdfnbkmaeaaDoorW.PrintMore

abbrev Tok := S32
def B (l : List UInt8) : ByteArray := ⟨l.toArray⟩
theorem B_list (l : List UInt8) : (B l).data.toList = l := by simp [B]
theorem B_size (l : List UInt8) : (B l).size = l.length := by rw [Lib.size_eq, B_list]
theorem B_of (s : ByteArray) : B s.data.toList = s := by cases s; simp [B]
theorem B_eq {s : ByteArray} {l : List UInt8} (h : s.data.toList = l) : s = B l := by rw [← h, B_of]
theorem B_inj {a b : List UInt8} (h : B a = B b) : a = b := by rw [← B_list a, h, B_list]
theorem B_ext (s : ByteArray) (a b : Nat) : s.extract a b = B ((s.data.toList.drop a).take (b - a)) := B_eq (Lib.extract_data s a b)
theorem B_end (s : ByteArray) (a : Nat) : s.extract a s.size = B (s.data.toList.drop a) := B_eq (by rw [Lib.extract_data, List.take_of_length_le]; rw [List.length_drop, ← Lib.size_eq]; exact Nat.le_refl _)
def hd : List UInt8 → Int | [] => 0 | c :: _ => (c.toNat : Int)
theorem hd_cons (c : UInt8) (l : List UInt8) : hd (c :: l) = (c.toNat : Int) := rfl
theorem bt_B (l : List UInt8) (k : Nat) (h : k < l.length) : bt (B l) (k : Int) = hd (l.drop k) := by
  rw [bt_nat _ k (by rw [B_size]; exact h), List.drop_eq_getElem_cons h]
  rfl
theorem bt_hd (c : UInt8) (l : List UInt8) : bt (B (c :: l)) 0 = (c.toNat : Int) := by
  have := bt_B (c :: l) 0 (by simp)
  simpa [hd] using this
theorem hd_app (l m : List UInt8) (h : l ≠ []) : hd (l ++ m) = hd l := by
  cases l with
  | nil => exact absurd rfl h
  | cons c l => rfl
theorem runL_app (p : Int → Bool) (c : UInt8) (m : List UInt8) (hc : p (c.toNat : Int) = false) : ∀ l, runL p (l ++ c :: m) = runL p l
  | [] => by rw [List.nil_append]; show (if p (c.toNat : Int) = true then _ else 0) = 0; rw [if_neg (by rw [hc]; decide)]
  | x :: l => by
    rw [List.cons_append]
    show (if p (x.toNat : Int) = true then runL p (l ++ c :: m) + 1 else 0) = if p (x.toNat : Int) = true then runL p l + 1 else 0
    rw [runL_app p c m hc l]
theorem take_app (l m : List UInt8) (n : Nat) (h : n ≤ l.length) : (l ++ m).take n = l.take n := List.take_append_of_le_length h

/-- how many bytes are left out -/
def leftK : List UInt8 → Nat
  | [] => 0
  | c :: l => if blankB (c.toNat : Int) = true then 1 else if (c.toNat : Int) = 35 then runL (fun c => c != 10) (c :: l) else 0
theorem leftK_cons (c : UInt8) (l : List UInt8) : leftK (c :: l) = if blankB (c.toNat : Int) = true then 1 else if (c.toNat : Int) = 35 then runL (fun c => c != 10) (c :: l) else 0 := rfl
theorem leftN_B (l : List UInt8) (h : l ≠ []) : leftN (B l) = leftK l := by
  cases l with
  | nil => exact absurd rfl h
  | cons c l => rw [leftK_cons]; unfold leftN; rw [bt_hd, B_list]
theorem leftK_le : ∀ l, leftK l ≤ l.length
  | [] => Nat.le_refl _
  | c :: l => by
    have := runL_le (fun c => c != 10) (c :: l)
    rw [leftK_cons]
    simp only [List.length_cons] at this ⊢
    split
    · omega
    · split <;> omega
theorem leftK_app (l m : List UInt8) (h : l ≠ []) : leftK (l ++ 10 :: m) = leftK l := by
  cases l with
  | nil => exact absurd rfl h
  | cons c l =>
    have := runL_app (fun c => c != 10) 10 m (by decide) (c :: l)
    rw [List.cons_append] at this ⊢
    rw [leftK_cons, leftK_cons, this]

/-- what digits spell -/
@[irreducible] def stepK (a : Nat) (c : UInt8) : Nat := a * 10 + (c.toNat - 48)
theorem stepK_eq (a : Nat) (c : UInt8) : stepK a c = a * 10 + (c.toNat - 48) := by unfold stepK; rfl
def valK : Nat → List UInt8 → Nat
  | a, [] => a
  | a, c :: l => valK (stepK a c) l
theorem valK_nil (a : Nat) : valK a [] = a := rfl
theorem valK_cons (a : Nat) (c : UInt8) (l : List UInt8) : valK a (c :: l) = valK (a * 10 + (c.toNat - 48)) l := (show valK a (c :: l) = valK (stepK a c) l from rfl).trans (by rw [stepK_eq])
theorem valK_le : ∀ (l : List UInt8) (a : Nat), a ≤ valK a l
  | [], a => by rw [valK_nil]; exact Nat.le_refl a
  | c :: l, a => by
    have h := valK_le l (a * 10 + (c.toNat - 48))
    rw [valK_cons]
    omega
theorem valK_app : ∀ (a : Nat) (l m : List UInt8), valK a (l ++ m) = valK (valK a l) m
  | a, [], m => by rw [List.nil_append, valK_nil]
  | a, c :: l, m => by rw [List.cons_append, valK_cons, valK_cons, valK_app _ l m]
def Digs (l : List UInt8) : Prop := ∀ c ∈ l, 48 ≤ c.toNat ∧ c.toNat ≤ 57
theorem um_val (M : Nat) (hM : M < 18446744073709551620) : ∀ (l : List UInt8) (a : Nat), Digs l → a ≤ M → Lib.parseUintM M a l = if valK a l ≤ M then .ok (valK a l) else .range
  | [], a, h, ha => by
    have e : valK a [] = a := valK_nil a
    rw [Lib.parseUintM, e, if_pos ha]
  | c :: r, a, h, ha => by
    have hc := h c (by simp)
    have hl := valK_le r (a * 10 + (c.toNat - 48))
    rw [Lib.parseUintM, if_pos hc, valK_cons]
    by_cases c1 : 1844674407370955162 ≤ a
    · rw [if_pos c1, if_neg (by omega)]
    · rw [if_neg c1]
      by_cases c2 : M < a * 10 + (c.toNat - 48)
      · rw [if_pos c2, if_neg (by omega)]
      · rw [if_neg c2]
        exact um_val M hM r _ (fun x hx => h x (by simp [hx])) (by omega)
theorem ub_val (l : List UInt8) (hl : l ≠ []) (h : Digs l) : Lib.parseUintB 64 l = if valK 0 l ≤ 2 ^ 64 - 1 then .ok (valK 0 l) else .range := by
  unfold Lib.parseUintB
  rw [if_neg hl]
  have := um_val (2 ^ 64 - 1) (by decide) l 0 h (Nat.zero_le _)
  rw [this]
/-- a number by its digits and its sign: (it, size, fault) -/
def valS (mi : Nat) (v z : Nat) : Int × Int × Int := if 1000000000000 < v then (0, 0, 4) else ((if mi = 1 then -(v : Int) else (v : Int)), (z : Int), 0)
def numD (mi : Nat) (d : List UInt8) : Int × Int × Int :=
  if runL digP d = 0 then (0, 0, 2)
  else if hd d = 48 ∧ 1 < runL digP d + mi then (0, 0, 2)
  else valS mi (valK 0 (d.take (runL digP d))) (mi + runL digP d)
def numK : List UInt8 → Int × Int × Int
  | [] => (0, 0, 2)
  | c :: l => if c.toNat = 45 then numD 1 l else numD 0 (c :: l)
theorem runL_digs (d : List UInt8) : Digs (d.take (runL digP d)) := fun c hc => by
  have h := runL_take digP _ c hc
  unfold digP at h
  rw [Bool.and_eq_true, decide_eq_true_iff, decide_eq_true_iff] at h
  omega
theorem numV_pos (s : ByteArray) (z : Nat) (ds : List UInt8) (hne : ds ≠ []) (hd_ : Digs ds) (hs : (s.extract 0 z).data.toList = ds) : numV s z = valS 0 (valK 0 ds) z := by
  unfold numV valS
  rw [hs]
  cases ds with
  | nil => exact absurd rfl hne
  | cons c r =>
    have hc := hd_ c (by simp)
    have h45 : ¬ c.toNat = 45 := by omega
    have hub := ub_val _ hne hd_
    obtain ⟨v, hv⟩ : ∃ v, v = valK 0 (c :: r) := ⟨_, rfl⟩
    rw [← hv] at hub ⊢
    have hp : Lib.parseIntB 64 (c :: r) = if 9223372036854775808 ≤ v then .range else .ok (v : Int) := by
      unfold Lib.parseIntB
      dsimp only
      rw [if_neg (by omega), hub]
      by_cases c1 : v ≤ 2 ^ 64 - 1
      · rw [if_pos c1]
        dsimp only
        by_cases c2 : 9223372036854775808 ≤ v
        · rw [if_pos ⟨h45, c2⟩, if_pos c2]
        · rw [if_neg (fun h => c2 h.2), if_neg (fun h => h45 h.1), if_neg h45, if_neg c2]
      · rw [if_neg c1, if_pos (by omega)]
    rw [hp]
    by_cases c2 : 9223372036854775808 ≤ v
    · rw [if_pos c2, if_pos (by omega)]
    · rw [if_neg c2]
      dsimp only
      by_cases c3 : 1000000000000 < v
      · rw [if_pos (by omega), if_pos c3]
      · rw [if_neg (by omega), if_neg (by omega), if_neg c3, if_neg (by decide)]
theorem numV_neg (s : ByteArray) (z : Nat) (ds : List UInt8) (hne : ds ≠ []) (hd_ : Digs ds) (hs : (s.extract 0 z).data.toList = 45 :: ds) : numV s z = valS 1 (valK 0 ds) z := by
  unfold numV valS
  rw [hs]
  have hub := ub_val _ hne hd_
  obtain ⟨v, hv⟩ : ∃ v, v = valK 0 ds := ⟨_, rfl⟩
  rw [← hv] at hub ⊢
  have h45 : (45 : UInt8).toNat = 45 := rfl
  have hp : Lib.parseIntB 64 (45 :: ds) = if 9223372036854775808 < v then .range else .ok (-(v : Int)) := by
    unfold Lib.parseIntB
    dsimp only
    rw [if_pos (by decide), hub]
    by_cases c1 : v ≤ 2 ^ 64 - 1
    · rw [if_pos c1]
      dsimp only
      by_cases c2 : 9223372036854775808 < v
      · rw [if_neg (fun h => h.1 h45), if_pos ⟨h45, c2⟩, if_pos c2]
      · rw [if_neg (fun h => h.1 h45), if_neg (fun h => c2 h.2), if_pos h45, if_neg c2]
    · rw [if_neg c1, if_pos (by omega)]
  rw [hp]
  by_cases c2 : 9223372036854775808 < v
  · rw [if_pos c2, if_pos (by omega)]
  · rw [if_neg c2]
    dsimp only
    by_cases c3 : 1000000000000 < v
    · rw [if_neg (by omega), if_pos (by omega), if_pos c3]
    · rw [if_neg (by omega), if_neg (by omega), if_neg c3, if_pos rfl]
theorem trimB_B (l : List UInt8) : trimB (B l) = B (match l with | [] => [] | c :: r => if c.toNat = 45 then r else c :: r) := by
  apply B_eq
  show (Lib.trimPrefix (B l).data.toList [45]) = _
  rw [B_list]
  unfold Lib.trimPrefix Lib.hasPrefix
  cases l with
  | nil => rfl
  | cons c r =>
    by_cases hc : c.toNat = 45
    · have : c = 45 := by rw [← UInt8.toNat_inj]; exact hc
      subst this
      rfl
    · have h2 : ((45 : UInt8) == c) = false := by
        apply beq_false_of_ne
        intro e
        exact hc (by rw [← e]; rfl)
      dsimp only
      rw [if_neg hc]
      simp [List.isPrefixOf, h2]
theorem numK_cons (c : UInt8) (l : List UInt8) : numK (c :: l) = if c.toNat = 45 then numD 1 l else numD 0 (c :: l) := rfl
theorem numS_B (l : List UInt8) : numS (B l) = numK l := by
  have ht := trimB_B l
  unfold numS
  cases l with
  | nil =>
    dsimp only at ht
    rw [ht, B_list, if_pos (by rfl)]
    rfl
  | cons c r =>
    rw [numK_cons]
    dsimp only at ht
    by_cases hc : c.toNat = 45
    · rw [if_pos hc] at ht
      rw [ht, if_pos hc, B_list, B_size, B_size]
      unfold numD
      by_cases h0 : runL digP r = 0
      · rw [if_pos h0, if_pos h0]
      · rw [if_neg h0, if_neg h0]
        cases r with
        | nil => exact absurd rfl h0
        | cons x r =>
          rw [bt_hd, hd_cons, show (c :: x :: r).length - (x :: r).length = 1 by simp only [List.length_cons]; omega]
          by_cases h1 : (x.toNat : Int) = 48 ∧ 1 < runL digP (x :: r) + 1
          · rw [if_pos h1, if_pos h1]
          · rw [if_neg h1, if_neg h1]
            have h45 : c = 45 := by rw [← UInt8.toNat_inj]; exact hc
            subst h45
            refine numV_neg _ _ _ (fun e => ?_) (runL_digs _) ?_
            · have e2 := congrArg List.length e
              have := runL_le digP (x :: r)
              rw [List.length_take] at e2
              simp only [List.length_nil] at e2
              omega
            · rw [Lib.extract_data, B_list, List.drop_zero, Nat.sub_zero, Nat.add_comm 1, List.take_succ_cons]
    · rw [if_neg hc] at ht
      rw [ht, if_neg hc, B_list, B_size, bt_hd, Nat.sub_self]
      unfold numD
      by_cases h0 : runL digP (c :: r) = 0
      · rw [if_pos h0, if_pos h0]
      · rw [if_neg h0, if_neg h0, hd_cons]
        by_cases h1 : (c.toNat : Int) = 48 ∧ 1 < runL digP (c :: r) + 0
        · rw [if_pos h1, if_pos h1]
        · rw [if_neg h1, if_neg h1]
          refine numV_pos _ _ _ (fun e => ?_) (runL_digs _) ?_
          · have e2 := congrArg List.length e
            have := runL_le digP (c :: r)
            rw [List.length_take] at e2
            simp only [List.length_nil] at e2
            omega
          · rw [Lib.extract_data, B_list, List.drop_zero, Nat.sub_zero, Nat.zero_add]
theorem numD_app (mi : Nat) (d m : List UInt8) : numD mi (d ++ 10 :: m) = numD mi d := by
  unfold numD
  rw [runL_app digP 10 m (by decide) d]
  by_cases h0 : runL digP d = 0
  · rw [if_pos h0, if_pos h0]
  · have hle := runL_le digP d
    have hne : d ≠ [] := fun e => h0 (by rw [e]; rfl)
    rw [if_neg h0, if_neg h0, hd_app d _ hne, take_app d _ _ hle]
theorem numK_app (l m : List UInt8) (h : l ≠ []) : numK (l ++ 10 :: m) = numK l := by
  cases l with
  | nil => exact absurd rfl h
  | cons c l =>
    have h1 := numD_app 1 l m
    have h0 := numD_app 0 (c :: l) m
    rw [List.cons_append] at h0 ⊢
    rw [numK_cons, numK_cons, h1, h0]

/-- the token that a text begins with: (kind, text, number), size, fault -/
def tokK : List UInt8 → (Int × ByteArray × Int) × Int × Int
  | [] => ((0, ⟨#[]⟩, 0), 0, 2)
  | c :: l =>
    if signB (c.toNat : Int) = true then ((3, B [c], 0), 1, 0)
    else if letP (c.toNat : Int) = true then ((1, B ((c :: l).take (runL letP (c :: l))), 0), ((runL letP (c :: l) : Nat) : Int), 0)
    else if digP (c.toNat : Int) = true ∨ (c.toNat : Int) = 45 then ((2, ⟨#[]⟩, (numK (c :: l)).1), (numK (c :: l)).2.1, (numK (c :: l)).2.2)
    else ((0, ⟨#[]⟩, 0), 0, 2)
theorem tokK_cons (c : UInt8) (l : List UInt8) : tokK (c :: l) = if signB (c.toNat : Int) = true then ((3, B [c], 0), 1, 0)
    else if letP (c.toNat : Int) = true then ((1, B ((c :: l).take (runL letP (c :: l))), 0), ((runL letP (c :: l) : Nat) : Int), 0)
    else if digP (c.toNat : Int) = true ∨ (c.toNat : Int) = 45 then ((2, ⟨#[]⟩, (numK (c :: l)).1), (numK (c :: l)).2.1, (numK (c :: l)).2.2)
    else ((0, ⟨#[]⟩, 0), 0, 2) := rfl
theorem tokS_B (l : List UInt8) (h : l ≠ []) : tokS (B l) = tokK l := by
  cases l with
  | nil => exact absurd rfl h
  | cons c l =>
    rw [tokK_cons]
    unfold tokS
    rw [bt_hd, numS_B, B_list, B_ext, B_ext, B_list]
    simp only [List.drop_zero, Nat.sub_zero]
    rfl
theorem tokK_size (l : List UInt8) (h : (tokK l).2.2 = 0) : 1 ≤ (tokK l).2.1 ∧ (tokK l).2.1 ≤ (l.length : Int) := by
  cases l with
  | nil => exact absurd h (by decide)
  | cons c l =>
    have := tokS_size (B (c :: l)) (by rw [B_size]; simp)
    rw [tokS_B _ (by simp), B_size] at this
    exact this h
theorem tokK_app (l m : List UInt8) (h : l ≠ []) : tokK (l ++ 10 :: m) = tokK l := by
  have hn := numK_app l m h
  have hr := runL_app letP 10 m (by decide) l
  have ht := take_app l (10 :: m) (runL letP l) (runL_le letP l)
  cases l with
  | nil => exact absurd rfl h
  | cons c l =>
    rw [List.cons_append] at hn hr ht ⊢
    rw [tokK_cons, tokK_cons, hn, hr, ht]
end Go.Proofs.YtfgabdfnbkmaeaaDoor.Pr

set_option linter.unusedVariables false
set_option linter.unusedSimpArgs false
namespace Go.Proofs.YtfgabdfnbkmaeaaDoor.Pr
open Go Go.RowKit Go.Proofs.YtfgabdfnbkmaeaaDoorW.PrintWords Go.Proofs.YtfgabdfnbkmaeaaDoorW.PrintLast Go.Proofs.YtfgabdfnbkmaeaaDoorW.PrintMore

def tokAt (l : List UInt8) (a : Nat) : Tok := ⟨(tokK l).1.1, (tokK l).1.2.1, (tokK l).1.2.2, (a : Int)⟩
/-- what stands in a text from a place on: tokens, or the fault's place and the fault -/
inductive Lex : List UInt8 → Nat → List Tok → Int → Int → Prop
  | nil (a : Nat) : Lex [] a [] 0 0
  | left (l : List UInt8) (a : Nat) (ts : List Tok) (p e : Int) (h0 : 0 < leftK l) (h : Lex (l.drop (leftK l)) (a + leftK l) ts p e) : Lex l a ts p e
  | tok (l : List UInt8) (a z : Nat) (ts : List Tok) (hl : l ≠ []) (h0 : leftK l = 0) (he : (tokK l).2.2 = 0) (hz : (tokK l).2.1 = (z : Int)) (h : Lex (l.drop z) (a + z) ts 0 0) : Lex l a (tokAt l a :: ts) 0 0
  | late (l : List UInt8) (a z : Nat) (p e : Int) (hl : l ≠ []) (h0 : leftK l = 0) (he : (tokK l).2.2 = 0) (hz : (tokK l).2.1 = (z : Int)) (hne : e ≠ 0) (h : Lex (l.drop z) (a + z) [] p e) : Lex l a [] p e
  | bad (l : List UInt8) (a : Nat) (hl : l ≠ []) (h0 : leftK l = 0) (he : (tokK l).2.2 ≠ 0) : Lex l a [] (a : Int) (tokK l).2.2
theorem leftK_ne {l : List UInt8} (h : 0 < leftK l) : l ≠ [] := fun e => by rw [e] at h; exact absurd h (by decide)
theorem len_pos {l : List UInt8} (h : l ≠ []) : 0 < l.length := List.length_pos_iff.2 h
theorem Lex.err {l : List UInt8} {a : Nat} {ts : List Tok} {p e : Int} (h : Lex l a ts p e) : e ≠ 0 → ts = [] := by
  induction h with
  | nil a => intro h; exact absurd rfl h
  | left l a ts p e h0 h ih => exact ih
  | tok => intro h; exact absurd rfl h
  | late => intro _; rfl
  | bad => intro _; rfl
theorem Lex.place {l : List UInt8} {a : Nat} {ts : List Tok} {p e : Int} (h : Lex l a ts p e) : (e ≠ 0 → (a : Int) ≤ p ∧ p < (a + l.length : Nat)) ∧ (e = 0 → p = 0) := by
  induction h with
  | nil a => exact ⟨fun h => absurd rfl h, fun _ => rfl⟩
  | left l a ts p e h0 h ih =>
    refine ⟨fun he => ?_, ih.2⟩
    have := ih.1 he
    have h1 := leftK_le l
    rw [List.length_drop] at this
    omega
  | tok => exact ⟨fun h => absurd rfl h, fun _ => rfl⟩
  | late l a z p e hl h0 he hz hne h ih =>
    refine ⟨fun _ => ?_, fun h => absurd h hne⟩
    have := ih.1 hne
    have h1 := tokK_size l he
    rw [List.length_drop] at this
    omega
  | bad l a hl h0 he =>
    refine ⟨fun _ => ?_, fun h => absurd h he⟩
    have := len_pos hl
    omega
theorem Lex.ex : ∀ (n : Nat) (l : List UInt8) (a : Nat), l.length ≤ n → ∃ ts p e, Lex l a ts p e
  | 0, l, a, h => by
    obtain rfl : l = [] := List.length_eq_zero_iff.1 (by omega)
    exact ⟨_, _, _, Lex.nil a⟩
  | n + 1, l, a, h => by
    by_cases hl : l = []
    · subst hl; exact ⟨_, _, _, Lex.nil a⟩
    · have hp := len_pos hl
      by_cases h0 : 0 < leftK l
      · obtain ⟨ts, p, e, hx⟩ := Lex.ex n (l.drop (leftK l)) (a + leftK l) (by rw [List.length_drop]; omega)
        exact ⟨ts, p, e, Lex.left l a ts p e h0 hx⟩
      · have h0' : leftK l = 0 := by omega
        by_cases he : (tokK l).2.2 = 0
        · obtain ⟨s1, s2⟩ := tokK_size l he
          obtain ⟨z, hz⟩ := Int.eq_ofNat_of_zero_le (show 0 ≤ (tokK l).2.1 by omega)
          obtain ⟨ts, p, e, hx⟩ := Lex.ex n (l.drop z) (a + z) (by rw [List.length_drop]; omega)
          by_cases e0 : e = 0
          · subst e0
            obtain rfl := hx.place.2 rfl
            exact ⟨_, _, _, Lex.tok l a z ts hl h0' he hz hx⟩
          · obtain rfl := hx.err e0
            exact ⟨_, _, _, Lex.late l a z p e hl h0' he hz e0 hx⟩
        · exact ⟨_, _, _, Lex.bad l a hl h0' he⟩
def endT (n : Nat) : Tok := ⟨4, ⟨#[]⟩, 0, (n : Int)⟩
def answer (acc ts : List Tok) (p e : Int) (n : Nat) : List Tok × Int × Int := if e = 0 then (acc ++ ts ++ [endT n], 0, 0) else ([], p, e)
theorem allL_lex {l : List UInt8} {a : Nat} {ts : List Tok} {p e : Int} (h : Lex l a ts p e) : ∀ (s : ByteArray) (k : Nat) (acc : List Tok), s.data.toList.drop a = l → s.size - a < k → allL k s acc a = answer acc ts p e s.size := by
  induction h with
  | nil a =>
    intro s k acc hs hk
    obtain ⟨k, rfl⟩ : ∃ m, k = m + 1 := ⟨k - 1, by omega⟩
    have hle : s.size ≤ a := by
      have := congrArg List.length hs
      rw [List.length_drop, ← Lib.size_eq] at this
      simp only [List.length_nil] at this
      omega
    rw [all_done hle]
    unfold answer
    rw [if_pos rfl, List.append_nil]
    rfl
  | left l a ts p e h0 h ih =>
    intro s k acc hs hk
    obtain ⟨k, rfl⟩ : ∃ m, k = m + 1 := ⟨k - 1, by omega⟩
    have hne := leftK_ne h0
    have hlen : l.length = s.size - a := by rw [← hs, List.length_drop, ← Lib.size_eq]
    have := len_pos hne
    rw [allL, if_neg (by omega), B_end, hs, leftN_B l hne, if_pos h0]
    refine ih s k acc ?_ (by omega)
    rw [← hs, List.drop_drop]
  | tok l a z ts hl h0 he hz h ih =>
    intro s k acc hs hk
    obtain ⟨k, rfl⟩ : ∃ m, k = m + 1 := ⟨k - 1, by omega⟩
    have hlen : l.length = s.size - a := by rw [← hs, List.length_drop, ← Lib.size_eq]
    have := len_pos hl
    obtain ⟨s1, s2⟩ := tokK_size l he
    rw [allL, if_neg (by omega), B_end, hs, leftN_B l hl, if_neg (by omega), tokS_B l hl, if_pos he, hz, Int.toNat_natCast]
    rw [ih s k _ (by rw [← hs, List.drop_drop]) (by omega)]
    unfold answer
    rw [if_pos rfl, if_pos rfl]
    simp [tokAt]
  | late l a z p e hl h0 he hz hne h ih =>
    intro s k acc hs hk
    obtain ⟨k, rfl⟩ : ∃ m, k = m + 1 := ⟨k - 1, by omega⟩
    have hlen : l.length = s.size - a := by rw [← hs, List.length_drop, ← Lib.size_eq]
    have := len_pos hl
    obtain ⟨s1, s2⟩ := tokK_size l he
    rw [allL, if_neg (by omega), B_end, hs, leftN_B l hl, if_neg (by omega), tokS_B l hl, if_pos he, hz, Int.toNat_natCast]
    rw [ih s k _ (by rw [← hs, List.drop_drop]) (by omega)]
    unfold answer
    rw [if_neg hne, if_neg hne]
  | bad l a hl h0 he =>
    intro s k acc hs hk
    obtain ⟨k, rfl⟩ : ∃ m, k = m + 1 := ⟨k - 1, by omega⟩
    have hlen : l.length = s.size - a := by rw [← hs, List.length_drop, ← Lib.size_eq]
    have := len_pos hl
    rw [allL, if_neg (by omega), B_end, hs, leftN_B l hl, if_neg (by omega), tokS_B l hl, if_neg he]
    unfold answer
    rw [if_neg he]
theorem All_lex {l : List UInt8} {ts : List Tok} {p e : Int} (h : Lex l 0 ts p e) (hl : l.length ≤ 100000) : scan_All.f (B l) = some (answer [] ts p e l.length) := by
  unfold scan_All.f
  rw [B_size, if_pos hl, allL_lex h (B l) (l.length + 1) [] (by rw [B_list]; rfl) (by rw [B_size]; omega), B_size]
def sh (d : Nat) (t : Tok) : Tok := ⟨t.f0, t.f1, t.f2, t.f3 + (d : Int)⟩
theorem Lex.shift {l : List UInt8} {a : Nat} {ts : List Tok} {p e : Int} (h : Lex l a ts p e) (d : Nat) : Lex l (a + d) (ts.map (sh d)) (if e = 0 then 0 else p + (d : Int)) e := by
  induction h with
  | nil a => exact Lex.nil _
  | left l a ts p e h0 h ih =>
    refine Lex.left _ _ _ _ _ h0 ?_
    rw [Nat.add_right_comm]
    exact ih
  | tok l a z ts hl h0 he hz h ih =>
    rw [if_pos rfl] at ih ⊢
    have e1 : (tokAt l a :: ts).map (sh d) = tokAt l (a + d) :: ts.map (sh d) := by
      rw [List.map_cons]
      congr 1
    rw [e1]
    refine Lex.tok _ _ z _ hl h0 he hz ?_
    rw [Nat.add_right_comm]
    exact ih
  | late l a z p e hl h0 he hz hne h ih =>
    refine Lex.late _ _ z _ _ hl h0 he hz hne ?_
    rw [Nat.add_right_comm]
    exact ih
  | bad l a hl h0 he =>
    rw [if_neg he, show (a : Int) + (d : Int) = ((a + d : Nat) : Int) by omega]
    exact Lex.bad _ _ hl h0 he
theorem drop_app {l m : List UInt8} {n : Nat} (h : n ≤ l.length) : (l ++ m).drop n = l.drop n ++ m := List.drop_append_of_le_length h
theorem Lex.app {l : List UInt8} {a : Nat} {ts : List Tok} {p e : Int} (h : Lex l a ts p e) (m : List UInt8) : (e ≠ 0 → Lex (l ++ 10 :: m) a [] p e) ∧ (e = 0 → ∀ us q f, Lex (10 :: m) (a + l.length) us q f → Lex (l ++ 10 :: m) a (if f = 0 then ts ++ us else []) q f) := by
  induction h with
  | nil a =>
    refine ⟨fun h => absurd rfl h, fun _ us q f hx => ?_⟩
    rw [List.length_nil, Nat.add_zero] at hx
    rw [List.nil_append, List.nil_append]
    by_cases hf : f = 0
    · rw [if_pos hf]; exact hx
    · rw [if_neg hf]
      obtain rfl := hx.err hf
      exact hx
  | left l a ts p e h0 h ih =>
    have hne := leftK_ne h0
    have hle := leftK_le l
    have hk := leftK_app l m hne
    refine ⟨fun he => ?_, fun he us q f hx => ?_⟩
    · refine Lex.left _ _ _ _ _ (by rw [hk]; exact h0) ?_
      rw [hk, drop_app hle]
      exact ih.1 he
    · refine Lex.left _ _ _ _ _ (by rw [hk]; exact h0) ?_
      rw [hk, drop_app hle]
      refine ih.2 he us q f ?_
      rw [List.length_drop, show a + leftK l + (l.length - leftK l) = a + l.length by omega]
      exact hx
  | tok l a z ts hl h0 he hz h ih =>
    obtain ⟨s1, s2⟩ := tokK_size l he
    have hk := leftK_app l m hl
    have ht := tokK_app l m hl
    have hle : z ≤ l.length := by omega
    refine ⟨fun h => absurd rfl h, fun _ us q f hx => ?_⟩
    have hx2 := ih.2 rfl us q f (by
      rw [List.length_drop, show a + z + (l.length - z) = a + l.length by omega]
      exact hx)
    rw [← drop_app hle] at hx2
    by_cases hf : f = 0
    · subst hf
      rw [if_pos rfl] at hx2 ⊢
      obtain rfl := hx.place.2 rfl
      have e1 : tokAt l a = tokAt (l ++ 10 :: m) a := by unfold tokAt; rw [ht]
      rw [List.cons_append, e1]
      exact Lex.tok _ _ z _ (by simp) (by rw [hk]; exact h0) (by rw [ht]; exact he) (by rw [ht]; exact hz) hx2
    · rw [if_neg hf] at hx2 ⊢
      exact Lex.late _ _ z _ _ (by simp) (by rw [hk]; exact h0) (by rw [ht]; exact he) (by rw [ht]; exact hz) hf hx2
  | late l a z p e hl h0 he hz hne h ih =>
    obtain ⟨s1, s2⟩ := tokK_size l he
    have hk := leftK_app l m hl
    have ht := tokK_app l m hl
    have hle : z ≤ l.length := by omega
    refine ⟨fun _ => ?_, fun h => absurd h hne⟩
    have hx2 := ih.1 hne
    rw [← drop_app hle] at hx2
    exact Lex.late _ _ z _ _ (by simp) (by rw [hk]; exact h0) (by rw [ht]; exact he) (by rw [ht]; exact hz) hne hx2
  | bad l a hl h0 he =>
    have hk := leftK_app l m hl
    have ht := tokK_app l m hl
    refine ⟨fun _ => ?_, fun h => absurd h he⟩
    rw [← ht]
    exact Lex.bad _ _ (by simp) (by rw [hk]; exact h0) (by rw [ht]; exact he)
/-- a blank is left out -/
theorem Lex.blank {c : UInt8} {m : List UInt8} {a : Nat} {ts : List Tok} {p e : Int} (hc : blankB (c.toNat : Int) = true) (h : Lex m (a + 1) ts p e) : Lex (c :: m) a ts p e := by
  have hk : leftK (c :: m) = 1 := by rw [leftK_cons, if_pos hc]
  refine Lex.left _ _ _ _ _ (by rw [hk]; omega) ?_
  rw [hk]
  exact h
theorem ext_cut (s : ByteArray) (n : Nat) (hn : n ≤ s.size) : ∃ l : List UInt8, s.extract 0 n = B l ∧ l.length = n := ⟨s.data.toList.take n, by rw [B_ext, List.drop_zero, Nat.sub_zero], by rw [List.length_take, ← Lib.size_eq]; omega⟩
theorem mn_text (s : ByteArray) (n : Nat) : 0 ≤ mn (s.size : Int) n ∧ mn (s.size : Int) n ≤ (s.size : Int) ∧ ∃ l : List UInt8, s.extract 0 (mn (s.size : Int) n).toNat = B l ∧ l.length ≤ n := by
  have h : 0 ≤ mn (s.size : Int) n ∧ mn (s.size : Int) n ≤ (s.size : Int) ∧ mn (s.size : Int) n ≤ n := by
    unfold mn
    split <;> omega
  obtain ⟨l, h1, h2⟩ := ext_cut s (mn (s.size : Int) n).toNat (by omega)
  exact ⟨h.1, h.2.1, l, h1, by omega⟩
theorem B_app (a b : List UInt8) : B a ++ B b = B (a ++ b) := by
  apply B_eq
  show ((B a).append (B b)).data.toList = _
  simp [B]
theorem shown_05 : arboristlaw05_shown.f = some true := by decide +kernel
end Go.Proofs.YtfgabdfnbkmaeaaDoor.Pr

set_option linter.unusedVariables false
set_option linter.unusedSimpArgs false
namespace Go.Proofs.YtfgabdfnbkmaeaaDoor.Pr
open Go Go.RowKit Go.Proofs.YtfgabdfnbkmaeaaDoorW.PrintWords Go.Proofs.YtfgabdfnbkmaeaaDoorW.PrintLast Go.Proofs.YtfgabdfnbkmaeaaDoorW.PrintMore

theorem evn {ρ : Type} (n : Nat) {F g : Nat → Option ρ} {r : ρ} (h : Ev g r) (H : ∀ k, g k = some r → F (k + n) = some r) : Ev F r := by
  obtain ⟨K, e⟩ := h
  refine ⟨K + n, fun k hk => ?_⟩
  obtain ⟨m, rfl⟩ : ∃ m, k = m + n := ⟨k - n, by omega⟩
  exact H m (e _ (by omega))
theorem Lex.at {l : List UInt8} {a : Nat} {ts : List Tok} {p e : Int} (h : Lex l a ts p e) : ∀ t ∈ ts, (a : Int) ≤ t.f3 ∧ t.f3 < (a + l.length : Nat) := by
  induction h with
  | nil a => intro t ht; simp at ht
  | left l a ts p e h0 h ih =>
    intro t ht
    have := ih t ht
    have h1 := leftK_le l
    rw [List.length_drop] at this
    omega
  | tok l a z ts hl h0 he hz h ih =>
    intro t ht
    have h1 := tokK_size l he
    have := len_pos hl
    rcases List.mem_cons.1 ht with rfl | ht
    · show (a : Int) ≤ (a : Int) ∧ (a : Int) < _
      omega
    · have := ih t ht
      rw [List.length_drop] at this
      omega
  | late => intro t ht; simp at ht
  | bad => intro t ht; simp at ht
theorem Lex.few {l : List UInt8} {a : Nat} {ts : List Tok} {p e : Int} (h : Lex l a ts p e) : ts.length ≤ l.length := by
  induction h with
  | nil a => exact Nat.le_refl _
  | left l a ts p e h0 h ih => rw [List.length_drop] at ih; omega
  | tok l a z ts hl h0 he hz h ih =>
    have h1 := tokK_size l he
    rw [List.length_drop] at ih
    rw [List.length_cons]
    omega
  | late => simp
  | bad => simp
theorem rdT_nat (l : List Tok) (i : Nat) (h : i < l.length) : rd_T32 l (i : Int) = l[i] := by
  unfold rd_T32
  rw [Int.toNat_natCast, List.getD_eq_getElem?_getD, List.getElem?_eq_getElem h]
  rfl
theorem rdT_left (l m : List Tok) (i : Nat) (h : i < l.length) : rd_T32 (l ++ m) (i : Int) = l[i] := by
  rw [rdT_nat _ i (by rw [List.length_append]; omega), List.getElem_append_left h]
theorem rdT_right (l m : List Tok) (i : Nat) (h : i < m.length) : rd_T32 (l ++ m) ((l.length + i : Nat) : Int) = m[i] := by
  rw [rdT_nat _ _ (by rw [List.length_append]; omega), List.getElem_append_right (by omega)]
  congr 1
  omega
end Go.Proofs.YtfgabdfnbkmaeaaDoor.Pr

set_option linter.unusedVariables false
set_option linter.unusedSimpArgs false
namespace Go.Proofs.YtfgabdfnbkmaeaaDoor.Pure
open Go Go.RowKit Go.Proofs.YtfgabdfnbkmaeaaDoor.Pr Go.Proofs.YtfgabdfnbkmaeaaDoorW.PrintWords Go.Proofs.YtfgabdfnbkmaeaaDoorW.PrintLast Go.Proofs.YtfgabdfnbkmaeaaDoorW.PrintMore

theorem same_tok (t : Tok) : (!((t.f0) == (t.f0)) || (!((t.f1).toList == (t.f1).toList) || (!((t.f2) == (t.f2)) || (!((t.f3) == (t.f3)))))) = false := by simp
theorem pairs_l0 (a : List UInt8) (ha : a.length ≤ 1000) (ts us : List Tok) (n m z : Nat) (hz : z = m + a.length + 1) (hm : m ≤ 1000) (hu : ∀ t ∈ us, 0 ≤ t.f3 ∧ t.f3 < 100000) (ht : ts.length ≤ 1000) (hul : us.length ≤ 1000) : ∀ (d i : Nat), i + d = ts.length + us.length + 1 →
    Ev (fun k => arboristlaw05_ScanPairs.l0 k (B a) true (ts ++ [endT n]) (us ++ [endT m]) (ts ++ us.map (sh (a.length + 1)) ++ [endT z]) (i : Int)) true
  | 0, i, h => by
    refine evs0 (fun k => ?_)
    rw [arboristlaw05_ScanPairs.l0, if_neg (by simp; omega)]
  | d + 1, i, h => by
    refine evs1 (pairs_l0 a ha ts us n m z hz hm hu ht hul d (i + 1) (by omega)) (fun k e => ?_)
    have e1 : wrap64 (((ts ++ [endT n]).length : Int) - 1) = (ts.length : Int) := by
      simp only [List.length_append, List.length_cons, List.length_nil]
      unfold wrap64
      omega
    rw [arboristlaw05_ScanPairs.l0, if_pos (by simp; omega), e1, wrap_succ (by omega) (by omega)]
    by_cases c : i < ts.length
    · rw [if_pos (by omega), if_pos (by omega), if_pos (by simp; omega), List.append_assoc, rdT_left ts _ i c, rdT_left ts _ i c, same_tok, if_neg (by decide), ← List.append_assoc]
      exact e
    · obtain ⟨q, rfl⟩ : ∃ q, i = ts.length + q := ⟨i - ts.length, by omega⟩
      have e2 : wrap64 (wrap64 (((ts.length + q : Nat) : Int) - ((ts ++ [endT n]).length : Int)) + 1) = (q : Int) := by
        simp only [List.length_append, List.length_cons, List.length_nil]
        unfold wrap64
        omega
      rw [if_neg (by omega), e2, if_pos (by omega), if_pos (by simp; omega), if_pos (by omega)]
      have hq : q < (us ++ [endT m]).length := by simp; omega
      have e3 : rd_T32 (ts ++ us.map (sh (a.length + 1)) ++ [endT z]) ((ts.length + q : Nat) : Int) = sh (a.length + 1) ((us ++ [endT m])[q]) := by
        have e4 : ts ++ us.map (sh (a.length + 1)) ++ [endT z] = ts ++ (us ++ [endT m]).map (sh (a.length + 1)) := by
          rw [List.append_assoc, List.map_append, List.map_cons, List.map_nil]
          congr 3
          rw [hz]
          unfold endT sh
          congr 1
          first | done | (simp only []; omega)
        rw [e4, rdT_right ts _ q (by rw [List.length_map]; exact hq), List.getElem_map]
      rw [e3, rdT_nat _ q hq]
      obtain ⟨t, ht2⟩ : ∃ t, t = (us ++ [endT m])[q] := ⟨_, rfl⟩
      have hb : 0 ≤ t.f3 ∧ t.f3 < 100000 := by
        rcases List.mem_append.1 (ht2 ▸ List.getElem_mem hq : t ∈ us ++ [endT m]) with h | h
        · exact hu t h
        · obtain rfl := List.mem_singleton.1 h
          show (0 : Int) ≤ (m : Int) ∧ (m : Int) < 100000
          omega
      rw [← ht2]
      have e5 : wrap64 (wrap64 (t.f3 + ((B a).size : Int)) + 1) = (sh (a.length + 1) t).f3 := by
        rw [B_size]
        show _ = t.f3 + ((a.length + 1 : Nat) : Int)
        unfold wrap64
        omega
      rw [e5]
      have e6 : (!(((sh (a.length + 1) t).f0) == (t.f0)) || (!(((sh (a.length + 1) t).f1).toList == (t.f1).toList) || (!(((sh (a.length + 1) t).f2) == (t.f2)) || (!(((sh (a.length + 1) t).f3) == ((sh (a.length + 1) t).f3)))))) = false := by simp [sh]
      rw [e6, if_neg (by decide)]
      exact e
theorem pairs_len (n m : Nat) (hn : n ≤ 1000) (hm : m ≤ 1000) : ((n + m + 1 : Nat) : Int) = wrap64 (wrap64 (((n + 1 : Nat) : Int) + ((m + 1 : Nat) : Int)) - 1) := by unfold wrap64; omega
theorem pairs_at (n : Nat) (q : Int) (hn : n ≤ 1000) (h0 : 0 ≤ q) (h1 : q ≤ 1000) : q + ((n + 1 : Nat) : Int) = wrap64 (wrap64 ((n : Int) + 1) + q) := by unfold wrap64; omega
theorem pairs_bad (X : List Tok × Int × Int) (P Q E G : Int) (h : X = ([], P, E)) (h1 : P = Q) (h2 : E = G) : (if true = true then (if X.2.2 = G then (if X.2.1 = Q then some ((X.1.length : Int) == 0) else some false) else some false) else some false) = some true := by
  subst h h1 h2
  rw [if_pos rfl, if_pos rfl, if_pos rfl]
  simp
set_option maxHeartbeats 2000000 in
theorem ScanPairs : arboristlaw05_ScanPairs.Pure := by
  intro s u _ _
  obtain ⟨m1, m2, l, hl, hn⟩ := mn_text s 1000
  obtain ⟨m3, m4, l', hl', hn'⟩ := mn_text u 1000
  rw [show ((1000 : Nat) : Int) = 1000 from rfl] at m1 m2 hl m3 m4 hl'
  obtain ⟨ts, p, e, hx⟩ := Lex.ex l.length l 0 (Nat.le_refl _)
  obtain ⟨us, q, f, hy⟩ := Lex.ex l'.length l' 0 (Nat.le_refl _)
  have e1 := All_lex hx (by omega)
  have e2 := All_lex hy (by omega)
  have et : (B l ++ B [10]) ++ B l' = B (l ++ 10 :: l') := by rw [B_app, B_app, List.append_assoc]; rfl
  have hz := hx.app l'
  have hy2 := hy.shift (l.length + 1)
  have hlen : ts.length ≤ 1000 := Nat.le_trans hx.few hn
  have hlen' : us.length ≤ 1000 := Nat.le_trans hy.few hn'
  have hsz : (l ++ 10 :: l').length = l'.length + l.length + 1 := by simp; omega
  have hF : ∀ k, arboristlaw05_ScanPairs.f k s u = (scan_All.f (B (l ++ 10 :: l'))).bind fun bt => (if (answer [] ts p e l.length).2.2 = 0 then (if (answer [] us q f l'.length).2.2 = 0 then (if bt.2.2 = 0 then (arboristlaw05_ScanPairs.j0 k (B l) true (answer [] ts p e l.length).1 (answer [] us q f l'.length).1 bt.1 ((bt.1.length : Int) != (wrap64 ((wrap64 (((answer [] ts p e l.length).1.length : Int) + ((answer [] us q f l'.length).1.length : Int))) - 1)))) else (arboristlaw05_ScanPairs.j0 k (B l) true (answer [] ts p e l.length).1 (answer [] us q f l'.length).1 bt.1 true)) else (if true = true then (if bt.2.2 = (answer [] us q f l'.length).2.2 then (if bt.2.1 = (wrap64 ((wrap64 (((B l).size : Int) + 1)) + (answer [] us q f l'.length).2.1)) then (some ((bt.1.length : Int) == 0)) else (some false)) else (some false)) else (some false))) else (if true = true then (if bt.2.2 = (answer [] ts p e l.length).2.2 then (if bt.2.1 = (answer [] ts p e l.length).2.1 then (some ((bt.1.length : Int) == 0)) else (some false)) else (some false)) else (some false))) := by
    intro k
    simp only [arboristlaw05_ScanPairs.f]
    rw [shown_05, Option.bind_some, if_pos m1, if_pos m2, if_pos m3, if_pos m4, hl, hl', e1, Option.bind_some, e2, Option.bind_some, if_pos (by rw [B_size]; omega), show (⟨#[10]⟩ : ByteArray) = B [10] from rfl, if_pos (by rw [B_app, B_size, B_size]; simp; omega), et]
    rfl
  by_cases he : e = 0
  · subst he
    have a1 : answer [] ts p 0 l.length = (ts ++ [endT l.length], 0, 0) := by unfold answer; rw [if_pos rfl]; rfl
    by_cases hf : f = 0
    · subst hf
      have a2 : answer [] us q 0 l'.length = (us ++ [endT l'.length], 0, 0) := by unfold answer; rw [if_pos rfl]; rfl
      rw [if_pos rfl] at hy2
      have hw := hz.2 rfl _ _ _ (Lex.blank (by decide) (by rw [show 0 + l.length + 1 = 0 + (l.length + 1) by omega]; exact hy2))
      rw [if_pos rfl] at hw
      have e3 := All_lex hw (by rw [hsz]; omega)
      have a3 : answer [] (ts ++ us.map (sh (l.length + 1))) 0 0 (l ++ 10 :: l').length = (ts ++ us.map (sh (l.length + 1)) ++ [endT (l'.length + l.length + 1)], 0, 0) := by unfold answer; rw [if_pos rfl, hsz]; rfl
      have hloop := pairs_l0 l hn ts us l.length l'.length (l'.length + l.length + 1) rfl hn' (fun t ht => by have := hy.at t ht; omega) hlen hlen' (ts.length + us.length + 1) 0 (by omega)
      refine (evs1 (F := fun k => arboristlaw05_ScanPairs.f k s u) (evu1 (F := fun k => arboristlaw05_ScanPairs.j0 (k + 1) (B l) true (ts ++ [endT l.length]) (us ++ [endT l'.length]) (ts ++ us.map (sh (l.length + 1)) ++ [endT (l'.length + l.length + 1)]) false) hloop (fun k h => by rw [arboristlaw05_ScanPairs.j0, if_neg (by decide)]; exact h)) (fun k h => ?_)).rounds
      rw [hF, e3, Option.bind_some, a1, a2, a3]
      rw [if_pos rfl, if_pos rfl, if_pos rfl]
      have hb : (((ts ++ us.map (sh (l.length + 1)) ++ [endT (l'.length + l.length + 1)]).length : Int) != (wrap64 ((wrap64 (((ts ++ [endT l.length]).length : Int) + ((us ++ [endT l'.length]).length : Int))) - 1))) = false := by
        rw [bne_eq_false_iff_eq]
        have q1 : (ts ++ us.map (sh (l.length + 1)) ++ [endT (l'.length + l.length + 1)]).length = ts.length + us.length + 1 := by simp only [List.length_append, List.length_cons, List.length_nil, List.length_map]
        have q2 : (ts ++ [endT l.length]).length = ts.length + 1 := by simp
        have q3 : (us ++ [endT l'.length]).length = us.length + 1 := by simp
        rw [q1, q2, q3]
        exact pairs_len _ _ hlen hlen'
      rw [hb]
      exact h
    · have a2 : answer [] us q f l'.length = ([], q, f) := by unfold answer; rw [if_neg hf]
      rw [if_neg hf] at hy2
      obtain rfl := hy.err hf
      have hw := hz.2 rfl _ _ _ (Lex.blank (by decide) (by rw [show 0 + l.length + 1 = 0 + (l.length + 1) by omega]; exact hy2))
      rw [if_neg hf] at hw
      have e3 := All_lex hw (by rw [hsz]; omega)
      have a3 : answer [] ([] : List Tok) (q + ((l.length + 1 : Nat) : Int)) f (l ++ 10 :: l').length = ([], q + ((l.length + 1 : Nat) : Int), f) := by unfold answer; rw [if_neg hf]
      have hq := hy.place.1 hf
      refine ⟨0, ?_⟩
      rw [hF, e3, Option.bind_some, a1, a2, a3, if_pos rfl, if_neg hf]
      refine pairs_bad _ (q + ((l.length + 1 : Nat) : Int)) _ f _ rfl ?_ rfl
      show q + ((l.length + 1 : Nat) : Int) = wrap64 (wrap64 (((B l).size : Int) + 1) + q)
      rw [B_size]
      exact pairs_at _ _ hn (by omega) (by omega)
  · have a1 : answer [] ts p e l.length = ([], p, e) := by unfold answer; rw [if_neg he]
    have hw := hz.1 he
    have e3 := All_lex hw (by rw [hsz]; omega)
    have a3 : answer [] ([] : List Tok) p e (l ++ 10 :: l').length = ([], p, e) := by unfold answer; rw [if_neg he]
    refine ⟨0, ?_⟩
    rw [hF, e3, Option.bind_some, a1, a3, if_neg he]
    exact pairs_bad _ p _ e _ rfl rfl rfl
end Go.Proofs.YtfgabdfnbkmaeaaDoor.Pure
