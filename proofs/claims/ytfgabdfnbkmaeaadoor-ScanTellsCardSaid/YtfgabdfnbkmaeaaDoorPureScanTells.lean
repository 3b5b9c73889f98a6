/- ScanTells: a text's tokens are what the document says, or what is wrong first. -/
-- merge
import Derived.Test.YtfgabdfnbkmaeaaDoorPr0
import Derived.Test.YtfgabdfnbkmaeaaDoorPr10
import Derived.Test.YtfgabdfnbkmaeaaDoorPr11
import Derived.Test.YtfgabdfnbkmaeaaDoorPr12
import Derived.Test.YtfgabdfnbkmaeaaDoorPr13
import Derived.Test.YtfgabdfnbkmaeaaDoorPr14
import Derived.Test.YtfgabdfnbkmaeaaDoorPr15
import Derived.Test.YtfgabdfnbkmaeaaDoorPr16
import Derived.Test.YtfgabdfnbkmaeaaDoorPr3
import Derived.Test.YtfgabdfnbkmaeaaDoorPr4
import Derived.Test.YtfgabdfnbkmaeaaDoorPr5
import Derived.Test.YtfgabdfnbkmaeaaDoorPr9
namespace Go.Proofs.YtfgabdfnbkmaeaaDoor.Pr
open Go.RowKit Go.Proofs.YtfgabdfnbkmaeaaDoorW.PrintWords Go.Proofs.YtfgabdfnbkmaeaaDoorW.PrintLast
theorem evs0 {ρ : Type} {F : Nat → Option ρ} {r : ρ} (H : ∀ k, F (k + 1) = some r) : Ev F r := ⟨1, fun k hk => by obtain ⟨m, rfl⟩ : ∃ m, k = m + 1 := ⟨k - 1, by omega⟩; exact H m⟩
theorem evu0 {ρ : Type} {F : Nat → Option ρ} {r : ρ} (H : ∀ k, F k = some r) : Ev F r := ⟨0, fun k _ => H k⟩
theorem evu1 {ρ : Type} {F : Nat → Option ρ} {r : ρ} {α1 : Type} {g1 : Nat → Option α1} {a1 : α1} (h1 : Ev g1 a1) (H : ∀ k, g1 k = some a1 → F k = some r) : Ev F r := by
  obtain ⟨K1, e1⟩ := h1
  exact ⟨K1, fun k hk => H k (e1 _ (by omega))⟩
theorem evs1 {ρ : Type} {F : Nat → Option ρ} {r : ρ} {α1 : Type} {g1 : Nat → Option α1} {a1 : α1} (h1 : Ev g1 a1) (H : ∀ k, g1 k = some a1 → F (k + 1) = some r) : Ev F r := by
  obtain ⟨K1, e1⟩ := h1
  refine ⟨K1 + 1, fun k hk => ?_⟩
  obtain ⟨m, rfl⟩ : ∃ m, k = m + 1 := ⟨k - 1, by omega⟩
  exact H m (e1 _ (by omega))
theorem evu2 {ρ : Type} {F : Nat → Option ρ} {r : ρ} {α1 : Type} {g1 : Nat → Option α1} {a1 : α1} {α2 : Type} {g2 : Nat → Option α2} {a2 : α2} (h1 : Ev g1 a1) (h2 : Ev g2 a2) (H : ∀ k, g1 k = some a1 → g2 k = some a2 → F k = some r) : Ev F r := by
  obtain ⟨K1, e1⟩ := h1; obtain ⟨K2, e2⟩ := h2
  exact ⟨K1 + K2, fun k hk => H k (e1 _ (by omega)) (e2 _ (by omega))⟩
theorem evs2 {ρ : Type} {F : Nat → Option ρ} {r : ρ} {α1 : Type} {g1 : Nat → Option α1} {a1 : α1} {α2 : Type} {g2 : Nat → Option α2} {a2 : α2} (h1 : Ev g1 a1) (h2 : Ev g2 a2) (H : ∀ k, g1 k = some a1 → g2 k = some a2 → F (k + 1) = some r) : Ev F r := by
  obtain ⟨K1, e1⟩ := h1; obtain ⟨K2, e2⟩ := h2
  refine ⟨K1 + K2 + 1, fun k hk => ?_⟩
  obtain ⟨m, rfl⟩ : ∃ m, k = m + 1 := ⟨k - 1, by omega⟩
  exact H m (e1 _ (by omega)) (e2 _ (by omega))
theorem evu3 {ρ : Type} {F : Nat → Option ρ} {r : ρ} {α1 : Type} {g1 : Nat → Option α1} {a1 : α1} {α2 : Type} {g2 : Nat → Option α2} {a2 : α2} {α3 : Type} {g3 : Nat → Option α3} {a3 : α3} (h1 : Ev g1 a1) (h2 : Ev g2 a2) (h3 : Ev g3 a3) (H : ∀ k, g1 k = some a1 → g2 k = some a2 → g3 k = some a3 → F k = some r) : Ev F r := by
  obtain ⟨K1, e1⟩ := h1; obtain ⟨K2, e2⟩ := h2; obtain ⟨K3, e3⟩ := h3
  exact ⟨K1 + K2 + K3, fun k hk => H k (e1 _ (by omega)) (e2 _ (by omega)) (e3 _ (by omega))⟩
theorem evs3 {ρ : Type} {F : Nat → Option ρ} {r : ρ} {α1 : Type} {g1 : Nat → Option α1} {a1 : α1} {α2 : Type} {g2 : Nat → Option α2} {a2 : α2} {α3 : Type} {g3 : Nat → Option α3} {a3 : α3} (h1 : Ev g1 a1) (h2 : Ev g2 a2) (h3 : Ev g3 a3) (H : ∀ k, g1 k = some a1 → g2 k = some a2 → g3 k = some a3 → F (k + 1) = some r) : Ev F r := by
  obtain ⟨K1, e1⟩ := h1; obtain ⟨K2, e2⟩ := h2; obtain ⟨K3, e3⟩ := h3
  refine ⟨K1 + K2 + K3 + 1, fun k hk => ?_⟩
  obtain ⟨m, rfl⟩ : ∃ m, k = m + 1 := ⟨k - 1, by omega⟩
  exact H m (e1 _ (by omega)) (e2 _ (by omega)) (e3 _ (by omega))
theorem evu4 {ρ : Type} {F : Nat → Option ρ} {r : ρ} {α1 : Type} {g1 : Nat → Option α1} {a1 : α1} {α2 : Type} {g2 : Nat → Option α2} {a2 : α2} {α3 : Type} {g3 : Nat → Option α3} {a3 : α3} {α4 : Type} {g4 : Nat → Option α4} {a4 : α4} (h1 : Ev g1 a1) (h2 : Ev g2 a2) (h3 : Ev g3 a3) (h4 : Ev g4 a4) (H : ∀ k, g1 k = some a1 → g2 k = some a2 → g3 k = some a3 → g4 k = some a4 → F k = some r) : Ev F r := by
  obtain ⟨K1, e1⟩ := h1; obtain ⟨K2, e2⟩ := h2; obtain ⟨K3, e3⟩ := h3; obtain ⟨K4, e4⟩ := h4
  exact ⟨K1 + K2 + K3 + K4, fun k hk => H k (e1 _ (by omega)) (e2 _ (by omega)) (e3 _ (by omega)) (e4 _ (by omega))⟩
theorem evs4 {ρ : Type} {F : Nat → Option ρ} {r : ρ} {α1 : Type} {g1 : Nat → Option α1} {a1 : α1} {α2 : Type} {g2 : Nat → Option α2} {a2 : α2} {α3 : Type} {g3 : Nat → Option α3} {a3 : α3} {α4 : Type} {g4 : Nat → Option α4} {a4 : α4} (h1 : Ev g1 a1) (h2 : Ev g2 a2) (h3 : Ev g3 a3) (h4 : Ev g4 a4) (H : ∀ k, g1 k = some a1 → g2 k = some a2 → g3 k = some a3 → g4 k = some a4 → F (k + 1) = some r) : Ev F r := by
  obtain ⟨K1, e1⟩ := h1; obtain ⟨K2, e2⟩ := h2; obtain ⟨K3, e3⟩ := h3; obtain ⟨K4, e4⟩ := h4
  refine ⟨K1 + K2 + K3 + K4 + 1, fun k hk => ?_⟩
  obtain ⟨m, rfl⟩ : ∃ m, k = m + 1 := ⟨k - 1, by omega⟩
  exact H m (e1 _ (by omega)) (e2 _ (by omega)) (e3 _ (by omega)) (e4 _ (by omega))
theorem evu5 {ρ : Type} {F : Nat → Option ρ} {r : ρ} {α1 : Type} {g1 : Nat → Option α1} {a1 : α1} {α2 : Type} {g2 : Nat → Option α2} {a2 : α2} {α3 : Type} {g3 : Nat → Option α3} {a3 : α3} {α4 : Type} {g4 : Nat → Option α4} {a4 : α4} {α5 : Type} {g5 : Nat → Option α5} {a5 : α5} (h1 : Ev g1 a1) (h2 : Ev g2 a2) (h3 : Ev g3 a3) (h4 : Ev g4 a4) (h5 : Ev g5 a5) (H : ∀ k, g1 k = some a1 → g2 k = some a2 → g3 k = some a3 → g4 k = some a4 → g5 k = some a5 → F k = some r) : Ev F r := by
  obtain ⟨K1, e1⟩ := h1; obtain ⟨K2, e2⟩ := h2; obtain ⟨K3, e3⟩ := h3; obtain ⟨K4, e4⟩ := h4; obtain ⟨K5, e5⟩ := h5
  exact ⟨K1 + K2 + K3 + K4 + K5, fun k hk => H k (e1 _ (by omega)) (e2 _ (by omega)) (e3 _ (by omega)) (e4 _ (by omega)) (e5 _ (by omega))⟩
theorem evs5 {ρ : Type} {F : Nat → Option ρ} {r : ρ} {α1 : Type} {g1 : Nat → Option α1} {a1 : α1} {α2 : Type} {g2 : Nat → Option α2} {a2 : α2} {α3 : Type} {g3 : Nat → Option α3} {a3 : α3} {α4 : Type} {g4 : Nat → Option α4} {a4 : α4} {α5 : Type} {g5 : Nat → Option α5} {a5 : α5} (h1 : Ev g1 a1) (h2 : Ev g2 a2) (h3 : Ev g3 a3) (h4 : Ev g4 a4) (h5 : Ev g5 a5) (H : ∀ k, g1 k = some a1 → g2 k = some a2 → g3 k = some a3 → g4 k = some a4 → g5 k = some a5 → F (k + 1) = some r) : Ev F r := by
  obtain ⟨K1, e1⟩ := h1; obtain ⟨K2, e2⟩ := h2; obtain ⟨K3, e3⟩ := h3; obtain ⟨K4, e4⟩ := h4; obtain ⟨K5, e5⟩ := h5
  refine ⟨K1 + K2 + K3 + K4 + K5 + 1, fun k hk => ?_⟩
  obtain ⟨m, rfl⟩ : ∃ m, k = m + 1 := ⟨k - 1, by omega⟩
  exact H m (e1 _ (by omega)) (e2 _ (by omega)) (e3 _ (by omega)) (e4 _ (by omega)) (e5 _ (by omega))
theorem evu6 {ρ : Type} {F : Nat → Option ρ} {r : ρ} {α1 : Type} {g1 : Nat → Option α1} {a1 : α1} {α2 : Type} {g2 : Nat → Option α2} {a2 : α2} {α3 : Type} {g3 : Nat → Option α3} {a3 : α3} {α4 : Type} {g4 : Nat → Option α4} {a4 : α4} {α5 : Type} {g5 : Nat → Option α5} {a5 : α5} {α6 : Type} {g6 : Nat → Option α6} {a6 : α6} (h1 : Ev g1 a1) (h2 : Ev g2 a2) (h3 : Ev g3 a3) (h4 : Ev g4 a4) (h5 : Ev g5 a5) (h6 : Ev g6 a6) (H : ∀ k, g1 k = some a1 → g2 k = some a2 → g3 k = some a3 → g4 k = some a4 → g5 k = some a5 → g6 k = some a6 → F k = some r) : Ev F r := by
  obtain ⟨K1, e1⟩ := h1; obtain ⟨K2, e2⟩ := h2; obtain ⟨K3, e3⟩ := h3; obtain ⟨K4, e4⟩ := h4; obtain ⟨K5, e5⟩ := h5; obtain ⟨K6, e6⟩ := h6
  exact ⟨K1 + K2 + K3 + K4 + K5 + K6, fun k hk => H k (e1 _ (by omega)) (e2 _ (by omega)) (e3 _ (by omega)) (e4 _ (by omega)) (e5 _ (by omega)) (e6 _ (by omega))⟩
theorem evs6 {ρ : Type} {F : Nat → Option ρ} {r : ρ} {α1 : Type} {g1 : Nat → Option α1} {a1 : α1} {α2 : Type} {g2 : Nat → Option α2} {a2 : α2} {α3 : Type} {g3 : Nat → Option α3} {a3 : α3} {α4 : Type} {g4 : Nat → Option α4} {a4 : α4} {α5 : Type} {g5 : Nat → Option α5} {a5 : α5} {α6 : Type} {g6 : Nat → Option α6} {a6 : α6} (h1 : Ev g1 a1) (h2 : Ev g2 a2) (h3 : Ev g3 a3) (h4 : Ev g4 a4) (h5 : Ev g5 a5) (h6 : Ev g6 a6) (H : ∀ k, g1 k = some a1 → g2 k = some a2 → g3 k = some a3 → g4 k = some a4 → g5 k = some a5 → g6 k = some a6 → F (k + 1) = some r) : Ev F r := by
  obtain ⟨K1, e1⟩ := h1; obtain ⟨K2, e2⟩ := h2; obtain ⟨K3, e3⟩ := h3; obtain ⟨K4, e4⟩ := h4; obtain ⟨K5, e5⟩ := h5; obtain ⟨K6, e6⟩ := h6
  refine ⟨K1 + K2 + K3 + K4 + K5 + K6 + 1, fun k hk => ?_⟩
  obtain ⟨m, rfl⟩ : ∃ m, k = m + 1 := ⟨k - 1, by omega⟩
  exact H m (e1 _ (by omega)) (e2 _ (by omega)) (e3 _ (by omega)) (e4 _ (by omega)) (e5 _ (by omega)) (e6 _ (by omega))
theorem evu7 {ρ : Type} {F : Nat → Option ρ} {r : ρ} {α1 : Type} {g1 : Nat → Option α1} {a1 : α1} {α2 : Type} {g2 : Nat → Option α2} {a2 : α2} {α3 : Type} {g3 : Nat → Option α3} {a3 : α3} {α4 : Type} {g4 : Nat → Option α4} {a4 : α4} {α5 : Type} {g5 : Nat → Option α5} {a5 : α5} {α6 : Type} {g6 : Nat → Option α6} {a6 : α6} {α7 : Type} {g7 : Nat → Option α7} {a7 : α7} (h1 : Ev g1 a1) (h2 : Ev g2 a2) (h3 : Ev g3 a3) (h4 : Ev g4 a4) (h5 : Ev g5 a5) (h6 : Ev g6 a6) (h7 : Ev g7 a7) (H : ∀ k, g1 k = some a1 → g2 k = some a2 → g3 k = some a3 → g4 k = some a4 → g5 k = some a5 → g6 k = some a6 → g7 k = some a7 → F k = some r) : Ev F r := by
  obtain ⟨K1, e1⟩ := h1; obtain ⟨K2, e2⟩ := h2; obtain ⟨K3, e3⟩ := h3; obtain ⟨K4, e4⟩ := h4; obtain ⟨K5, e5⟩ := h5; obtain ⟨K6, e6⟩ := h6; obtain ⟨K7, e7⟩ := h7
  exact ⟨K1 + K2 + K3 + K4 + K5 + K6 + K7, fun k hk => H k (e1 _ (by omega)) (e2 _ (by omega)) (e3 _ (by omega)) (e4 _ (by omega)) (e5 _ (by omega)) (e6 _ (by omega)) (e7 _ (by omega))⟩
theorem evs7 {ρ : Type} {F : Nat → Option ρ} {r : ρ} {α1 : Type} {g1 : Nat → Option α1} {a1 : α1} {α2 : Type} {g2 : Nat → Option α2} {a2 : α2} {α3 : Type} {g3 : Nat → Option α3} {a3 : α3} {α4 : Type} {g4 : Nat → Option α4} {a4 : α4} {α5 : Type} {g5 : Nat → Option α5} {a5 : α5} {α6 : Type} {g6 : Nat → Option α6} {a6 : α6} {α7 : Type} {g7 : Nat → Option α7} {a7 : α7} (h1 : Ev g1 a1) (h2 : Ev g2 a2) (h3 : Ev g3 a3) (h4 : Ev g4 a4) (h5 : Ev g5 a5) (h6 : Ev g6 a6) (h7 : Ev g7 a7) (H : ∀ k, g1 k = some a1 → g2 k = some a2 → g3 k = some a3 → g4 k = some a4 → g5 k = some a5 → g6 k = some a6 → g7 k = some a7 → F (k + 1) = some r) : Ev F r := by
  obtain ⟨K1, e1⟩ := h1; obtain ⟨K2, e2⟩ := h2; obtain ⟨K3, e3⟩ := h3; obtain ⟨K4, e4⟩ := h4; obtain ⟨K5, e5⟩ := h5; obtain ⟨K6, e6⟩ := h6; obtain ⟨K7, e7⟩ := h7
  refine ⟨K1 + K2 + K3 + K4 + K5 + K6 + K7 + 1, fun k hk => ?_⟩
  obtain ⟨m, rfl⟩ : ∃ m, k = m + 1 := ⟨k - 1, by omega⟩
  exact H m (e1 _ (by omega)) (e2 _ (by omega)) (e3 _ (by omega)) (e4 _ (by omega)) (e5 _ (by omega)) (e6 _ (by omega)) (e7 _ (by omega))
theorem evu8 {ρ : Type} {F : Nat → Option ρ} {r : ρ} {α1 : Type} {g1 : Nat → Option α1} {a1 : α1} {α2 : Type} {g2 : Nat → Option α2} {a2 : α2} {α3 : Type} {g3 : Nat → Option α3} {a3 : α3} {α4 : Type} {g4 : Nat → Option α4} {a4 : α4} {α5 : Type} {g5 : Nat → Option α5} {a5 : α5} {α6 : Type} {g6 : Nat → Option α6} {a6 : α6} {α7 : Type} {g7 : Nat → Option α7} {a7 : α7} {α8 : Type} {g8 : Nat → Option α8} {a8 : α8} (h1 : Ev g1 a1) (h2 : Ev g2 a2) (h3 : Ev g3 a3) (h4 : Ev g4 a4) (h5 : Ev g5 a5) (h6 : Ev g6 a6) (h7 : Ev g7 a7) (h8 : Ev g8 a8) (H : ∀ k, g1 k = some a1 → g2 k = some a2 → g3 k = some a3 → g4 k = some a4 → g5 k = some a5 → g6 k = some a6 → g7 k = some a7 → g8 k = some a8 → F k = some r) : Ev F r := by
  obtain ⟨K1, e1⟩ := h1; obtain ⟨K2, e2⟩ := h2; obtain ⟨K3, e3⟩ := h3; obtain ⟨K4, e4⟩ := h4; obtain ⟨K5, e5⟩ := h5; obtain ⟨K6, e6⟩ := h6; obtain ⟨K7, e7⟩ := h7; obtain ⟨K8, e8⟩ := h8
  exact ⟨K1 + K2 + K3 + K4 + K5 + K6 + K7 + K8, fun k hk => H k (e1 _ (by omega)) (e2 _ (by omega)) (e3 _ (by omega)) (e4 _ (by omega)) (e5 _ (by omega)) (e6 _ (by omega)) (e7 _ (by omega)) (e8 _ (by omega))⟩
theorem evs8 {ρ : Type} {F : Nat → Option ρ} {r : ρ} {α1 : Type} {g1 : Nat → Option α1} {a1 : α1} {α2 : Type} {g2 : Nat → Option α2} {a2 : α2} {α3 : Type} {g3 : Nat → Option α3} {a3 : α3} {α4 : Type} {g4 : Nat → Option α4} {a4 : α4} {α5 : Type} {g5 : Nat → Option α5} {a5 : α5} {α6 : Type} {g6 : Nat → Option α6} {a6 : α6} {α7 : Type} {g7 : Nat → Option α7} {a7 : α7} {α8 : Type} {g8 : Nat → Option α8} {a8 : α8} (h1 : Ev g1 a1) (h2 : Ev g2 a2) (h3 : Ev g3 a3) (h4 : Ev g4 a4) (h5 : Ev g5 a5) (h6 : Ev g6 a6) (h7 : Ev g7 a7) (h8 : Ev g8 a8) (H : ∀ k, g1 k = some a1 → g2 k = some a2 → g3 k = some a3 → g4 k = some a4 → g5 k = some a5 → g6 k = some a6 → g7 k = some a7 → g8 k = some a8 → F (k + 1) = some r) : Ev F r := by
  obtain ⟨K1, e1⟩ := h1; obtain ⟨K2, e2⟩ := h2; obtain ⟨K3, e3⟩ := h3; obtain ⟨K4, e4⟩ := h4; obtain ⟨K5, e5⟩ := h5; obtain ⟨K6, e6⟩ := h6; obtain ⟨K7, e7⟩ := h7; obtain ⟨K8, e8⟩ := h8
  refine ⟨K1 + K2 + K3 + K4 + K5 + K6 + K7 + K8 + 1, fun k hk => ?_⟩
  obtain ⟨m, rfl⟩ : ∃ m, k = m + 1 := ⟨k - 1, by omega⟩
  exact H m (e1 _ (by omega)) (e2 _ (by omega)) (e3 _ (by omega)) (e4 _ (by omega)) (e5 _ (by omega)) (e6 _ (by omega)) (e7 _ (by omega)) (e8 _ (by omega))
end Go.Proofs.YtfgabdfnbkmaeaaDoor.Pr

set_option linter.unusedVariables false
set_option linter.unusedSimpArgs false
namespace Go.Proofs.YtfgabdfnbkmaeaaDoor.Pr
open Go Go.RowKit Go.Proofs.YtfgabdfnbkmaeaaDoorW.PrintWords Go.Proofs.YtfgabdfnbkmaeaaDoorW.PrintLast Go.Proofs.YtfgabdfnbkmaeaaDoorW.PrintMore

abbrev Tok := S32
def B (l : List UInt8) : ByteArray := ⟨l.toArray⟩
theorem B_list (l : List UInt8) : (B l).data.toList = l := by simp [B]
theorem B_size (l : List UInt8) : (B l).size = l.length := by rw [Lib.size_eq, B_list]
theorem B_of (s : ByteArray) : B s.data.toList = s := by cases s; simp [B]
theorem B_eq {s : ByteArray} {l : List UInt8} (h : s.data.toList = l) : s = B l := by rw [← h, B_of]
theorem B_inj {a b : List UInt8} (h : B a = B b) : a = b := by rw [← B_list a, h, B_list]
theorem B_ext (s : ByteArray) (a b : Nat) : s.extract a b = B ((s.data.toList.drop a).take (b - a)) := B_eq (Lib.extract_data s a b)
theorem B_end (s : ByteArray) (a : Nat) : s.extract a s.size = B (s.data.toList.drop a) := B_eq (by rw [Lib.extract_data, List.take_of_length_le]; rw [List.length_drop, ← Lib.size_eq]; exact Nat.le_refl _)
def hd : List UInt8 → Int | [] => 0 | c :: _ => (c.toNat : Int)
theorem hd_cons (c : UInt8) (l : List UInt8) : hd (c :: l) = (c.toNat : Int) := rfl
theorem bt_B (l : List UInt8) (k : Nat) (h : k < l.length) : bt (B l) (k : Int) = hd (l.drop k) := by
  rw [bt_nat _ k (by rw [B_size]; exact h), List.drop_eq_getElem_cons h]
  rfl
theorem bt_hd (c : UInt8) (l : List UInt8) : bt (B (c :: l)) 0 = (c.toNat : Int) := by
  have := bt_B (c :: l) 0 (by simp)
  simpa [hd] using this
theorem hd_app (l m : List UInt8) (h : l ≠ []) : hd (l ++ m) = hd l := by
  cases l with
  | nil => exact absurd rfl h
  | cons c l => rfl
theorem runL_app (p : Int → Bool) (c : UInt8) (m : List UInt8) (hc : p (c.toNat : Int) = false) : ∀ l, runL p (l ++ c :: m) = runL p l
  | [] => by rw [List.nil_append]; show (if p (c.toNat : Int) = true then _ else 0) = 0; rw [if_neg (by rw [hc]; decide)]
  | x :: l => by
    rw [List.cons_append]
    show (if p (x.toNat : Int) = true then runL p (l ++ c :: m) + 1 else 0) = if p (x.toNat : Int) = true then runL p l + 1 else 0
    rw [runL_app p c m hc l]
theorem take_app (l m : List UInt8) (n : Nat) (h : n ≤ l.length) : (l ++ m).take n = l.take n := List.take_append_of_le_length h

/-- how many bytes are left out -/
def leftK : List UInt8 → Nat
  | [] => 0
  | c :: l => if blankB (c.toNat : Int) = true then 1 else if (c.toNat : Int) = 35 then runL (fun c => c != 10) (c :: l) else 0
theorem leftK_cons (c : UInt8) (l : List UInt8) : leftK (c :: l) = if blankB (c.toNat : Int) = true then 1 else if (c.toNat : Int) = 35 then runL (fun c => c != 10) (c :: l) else 0 := rfl
theorem leftN_B (l : List UInt8) (h : l ≠ []) : leftN (B l) = leftK l := by
  cases l with
  | nil => exact absurd rfl h
  | cons c l => rw [leftK_cons]; unfold leftN; rw [bt_hd, B_list]
theorem leftK_le : ∀ l, leftK l ≤ l.length
  | [] => Nat.le_refl _
  | c :: l => by
    have := runL_le (fun c => c != 10) (c :: l)
    rw [leftK_cons]
    simp only [List.length_cons] at this ⊢
    split
    · omega
    · split <;> omega
theorem leftK_app (l m : List UInt8) (h : l ≠ []) : leftK (l ++ 10 :: m) = leftK l := by
  cases l with
  | nil => exact absurd rfl h
  | cons c l =>
    have := runL_app (fun c => c != 10) 10 m (by decide) (c :: l)
    rw [List.cons_append] at this ⊢
    rw [leftK_cons, leftK_cons, this]

/-- what digits spell -/
@[irreducible] def stepK (a : Nat) (c : UInt8) : Nat := a * 10 + (c.toNat - 48)
theorem stepK_eq (a : Nat) (c : UInt8) : stepK a c = a * 10 + (c.toNat - 48) := by unfold stepK; rfl
def valK : Nat → List UInt8 → Nat
  | a, [] => a
  | a, c :: l => valK (stepK a c) l
theorem valK_nil (a : Nat) : valK a [] = a := rfl
theorem valK_cons (a : Nat) (c : UInt8) (l : List UInt8) : valK a (c :: l) = valK (a * 10 + (c.toNat - 48)) l := (show valK a (c :: l) = valK (stepK a c) l from rfl).trans (by rw [stepK_eq])
theorem valK_le : ∀ (l : List UInt8) (a : Nat), a ≤ valK a l
  | [], a => by rw [valK_nil]; exact Nat.le_refl a
  | c :: l, a => by
    have h := valK_le l (a * 10 + (c.toNat - 48))
    rw [valK_cons]
    omega
theorem valK_app : ∀ (a : Nat) (l m : List UInt8), valK a (l ++ m) = valK (valK a l) m
  | a, [], m => by rw [List.nil_append, valK_nil]
  | a, c :: l, m => by rw [List.cons_append, valK_cons, valK_cons, valK_app _ l m]
def Digs (l : List UInt8) : Prop := ∀ c ∈ l, 48 ≤ c.toNat ∧ c.toNat ≤ 57
theorem um_val (M : Nat) (hM : M < 18446744073709551620) : ∀ (l : List UInt8) (a : Nat), Digs l → a ≤ M → Lib.parseUintM M a l = if valK a l ≤ M then .ok (valK a l) else .range
  | [], a, h, ha => by
    have e : valK a [] = a := valK_nil a
    rw [Lib.parseUintM, e, if_pos ha]
  | c :: r, a, h, ha => by
    have hc := h c (by simp)
    have hl := valK_le r (a * 10 + (c.toNat - 48))
    rw [Lib.parseUintM, if_pos hc, valK_cons]
    by_cases c1 : 1844674407370955162 ≤ a
    · rw [if_pos c1, if_neg (by omega)]
    · rw [if_neg c1]
      by_cases c2 : M < a * 10 + (c.toNat - 48)
      · rw [if_pos c2, if_neg (by omega)]
      · rw [if_neg c2]
        exact um_val M hM r _ (fun x hx => h x (by simp [hx])) (by omega)
theorem ub_val (l : List UInt8) (hl : l ≠ []) (h : Digs l) : Lib.parseUintB 64 l = if valK 0 l ≤ 2 ^ 64 - 1 then .ok (valK 0 l) else .range := by
  unfold Lib.parseUintB
  rw [if_neg hl]
  have := um_val (2 ^ 64 - 1) (by decide) l 0 h (Nat.zero_le _)
  rw [this]
/-- a number by its digits and its sign: (it, size, fault) -/
def valS (mi : Nat) (v z : Nat) : Int × Int × Int := if 1000000000000 < v then (0, 0, 4) else ((if mi = 1 then -(v : Int) else (v : Int)), (z : Int), 0)
def numD (mi : Nat) (d : List UInt8) : Int × Int × Int :=
  if runL digP d = 0 then (0, 0, 2)
  else if hd d = 48 ∧ 1 < runL digP d + mi then (0, 0, 2)
  else valS mi (valK 0 (d.take (runL digP d))) (mi + runL digP d)
def numK : List UInt8 → Int × Int × Int
  | [] => (0, 0, 2)
  | c :: l => if c.toNat = 45 then numD 1 l else numD 0 (c :: l)
theorem runL_digs (d : List UInt8) : Digs (d.take (runL digP d)) := fun c hc => by
  have h := runL_take digP _ c hc
  unfold digP at h
  rw [Bool.and_eq_true, decide_eq_true_iff, decide_eq_true_iff] at h
  omega
theorem numV_pos (s : ByteArray) (z : Nat) (ds : List UInt8) (hne : ds ≠ []) (hd_ : Digs ds) (hs : (s.extract 0 z).data.toList = ds) : numV s z = valS 0 (valK 0 ds) z := by
  unfold numV valS
  rw [hs]
  cases ds with
  | nil => exact absurd rfl hne
  | cons c r =>
    have hc := hd_ c (by simp)
    have h45 : ¬ c.toNat = 45 := by omega
    have hub := ub_val _ hne hd_
    obtain ⟨v, hv⟩ : ∃ v, v = valK 0 (c :: r) := ⟨_, rfl⟩
    rw [← hv] at hub ⊢
    have hp : Lib.parseIntB 64 (c :: r) = if 9223372036854775808 ≤ v then .range else .ok (v : Int) := by
      unfold Lib.parseIntB
      dsimp only
      rw [if_neg (by omega), hub]
      by_cases c1 : v ≤ 2 ^ 64 - 1
      · rw [if_pos c1]
        dsimp only
        by_cases c2 : 9223372036854775808 ≤ v
        · rw [if_pos ⟨h45, c2⟩, if_pos c2]
        · rw [if_neg (fun h => c2 h.2), if_neg (fun h => h45 h.1), if_neg h45, if_neg c2]
      · rw [if_neg c1, if_pos (by omega)]
    rw [hp]
    by_cases c2 : 9223372036854775808 ≤ v
    · rw [if_pos c2, if_pos (by omega)]
    · rw [if_neg c2]
      dsimp only
      by_cases c3 : 1000000000000 < v
      · rw [if_pos (by omega), if_pos c3]
      · rw [if_neg (by omega), if_neg (by omega), if_neg c3, if_neg (by decide)]
theorem numV_neg (s : ByteArray) (z : Nat) (ds : List UInt8) (hne : ds ≠ []) (hd_ : Digs ds) (hs : (s.extract 0 z).data.toList = 45 :: ds) : numV s z = valS 1 (valK 0 ds) z := by
  unfold numV valS
  rw [hs]
  have hub := ub_val _ hne hd_
  obtain ⟨v, hv⟩ : ∃ v, v = valK 0 ds := ⟨_, rfl⟩
  rw [← hv] at hub ⊢
  have h45 : (45 : UInt8).toNat = 45 := rfl
  have hp : Lib.parseIntB 64 (45 :: ds) = if 9223372036854775808 < v then .range else .ok (-(v : Int)) := by
    unfold Lib.parseIntB
    dsimp only
    rw [if_pos (by decide), hub]
    by_cases c1 : v ≤ 2 ^ 64 - 1
    · rw [if_pos c1]
      dsimp only
      by_cases c2 : 9223372036854775808 < v
      · rw [if_neg (fun h => h.1 h45), if_pos ⟨h45, c2⟩, if_pos c2]
      · rw [if_neg (fun h => h.1 h45), if_neg (fun h => c2 h.2), if_pos h45, if_neg c2]
    · rw [if_neg c1, if_pos (by omega)]
  rw [hp]
  by_cases c2 : 9223372036854775808 < v
  · rw [if_pos c2, if_pos (by omega)]
  · rw [if_neg c2]
    dsimp only
    by_cases c3 : 1000000000000 < v
    · rw [if_neg (by omega), if_pos (by omega), if_pos c3]
    · rw [if_neg (by omega), if_neg (by omega), if_neg c3, if_pos rfl]
theorem trimB_B (l : List UInt8) : trimB (B l) = B (match l with | [] => [] | c :: r => if c.toNat = 45 then r else c :: r) := by
  apply B_eq
  show (Lib.trimPrefix (B l).data.toList [45]) = _
  rw [B_list]
  unfold Lib.trimPrefix Lib.hasPrefix
  cases l with
  | nil => rfl
  | cons c r =>
    by_cases hc : c.toNat = 45
    · have : c = 45 := by rw [← UInt8.toNat_inj]; exact hc
      subst this
      rfl
    · have h2 : ((45 : UInt8) == c) = false := by
        apply beq_false_of_ne
        intro e
        exact hc (by rw [← e]; rfl)
      dsimp only
      rw [if_neg hc]
      simp [List.isPrefixOf, h2]
theorem numK_cons (c : UInt8) (l : List UInt8) : numK (c :: l) = if c.toNat = 45 then numD 1 l else numD 0 (c :: l) := rfl
theorem numS_B (l : List UInt8) : numS (B l) = numK l := by
  have ht := trimB_B l
  unfold numS
  cases l with
  | nil =>
    dsimp only at ht
    rw [ht, B_list, if_pos (by rfl)]
    rfl
  | cons c r =>
    rw [numK_cons]
    dsimp only at ht
    by_cases hc : c.toNat = 45
    · rw [if_pos hc] at ht
      rw [ht, if_pos hc, B_list, B_size, B_size]
      unfold numD
      by_cases h0 : runL digP r = 0
      · rw [if_pos h0, if_pos h0]
      · rw [if_neg h0, if_neg h0]
        cases r with
        | nil => exact absurd rfl h0
        | cons x r =>
          rw [bt_hd, hd_cons, show (c :: x :: r).length - (x :: r).length = 1 by simp only [List.length_cons]; omega]
          by_cases h1 : (x.toNat : Int) = 48 ∧ 1 < runL digP (x :: r) + 1
          · rw [if_pos h1, if_pos h1]
          · rw [if_neg h1, if_neg h1]
            have h45 : c = 45 := by rw [← UInt8.toNat_inj]; exact hc
            subst h45
            refine numV_neg _ _ _ (fun e => ?_) (runL_digs _) ?_
            · have e2 := congrArg List.length e
              have := runL_le digP (x :: r)
              rw [List.length_take] at e2
              simp only [List.length_nil] at e2
              omega
            · rw [Lib.extract_data, B_list, List.drop_zero, Nat.sub_zero, Nat.add_comm 1, List.take_succ_cons]
    · rw [if_neg hc] at ht
      rw [ht, if_neg hc, B_list, B_size, bt_hd, Nat.sub_self]
      unfold numD
      by_cases h0 : runL digP (c :: r) = 0
      · rw [if_pos h0, if_pos h0]
      · rw [if_neg h0, if_neg h0, hd_cons]
        by_cases h1 : (c.toNat : Int) = 48 ∧ 1 < runL digP (c :: r) + 0
        · rw [if_pos h1, if_pos h1]
        · rw [if_neg h1, if_neg h1]
          refine numV_pos _ _ _ (fun e => ?_) (runL_digs _) ?_
          · have e2 := congrArg List.length e
            have := runL_le digP (c :: r)
            rw [List.length_take] at e2
            simp only [List.length_nil] at e2
            omega
          · rw [Lib.extract_data, B_list, List.drop_zero, Nat.sub_zero, Nat.zero_add]
theorem numD_app (mi : Nat) (d m : List UInt8) : numD mi (d ++ 10 :: m) = numD mi d := by
  unfold numD
  rw [runL_app digP 10 m (by decide) d]
  by_cases h0 : runL digP d = 0
  · rw [if_pos h0, if_pos h0]
  · have hle := runL_le digP d
    have hne : d ≠ [] := fun e => h0 (by rw [e]; rfl)
    rw [if_neg h0, if_neg h0, hd_app d _ hne, take_app d _ _ hle]
theorem numK_app (l m : List UInt8) (h : l ≠ []) : numK (l ++ 10 :: m) = numK l := by
  cases l with
  | nil => exact absurd rfl h
  | cons c l =>
    have h1 := numD_app 1 l m
    have h0 := numD_app 0 (c :: l) m
    rw [List.cons_append] at h0 ⊢
    rw [numK_cons, numK_cons, h1, h0]

/-- the token that a text begins with: (kind, text, number), size, fault -/
def tokK : List UInt8 → (Int × ByteArray × Int) × Int × Int
  | [] => ((0, ⟨#[]⟩, 0), 0, 2)
  | c :: l =>
    if signB (c.toNat : Int) = true then ((3, B [c], 0), 1, 0)
    else if letP (c.toNat : Int) = true then ((1, B ((c :: l).take (runL letP (c :: l))), 0), ((runL letP (c :: l) : Nat) : Int), 0)
    else if digP (c.toNat : Int) = true ∨ (c.toNat : Int) = 45 then ((2, ⟨#[]⟩, (numK (c :: l)).1), (numK (c :: l)).2.1, (numK (c :: l)).2.2)
    else ((0, ⟨#[]⟩, 0), 0, 2)
theorem tokK_cons (c : UInt8) (l : List UInt8) : tokK (c :: l) = if signB (c.toNat : Int) = true then ((3, B [c], 0), 1, 0)
    else if letP (c.toNat : Int) = true then ((1, B ((c :: l).take (runL letP (c :: l))), 0), ((runL letP (c :: l) : Nat) : Int), 0)
    else if digP (c.toNat : Int) = true ∨ (c.toNat : Int) = 45 then ((2, ⟨#[]⟩, (numK (c :: l)).1), (numK (c :: l)).2.1, (numK (c :: l)).2.2)
    else ((0, ⟨#[]⟩, 0), 0, 2) := rfl
theorem tokS_B (l : List UInt8) (h : l ≠ []) : tokS (B l) = tokK l := by
  cases l with
  | nil => exact absurd rfl h
  | cons c l =>
    rw [tokK_cons]
    unfold tokS
    rw [bt_hd, numS_B, B_list, B_ext, B_ext, B_list]
    simp only [List.drop_zero, Nat.sub_zero]
    rfl
theorem tokK_size (l : List UInt8) (h : (tokK l).2.2 = 0) : 1 ≤ (tokK l).2.1 ∧ (tokK l).2.1 ≤ (l.length : Int) := by
  cases l with
  | nil => exact absurd h (by decide)
  | cons c l =>
    have := tokS_size (B (c :: l)) (by rw [B_size]; simp)
    rw [tokS_B _ (by simp), B_size] at this
    exact this h
theorem tokK_app (l m : List UInt8) (h : l ≠ []) : tokK (l ++ 10 :: m) = tokK l := by
  have hn := numK_app l m h
  have hr := runL_app letP 10 m (by decide) l
  have ht := take_app l (10 :: m) (runL letP l) (runL_le letP l)
  cases l with
  | nil => exact absurd rfl h
  | cons c l =>
    rw [List.cons_append] at hn hr ht ⊢
    rw [tokK_cons, tokK_cons, hn, hr, ht]
end Go.Proofs.YtfgabdfnbkmaeaaDoor.Pr

set_option linter.unusedVariables false
set_option linter.unusedSimpArgs false
namespace Go.Proofs.YtfgabdfnbkmaeaaDoor.Pr
open Go Go.RowKit Go.Proofs.YtfgabdfnbkmaeaaDoorW.PrintWords Go.Proofs.YtfgabdfnbkmaeaaDoorW.PrintLast Go.Proofs.YtfgabdfnbkmaeaaDoorW.PrintMore

def tokAt (l : List UInt8) (a : Nat) : Tok := ⟨(tokK l).1.1, (tokK l).1.2.1, (tokK l).1.2.2, (a : Int)⟩
/-- what stands in a text from a place on: tokens, or the fault's place and the fault -/
inductive Lex : List UInt8 → Nat → List Tok → Int → Int → Prop
  | nil (a : Nat) : Lex [] a [] 0 0
  | left (l : List UInt8) (a : Nat) (ts : List Tok) (p e : Int) (h0 : 0 < leftK l) (h : Lex (l.drop (leftK l)) (a + leftK l) ts p e) : Lex l a ts p e
  | tok (l : List UInt8) (a z : Nat) (ts : List Tok) (hl : l ≠ []) (h0 : leftK l = 0) (he : (tokK l).2.2 = 0) (hz : (tokK l).2.1 = (z : Int)) (h : Lex (l.drop z) (a + z) ts 0 0) : Lex l a (tokAt l a :: ts) 0 0
  | late (l : List UInt8) (a z : Nat) (p e : Int) (hl : l ≠ []) (h0 : leftK l = 0) (he : (tokK l).2.2 = 0) (hz : (tokK l).2.1 = (z : Int)) (hne : e ≠ 0) (h : Lex (l.drop z) (a + z) [] p e) : Lex l a [] p e
  | bad (l : List UInt8) (a : Nat) (hl : l ≠ []) (h0 : leftK l = 0) (he : (tokK l).2.2 ≠ 0) : Lex l a [] (a : Int) (tokK l).2.2
theorem leftK_ne {l : List UInt8} (h : 0 < leftK l) : l ≠ [] := fun e => by rw [e] at h; exact absurd h (by decide)
theorem len_pos {l : List UInt8} (h : l ≠ []) : 0 < l.length := List.length_pos_iff.2 h
theorem Lex.err {l : List UInt8} {a : Nat} {ts : List Tok} {p e : Int} (h : Lex l a ts p e) : e ≠ 0 → ts = [] := by
  induction h with
  | nil a => intro h; exact absurd rfl h
  | left l a ts p e h0 h ih => exact ih
  | tok => intro h; exact absurd rfl h
  | late => intro _; rfl
  | bad => intro _; rfl
theorem Lex.place {l : List UInt8} {a : Nat} {ts : List Tok} {p e : Int} (h : Lex l a ts p e) : (e ≠ 0 → (a : Int) ≤ p ∧ p < (a + l.length : Nat)) ∧ (e = 0 → p = 0) := by
  induction h with
  | nil a => exact ⟨fun h => absurd rfl h, fun _ => rfl⟩
  | left l a ts p e h0 h ih =>
    refine ⟨fun he => ?_, ih.2⟩
    have := ih.1 he
    have h1 := leftK_le l
    rw [List.length_drop] at this
    omega
  | tok => exact ⟨fun h => absurd rfl h, fun _ => rfl⟩
  | late l a z p e hl h0 he hz hne h ih =>
    refine ⟨fun _ => ?_, fun h => absurd h hne⟩
    have := ih.1 hne
    have h1 := tokK_size l he
    rw [List.length_drop] at this
    omega
  | bad l a hl h0 he =>
    refine ⟨fun _ => ?_, fun h => absurd h he⟩
    have := len_pos hl
    omega
theorem Lex.ex : ∀ (n : Nat) (l : List UInt8) (a : Nat), l.length ≤ n → ∃ ts p e, Lex l a ts p e
  | 0, l, a, h => by
    obtain rfl : l = [] := List.length_eq_zero_iff.1 (by omega)
    exact ⟨_, _, _, Lex.nil a⟩
  | n + 1, l, a, h => by
    by_cases hl : l = []
    · subst hl; exact ⟨_, _, _, Lex.nil a⟩
    · have hp := len_pos hl
      by_cases h0 : 0 < leftK l
      · obtain ⟨ts, p, e, hx⟩ := Lex.ex n (l.drop (leftK l)) (a + leftK l) (by rw [List.length_drop]; omega)
        exact ⟨ts, p, e, Lex.left l a ts p e h0 hx⟩
      · have h0' : leftK l = 0 := by omega
        by_cases he : (tokK l).2.2 = 0
        · obtain ⟨s1, s2⟩ := tokK_size l he
          obtain ⟨z, hz⟩ := Int.eq_ofNat_of_zero_le (show 0 ≤ (tokK l).2.1 by omega)
          obtain ⟨ts, p, e, hx⟩ := Lex.ex n (l.drop z) (a + z) (by rw [List.length_drop]; omega)
          by_cases e0 : e = 0
          · subst e0
            obtain rfl := hx.place.2 rfl
            exact ⟨_, _, _, Lex.tok l a z ts hl h0' he hz hx⟩
          · obtain rfl := hx.err e0
            exact ⟨_, _, _, Lex.late l a z p e hl h0' he hz e0 hx⟩
        · exact ⟨_, _, _, Lex.bad l a hl h0' he⟩
def endT (n : Nat) : Tok := ⟨4, ⟨#[]⟩, 0, (n : Int)⟩
def answer (acc ts : List Tok) (p e : Int) (n : Nat) : List Tok × Int × Int := if e = 0 then (acc ++ ts ++ [endT n], 0, 0) else ([], p, e)
theorem allL_lex {l : List UInt8} {a : Nat} {ts : List Tok} {p e : Int} (h : Lex l a ts p e) : ∀ (s : ByteArray) (k : Nat) (acc : List Tok), s.data.toList.drop a = l → s.size - a < k → allL k s acc a = answer acc ts p e s.size := by
  induction h with
  | nil a =>
    intro s k acc hs hk
    obtain ⟨k, rfl⟩ : ∃ m, k = m + 1 := ⟨k - 1, by omega⟩
    have hle : s.size ≤ a := by
      have := congrArg List.length hs
      rw [List.length_drop, ← Lib.size_eq] at this
      simp only [List.length_nil] at this
      omega
    rw [all_done hle]
    unfold answer
    rw [if_pos rfl, List.append_nil]
    rfl
  | left l a ts p e h0 h ih =>
    intro s k acc hs hk
    obtain ⟨k, rfl⟩ : ∃ m, k = m + 1 := ⟨k - 1, by omega⟩
    have hne := leftK_ne h0
    have hlen : l.length = s.size - a := by rw [← hs, List.length_drop, ← Lib.size_eq]
    have := len_pos hne
    rw [allL, if_neg (by omega), B_end, hs, leftN_B l hne, if_pos h0]
    refine ih s k acc ?_ (by omega)
    rw [← hs, List.drop_drop]
  | tok l a z ts hl h0 he hz h ih =>
    intro s k acc hs hk
    obtain ⟨k, rfl⟩ : ∃ m, k = m + 1 := ⟨k - 1, by omega⟩
    have hlen : l.length = s.size - a := by rw [← hs, List.length_drop, ← Lib.size_eq]
    have := len_pos hl
    obtain ⟨s1, s2⟩ := tokK_size l he
    rw [allL, if_neg (by omega), B_end, hs, leftN_B l hl, if_neg (by omega), tokS_B l hl, if_pos he, hz, Int.toNat_natCast]
    rw [ih s k _ (by rw [← hs, List.drop_drop]) (by omega)]
    unfold answer
    rw [if_pos rfl, if_pos rfl]
    simp [tokAt]
  | late l a z p e hl h0 he hz hne h ih =>
    intro s k acc hs hk
    obtain ⟨k, rfl⟩ : ∃ m, k = m + 1 := ⟨k - 1, by omega⟩
    have hlen : l.length = s.size - a := by rw [← hs, List.length_drop, ← Lib.size_eq]
    have := len_pos hl
    obtain ⟨s1, s2⟩ := tokK_size l he
    rw [allL, if_neg (by omega), B_end, hs, leftN_B l hl, if_neg (by omega), tokS_B l hl, if_pos he, hz, Int.toNat_natCast]
    rw [ih s k _ (by rw [← hs, List.drop_drop]) (by omega)]
    unfold answer
    rw [if_neg hne, if_neg hne]
  | bad l a hl h0 he =>
    intro s k acc hs hk
    obtain ⟨k, rfl⟩ : ∃ m, k = m + 1 := ⟨k - 1, by omega⟩
    have hlen : l.length = s.size - a := by rw [← hs, List.length_drop, ← Lib.size_eq]
    have := len_pos hl
    rw [allL, if_neg (by omega), B_end, hs, leftN_B l hl, if_neg (by omega), tokS_B l hl, if_neg he]
    unfold answer
    rw [if_neg he]
theorem All_lex {l : List UInt8} {ts : List Tok} {p e : Int} (h : Lex l 0 ts p e) (hl : l.length ≤ 100000) : scan_All.f (B l) = some (answer [] ts p e l.length) := by
  unfold scan_All.f
  rw [B_size, if_pos hl, allL_lex h (B l) (l.length + 1) [] (by rw [B_list]; rfl) (by rw [B_size]; omega), B_size]
def sh (d : Nat) (t : Tok) : Tok := ⟨t.f0, t.f1, t.f2, t.f3 + (d : Int)⟩
theorem Lex.shift {l : List UInt8} {a : Nat} {ts : List Tok} {p e : Int} (h : Lex l a ts p e) (d : Nat) : Lex l (a + d) (ts.map (sh d)) (if e = 0 then 0 else p + (d : Int)) e := by
  induction h with
  | nil a => exact Lex.nil _
  | left l a ts p e h0 h ih =>
    refine Lex.left _ _ _ _ _ h0 ?_
    rw [Nat.add_right_comm]
    exact ih
  | tok l a z ts hl h0 he hz h ih =>
    rw [if_pos rfl] at ih ⊢
    have e1 : (tokAt l a :: ts).map (sh d) = tokAt l (a + d) :: ts.map (sh d) := by
      rw [List.map_cons]
      congr 1
    rw [e1]
    refine Lex.tok _ _ z _ hl h0 he hz ?_
    rw [Nat.add_right_comm]
    exact ih
  | late l a z p e hl h0 he hz hne h ih =>
    refine Lex.late _ _ z _ _ hl h0 he hz hne ?_
    rw [Nat.add_right_comm]
    exact ih
  | bad l a hl h0 he =>
    rw [if_neg he, show (a : Int) + (d : Int) = ((a + d : Nat) : Int) by omega]
    exact Lex.bad _ _ hl h0 he
theorem drop_app {l m : List UInt8} {n : Nat} (h : n ≤ l.length) : (l ++ m).drop n = l.drop n ++ m := List.drop_append_of_le_length h
theorem Lex.app {l : List UInt8} {a : Nat} {ts : List Tok} {p e : Int} (h : Lex l a ts p e) (m : List UInt8) : (e ≠ 0 → Lex (l ++ 10 :: m) a [] p e) ∧ (e = 0 → ∀ us q f, Lex (10 :: m) (a + l.length) us q f → Lex (l ++ 10 :: m) a (if f = 0 then ts ++ us else []) q f) := by
  induction h with
  | nil a =>
    refine ⟨fun h => absurd rfl h, fun _ us q f hx => ?_⟩
    rw [List.length_nil, Nat.add_zero] at hx
    rw [List.nil_append, List.nil_append]
    by_cases hf : f = 0
    · rw [if_pos hf]; exact hx
    · rw [if_neg hf]
      obtain rfl := hx.err hf
      exact hx
  | left l a ts p e h0 h ih =>
    have hne := leftK_ne h0
    have hle := leftK_le l
    have hk := leftK_app l m hne
    refine ⟨fun he => ?_, fun he us q f hx => ?_⟩
    · refine Lex.left _ _ _ _ _ (by rw [hk]; exact h0) ?_
      rw [hk, drop_app hle]
      exact ih.1 he
    · refine Lex.left _ _ _ _ _ (by rw [hk]; exact h0) ?_
      rw [hk, drop_app hle]
      refine ih.2 he us q f ?_
      rw [List.length_drop, show a + leftK l + (l.length - leftK l) = a + l.length by omega]
      exact hx
  | tok l a z ts hl h0 he hz h ih =>
    obtain ⟨s1, s2⟩ := tokK_size l he
    have hk := leftK_app l m hl
    have ht := tokK_app l m hl
    have hle : z ≤ l.length := by omega
    refine ⟨fun h => absurd rfl h, fun _ us q f hx => ?_⟩
    have hx2 := ih.2 rfl us q f (by
      rw [List.length_drop, show a + z + (l.length - z) = a + l.length by omega]
      exact hx)
    rw [← drop_app hle] at hx2
    by_cases hf : f = 0
    · subst hf
      rw [if_pos rfl] at hx2 ⊢
      obtain rfl := hx.place.2 rfl
      have e1 : tokAt l a = tokAt (l ++ 10 :: m) a := by unfold tokAt; rw [ht]
      rw [List.cons_append, e1]
      exact Lex.tok _ _ z _ (by simp) (by rw [hk]; exact h0) (by rw [ht]; exact he) (by rw [ht]; exact hz) hx2
    · rw [if_neg hf] at hx2 ⊢
      exact Lex.late _ _ z _ _ (by simp) (by rw [hk]; exact h0) (by rw [ht]; exact he) (by rw [ht]; exact hz) hf hx2
  | late l a z p e hl h0 he hz hne h ih =>
    obtain ⟨s1, s2⟩ := tokK_size l he
    have hk := leftK_app l m hl
    have ht := tokK_app l m hl
    have hle : z ≤ l.length := by omega
    refine ⟨fun _ => ?_, fun h => absurd h hne⟩
    have hx2 := ih.1 hne
    rw [← drop_app hle] at hx2
    exact Lex.late _ _ z _ _ (by simp) (by rw [hk]; exact h0) (by rw [ht]; exact he) (by rw [ht]; exact hz) hne hx2
  | bad l a hl h0 he =>
    have hk := leftK_app l m hl
    have ht := tokK_app l m hl
    refine ⟨fun _ => ?_, fun h => absurd h he⟩
    rw [← ht]
    exact Lex.bad _ _ (by simp) (by rw [hk]; exact h0) (by rw [ht]; exact he)
/-- a blank is left out -/
theorem Lex.blank {c : UInt8} {m : List UInt8} {a : Nat} {ts : List Tok} {p e : Int} (hc : blankB (c.toNat : Int) = true) (h : Lex m (a + 1) ts p e) : Lex (c :: m) a ts p e := by
  have hk : leftK (c :: m) = 1 := by rw [leftK_cons, if_pos hc]
  refine Lex.left _ _ _ _ _ (by rw [hk]; omega) ?_
  rw [hk]
  exact h
theorem ext_cut (s : ByteArray) (n : Nat) (hn : n ≤ s.size) : ∃ l : List UInt8, s.extract 0 n = B l ∧ l.length = n := ⟨s.data.toList.take n, by rw [B_ext, List.drop_zero, Nat.sub_zero], by rw [List.length_take, ← Lib.size_eq]; omega⟩
theorem mn_text (s : ByteArray) (n : Nat) : 0 ≤ mn (s.size : Int) n ∧ mn (s.size : Int) n ≤ (s.size : Int) ∧ ∃ l : List UInt8, s.extract 0 (mn (s.size : Int) n).toNat = B l ∧ l.length ≤ n := by
  have h : 0 ≤ mn (s.size : Int) n ∧ mn (s.size : Int) n ≤ (s.size : Int) ∧ mn (s.size : Int) n ≤ n := by
    unfold mn
    split <;> omega
  obtain ⟨l, h1, h2⟩ := ext_cut s (mn (s.size : Int) n).toNat (by omega)
  exact ⟨h.1, h.2.1, l, h1, by omega⟩
theorem B_app (a b : List UInt8) : B a ++ B b = B (a ++ b) := by
  apply B_eq
  show ((B a).append (B b)).data.toList = _
  simp [B]
theorem shown_05 : arboristlaw05_shown.f = some true := by decide +kernel
end Go.Proofs.YtfgabdfnbkmaeaaDoor.Pr

set_option linter.unusedVariables false
set_option linter.unusedSimpArgs false
namespace Go.Proofs.YtfgabdfnbkmaeaaDoor.Pr
open Go Go.RowKit Go.Proofs.YtfgabdfnbkmaeaaDoorW.PrintWords Go.Proofs.YtfgabdfnbkmaeaaDoorW.PrintLast Go.Proofs.YtfgabdfnbkmaeaaDoorW.PrintMore

theorem evn {ρ : Type} (n : Nat) {F g : Nat → Option ρ} {r : ρ} (h : Ev g r) (H : ∀ k, g k = some r → F (k + n) = some r) : Ev F r := by
  obtain ⟨K, e⟩ := h
  refine ⟨K + n, fun k hk => ?_⟩
  obtain ⟨m, rfl⟩ : ∃ m, k = m + n := ⟨k - n, by omega⟩
  exact H m (e _ (by omega))
theorem Lex.at {l : List UInt8} {a : Nat} {ts : List Tok} {p e : Int} (h : Lex l a ts p e) : ∀ t ∈ ts, (a : Int) ≤ t.f3 ∧ t.f3 < (a + l.length : Nat) := by
  induction h with
  | nil a => intro t ht; simp at ht
  | left l a ts p e h0 h ih =>
    intro t ht
    have := ih t ht
    have h1 := leftK_le l
    rw [List.length_drop] at this
    omega
  | tok l a z ts hl h0 he hz h ih =>
    intro t ht
    have h1 := tokK_size l he
    have := len_pos hl
    rcases List.mem_cons.1 ht with rfl | ht
    · show (a : Int) ≤ (a : Int) ∧ (a : Int) < _
      omega
    · have := ih t ht
      rw [List.length_drop] at this
      omega
  | late => intro t ht; simp at ht
  | bad => intro t ht; simp at ht
theorem Lex.few {l : List UInt8} {a : Nat} {ts : List Tok} {p e : Int} (h : Lex l a ts p e) : ts.length ≤ l.length := by
  induction h with
  | nil a => exact Nat.le_refl _
  | left l a ts p e h0 h ih => rw [List.length_drop] at ih; omega
  | tok l a z ts hl h0 he hz h ih =>
    have h1 := tokK_size l he
    rw [List.length_drop] at ih
    rw [List.length_cons]
    omega
  | late => simp
  | bad => simp
theorem rdT_nat (l : List Tok) (i : Nat) (h : i < l.length) : rd_T32 l (i : Int) = l[i] := by
  unfold rd_T32
  rw [Int.toNat_natCast, List.getD_eq_getElem?_getD, List.getElem?_eq_getElem h]
  rfl
theorem rdT_left (l m : List Tok) (i : Nat) (h : i < l.length) : rd_T32 (l ++ m) (i : Int) = l[i] := by
  rw [rdT_nat _ i (by rw [List.length_append]; omega), List.getElem_append_left h]
theorem rdT_right (l m : List Tok) (i : Nat) (h : i < m.length) : rd_T32 (l ++ m) ((l.length + i : Nat) : Int) = m[i] := by
  rw [rdT_nat _ _ (by rw [List.length_append]; omega), List.getElem_append_right (by omega)]
  congr 1
  omega
end Go.Proofs.YtfgabdfnbkmaeaaDoor.Pr

set_option linter.unusedVariables false
set_option linter.unusedSimpArgs false
namespace Go.Proofs.YtfgabdfnbkmaeaaDoor.Pr
open Go Go.RowKit Go.Proofs.YtfgabdfnbkmaeaaDoorW.PrintWords Go.Proofs.YtfgabdfnbkmaeaaDoorW.PrintLast Go.Proofs.YtfgabdfnbkmaeaaDoorW.PrintMore

theorem drop_hd (S : List UInt8) (i : Nat) (h : i < S.length) : ∃ c, S.drop i = c :: S.drop (i + 1) ∧ bt (B S) (i : Int) = (c.toNat : Int) :=
  ⟨S[i], List.drop_eq_getElem_cons h, by rw [bt_B S i h, List.drop_eq_getElem_cons h, hd_cons]⟩
def skipK : Bool → List UInt8 → Nat
  | _, [] => 0
  | b, c :: l => if (c.toNat : Int) = 10 then skipK false l + 1 else if (c.toNat : Int) = 35 then skipK true l + 1 else if (c.toNat : Int) = 32 then skipK b l + 1 else if (c.toNat : Int) = 9 then skipK b l + 1 else if b = true then skipK b l + 1 else 0
theorem skipK_cons (b : Bool) (c : UInt8) (l : List UInt8) : skipK b (c :: l) = if (c.toNat : Int) = 10 then skipK false l + 1 else if (c.toNat : Int) = 35 then skipK true l + 1 else if (c.toNat : Int) = 32 then skipK b l + 1 else if (c.toNat : Int) = 9 then skipK b l + 1 else if b = true then skipK b l + 1 else 0 := rfl
theorem skipK_le : ∀ (l : List UInt8) (b : Bool), skipK b l ≤ l.length
  | [], b => Nat.le_refl _
  | c :: l, b => by
    have h1 := skipK_le l false
    have h2 := skipK_le l true
    have h3 := skipK_le l b
    rw [skipK_cons, List.length_cons]
    repeat' split
    all_goals omega
theorem skip_l0 (S : List UInt8) (hS : S.length ≤ 100000) : ∀ (d i : Nat) (b : Bool), i + d = S.length → Ev (fun k => arboristref05_skip.l0 k (B S) (i : Int) b) ((i + skipK b (S.drop i) : Nat) : Int)
  | 0, i, b, h => by
    refine evs0 (fun k => ?_)
    rw [arboristref05_skip.l0, B_size, if_neg (by omega), List.drop_eq_nil_of_le (by omega)]
    rfl
  | d + 1, i, b, h => by
    obtain ⟨c, h1, h2⟩ := drop_hd S i (by omega)
    have r1 := skip_l0 S hS d (i + 1) false (by omega)
    have r2 := skip_l0 S hS d (i + 1) true (by omega)
    have r3 := skip_l0 S hS d (i + 1) b (by omega)
    rw [h1, skipK_cons]
    by_cases c1 : (c.toNat : Int) = 10
    · refine evs1 r1 (fun k e => ?_)
      rw [arboristref05_skip.l0, B_size, if_pos (by omega), if_pos (by omega), h2, if_pos c1, wrap_succ (by omega) (by omega), if_pos c1]
      rw [show i + (skipK false (S.drop (i + 1)) + 1) = i + 1 + skipK false (S.drop (i + 1)) by omega]
      exact e
    · by_cases c2 : (c.toNat : Int) = 35
      · refine evs1 r2 (fun k e => ?_)
        rw [arboristref05_skip.l0, B_size, if_pos (by omega), if_pos (by omega), h2, if_neg c1, if_pos c2, wrap_succ (by omega) (by omega), if_neg c1, if_pos c2]
        rw [show i + (skipK true (S.drop (i + 1)) + 1) = i + 1 + skipK true (S.drop (i + 1)) by omega]
        exact e
      · by_cases c3 : (c.toNat : Int) = 32
        · refine evs1 r3 (fun k e => ?_)
          rw [arboristref05_skip.l0, B_size, if_pos (by omega), if_pos (by omega), h2, if_neg c1, if_neg c2, if_pos c3, wrap_succ (by omega) (by omega), if_neg c1, if_neg c2, if_pos c3]
          rw [show i + (skipK b (S.drop (i + 1)) + 1) = i + 1 + skipK b (S.drop (i + 1)) by omega]
          exact e
        · by_cases c4 : (c.toNat : Int) = 9
          · refine evs1 r3 (fun k e => ?_)
            rw [arboristref05_skip.l0, B_size, if_pos (by omega), if_pos (by omega), h2, if_neg c1, if_neg c2, if_neg c3, if_pos c4, wrap_succ (by omega) (by omega), if_neg c1, if_neg c2, if_neg c3, if_pos c4]
            rw [show i + (skipK b (S.drop (i + 1)) + 1) = i + 1 + skipK b (S.drop (i + 1)) by omega]
            exact e
          · by_cases c5 : b = true
            · refine evs1 r3 (fun k e => ?_)
              rw [arboristref05_skip.l0, B_size, if_pos (by omega), if_pos (by omega), h2, if_neg c1, if_neg c2, if_neg c3, if_neg c4, if_pos c5, wrap_succ (by omega) (by omega), if_neg c1, if_neg c2, if_neg c3, if_neg c4, if_pos c5]
              rw [show i + (skipK b (S.drop (i + 1)) + 1) = i + 1 + skipK b (S.drop (i + 1)) by omega]
              exact e
            · refine evs0 (fun k => ?_)
              rw [arboristref05_skip.l0, B_size, if_pos (by omega), if_pos (by omega), h2, if_neg c1, if_neg c2, if_neg c3, if_neg c4, if_neg c5, if_neg c1, if_neg c2, if_neg c3, if_neg c4, if_neg c5]
              rfl
theorem skip_ev (S : List UInt8) (hS : S.length ≤ 100000) (i : Nat) (hi : i ≤ S.length) : Ev (fun k => arboristref05_skip.f k (B S) (i : Int)) ((i + skipK false (S.drop i) : Nat) : Int) := skip_l0 S hS (S.length - i) i false (by omega)
theorem skip_note : ∀ (l : List UInt8), skipK true l = runL (fun c => c != 10) l + skipK false (l.drop (runL (fun c => c != 10) l))
  | [] => rfl
  | c :: l => by
    have ih := skip_note l
    have hr : runL (fun c => c != 10) (c :: l) = if (c.toNat : Int) = 10 then 0 else runL (fun c => c != 10) l + 1 := by
      show (if ((c.toNat : Int) != 10) = true then _ else 0) = _
      by_cases c1 : (c.toNat : Int) = 10
      · rw [if_pos c1, if_neg (by simp [c1])]
      · rw [if_neg c1, if_pos (by simpa using c1)]
    rw [hr]
    by_cases c1 : (c.toNat : Int) = 10
    · rw [if_pos c1, skipK_cons, if_pos c1, List.drop_zero, skipK_cons, if_pos c1, Nat.zero_add]
    · have e : skipK true (c :: l) = skipK true l + 1 := by
        rw [skipK_cons, if_neg c1]
        by_cases c2 : (c.toNat : Int) = 35
        · rw [if_pos c2]
        · rw [if_neg c2]
          by_cases c3 : (c.toNat : Int) = 32
          · rw [if_pos c3]
          · rw [if_neg c3]
            by_cases c4 : (c.toNat : Int) = 9
            · rw [if_pos c4]
            · rw [if_neg c4, if_pos rfl]
      rw [if_neg c1, e, ih, List.drop_succ_cons]
      omega
/-- what is left out from a place on -/
theorem lex_skip : ∀ (n : Nat) (l : List UInt8) (a : Nat) (ts : List Tok) (p e : Int), l.length ≤ n → Lex (l.drop (skipK false l)) (a + skipK false l) ts p e → Lex l a ts p e
  | n, [], a, ts, p, e, _, h => h
  | 0, c :: l, a, ts, p, e, hn, _ => by simp at hn
  | n + 1, c :: l, a, ts, p, e, hn, h => by
    rw [List.length_cons] at hn
    rw [skipK_cons] at h
    have go1 : ∀ b : UInt8, blankB (b.toNat : Int) = true → Lex ((b :: l).drop (skipK false l + 1)) (a + (skipK false l + 1)) ts p e → Lex (b :: l) a ts p e := fun b hb h => by
      rw [List.drop_succ_cons, show a + (skipK false l + 1) = a + 1 + skipK false l by omega] at h
      exact Lex.blank hb (lex_skip n l (a + 1) ts p e (by omega) h)
    by_cases c1 : (c.toNat : Int) = 10
    · rw [if_pos c1] at h
      exact go1 c (by unfold blankB; simp [c1]) h
    · rw [if_neg c1] at h
      by_cases c2 : (c.toNat : Int) = 35
      · rw [if_pos c2] at h
        have hb : blankB (c.toNat : Int) = false := by rw [c2]; decide
        have hr : runL (fun c => c != 10) (c :: l) = runL (fun c => c != 10) l + 1 := by
          show (if ((c.toNat : Int) != 10) = true then _ else 0) = _
          rw [if_pos (by simpa using c1)]
        have hk : leftK (c :: l) = runL (fun c => c != 10) l + 1 := by rw [leftK_cons, hb, if_neg (by decide), if_pos c2, hr]
        have hle := runL_le (fun c => c != 10) l
        refine Lex.left _ _ _ _ _ (by rw [hk]; omega) ?_
        rw [hk, List.drop_succ_cons]
        refine lex_skip n _ _ ts p e (by rw [List.length_drop]; omega) ?_
        rw [List.drop_drop]
        rw [skip_note l, List.drop_succ_cons] at h
        rw [show a + (runL (fun c => c != 10) l + 1) + skipK false (l.drop (runL (fun c => c != 10) l)) = a + (runL (fun c => c != 10) l + skipK false (l.drop (runL (fun c => c != 10) l)) + 1) by omega]
        exact h
      · rw [if_neg c2] at h
        by_cases c3 : (c.toNat : Int) = 32
        · rw [if_pos c3] at h
          exact go1 c (by unfold blankB; simp [c3]) h
        · rw [if_neg c3] at h
          by_cases c4 : (c.toNat : Int) = 9
          · rw [if_pos c4] at h
            exact go1 c (by unfold blankB; simp [c4]) h
          · rw [if_neg c4, if_neg (by decide)] at h
            exact h
/-- behind what is left out nothing is left out -/
theorem skip_end : ∀ (l : List UInt8) (b : Bool), leftK (l.drop (skipK b l)) = 0
  | [], b => rfl
  | c :: l, b => by
    rw [skipK_cons]
    by_cases c1 : (c.toNat : Int) = 10
    · rw [if_pos c1, List.drop_succ_cons]; exact skip_end l false
    · rw [if_neg c1]
      by_cases c2 : (c.toNat : Int) = 35
      · rw [if_pos c2, List.drop_succ_cons]; exact skip_end l true
      · rw [if_neg c2]
        by_cases c3 : (c.toNat : Int) = 32
        · rw [if_pos c3, List.drop_succ_cons]; exact skip_end l b
        · rw [if_neg c3]
          by_cases c4 : (c.toNat : Int) = 9
          · rw [if_pos c4, List.drop_succ_cons]; exact skip_end l b
          · rw [if_neg c4]
            by_cases c5 : b = true
            · rw [if_pos c5, List.drop_succ_cons]; exact skip_end l b
            · rw [if_neg c5, List.drop_zero, leftK_cons]
              have hb : blankB (c.toNat : Int) = false := by
                unfold blankB
                rw [beq_false_of_ne c3, beq_false_of_ne c4, beq_false_of_ne c1]
                rfl
              rw [hb, if_neg (by decide), if_neg c2]
theorem ref_letter (S : List UInt8) (i : Nat) : arboristref05_letter.f (B S) (i : Int) = some (letP (hd (S.drop i))) := by
  unfold arboristref05_letter.f
  by_cases c : i < S.length
  · rw [B_size, if_pos (by omega), if_pos (by omega), bt_B S i c]
    unfold letP
    by_cases c1 : hd (S.drop i) ≥ 97
    · rw [if_pos c1, decide_eq_true (show 97 ≤ hd (S.drop i) from c1), Bool.true_and]
    · rw [if_neg c1, decide_eq_false (show ¬ 97 ≤ hd (S.drop i) from c1), Bool.false_and]
  · rw [B_size, if_neg (by omega), List.drop_eq_nil_of_le (by omega)]
    rfl
theorem ref_digit (S : List UInt8) (i : Nat) : arboristref05_digit.f (B S) (i : Int) = some (digP (hd (S.drop i))) := by
  unfold arboristref05_digit.f
  by_cases c : i < S.length
  · rw [B_size, if_pos (by omega), if_pos (by omega), bt_B S i c]
    unfold digP
    by_cases c1 : hd (S.drop i) ≥ 48
    · rw [if_pos c1, decide_eq_true (show 48 ≤ hd (S.drop i) from c1), Bool.true_and]
    · rw [if_neg c1, decide_eq_false (show ¬ 48 ≤ hd (S.drop i) from c1), Bool.false_and]
  · rw [B_size, if_neg (by omega), List.drop_eq_nil_of_le (by omega)]
    rfl
/-- what the document's number answers -/
theorem ref_num_l0 (S : List UInt8) (hS : S.length ≤ 100000) (f : Nat) (mi : Nat) (hmi : mi ≤ 1) (D : List UInt8) (hD : S.drop f = D) : ∀ (d i v : Nat) (n : Int) (ov : Bool) (pre : List UInt8), i = f + pre.length → D = pre ++ S.drop i → Digs pre → v = valK 0 pre → i + d = S.length → f ≤ i → runL digP D = pre.length + runL digP (S.drop i) → ov = decide (1000000000000 < v) → (v ≤ 1000000000000 → n = (v : Int)) → (1000000000000 < v → 1000000000000 < n) → n ≤ 10000000000009 → 0 ≤ n →
    ∃ n2 : Int, Ev (fun k => arboristref05_number.l0 k (B S) (i : Int) (decide (mi = 1)) (f : Int) n ov) (n2, ((f + runL digP D : Nat) : Int), (numD mi D).2.2) ∧ ((numD mi D).2.2 = 0 → n2 = (numD mi D).1 ∧ (numD mi D).2.1 = ((mi + runL digP D : Nat) : Int))
  | d, i, v, n, ov, pre, hi, hp, hpre, hv, hd_, hfi, hrun, hov, hn1, hn2, hn3, hn4 => by
    by_cases cd : digP (hd (S.drop i)) = true
    · have hiS : i < S.length := by
        by_cases c : i < S.length
        · exact c
        · rw [List.drop_eq_nil_of_le (by omega)] at cd
          exact absurd cd (by decide)
      obtain ⟨d, rfl⟩ : ∃ m, d = m + 1 := ⟨d - 1, by omega⟩
      obtain ⟨c, h1, h2⟩ := drop_hd S i hiS
      have hc : 48 ≤ c.toNat ∧ c.toNat ≤ 57 := by
        rw [h1, hd_cons] at cd
        unfold digP at cd
        rw [Bool.and_eq_true, decide_eq_true_iff, decide_eq_true_iff] at cd
        omega
      have hrc : runL digP (S.drop i) = runL digP (S.drop (i + 1)) + 1 := by
        rw [h1]
        show (if digP (c.toNat : Int) = true then _ else 0) = _
        rw [h1, hd_cons] at cd
        rw [if_pos cd]
      have hv2 : v * 10 + (c.toNat - 48) = valK 0 (pre ++ [c]) := by
        have := valK_app 0 pre [c]
        rw [this, ← hv, valK_cons, valK_nil]
      have hdig : ((c.toNat : Int) - 48) % 256 = (c.toNat : Int) - 48 := by omega
      have hpre2 : Digs (pre ++ [c]) := fun x hx => by
        rcases List.mem_append.1 hx with h | h
        · exact hpre x h
        · obtain rfl := List.mem_singleton.1 h; exact hc
      have hlen2 : (pre ++ [c]).length = pre.length + 1 := by simp
      by_cases cv : 1000000000000 < v
      · have ih := ref_num_l0 S hS f mi hmi D hD d (i + 1) (v * 10 + (c.toNat - 48)) n true (pre ++ [c]) (by rw [hlen2]; omega) (by rw [hp, h1]; simp) hpre2 hv2 (by omega) (by omega) (by rw [hlen2]; omega) (by rw [decide_eq_true (by omega)]) (fun h => by omega) (fun _ => hn2 cv) hn3 hn4
        obtain ⟨n2, e1, e2⟩ := ih
        refine ⟨n2, evs1 e1 (fun k e => ?_), e2⟩
        rw [arboristref05_number.l0, ref_digit, Option.bind_some, if_pos cd, if_neg (by have := hn2 cv; omega), wrap_succ (by omega) (by omega), hov, decide_eq_true cv, if_pos rfl]
        exact e
      · have hnv := hn1 (by omega)
        have hw : wrap64 ((wrap64 (n * 10)) + ((c.toNat : Int) - 48)) = ((v * 10 + (c.toNat - 48) : Nat) : Int) := by unfold wrap64; omega
        have ih := ref_num_l0 S hS f mi hmi D hD d (i + 1) (v * 10 + (c.toNat - 48)) ((v * 10 + (c.toNat - 48) : Nat) : Int) (decide (1000000000000 < v * 10 + (c.toNat - 48))) (pre ++ [c]) (by rw [hlen2]; omega) (by rw [hp, h1]; simp) hpre2 hv2 (by omega) (by omega) (by rw [hlen2]; omega) rfl (fun _ => rfl) (fun h => by omega) (by omega) (by omega)
        obtain ⟨n2, e1, e2⟩ := ih
        refine ⟨n2, evs1 e1 (fun k e => ?_), e2⟩
        rw [arboristref05_number.l0, ref_digit, Option.bind_some, if_pos cd, if_pos (by omega), if_pos (by omega), B_size, if_pos (by omega), wrap_succ (by omega) (by omega), hov, decide_eq_false cv, if_neg (by decide), h2, hdig, hw]
        rw [show decide (((v * 10 + (c.toNat - 48) : Nat) : Int) > 1000000000000) = decide (1000000000000 < v * 10 + (c.toNat - 48)) from decide_eq_decide.2 (by omega)]
        exact e
    · have hr0 : runL digP (S.drop i) = 0 := by
        cases hx : S.drop i with
        | nil => rfl
        | cons c r =>
          rw [hx, hd_cons] at cd
          show (if digP (c.toNat : Int) = true then _ else 0) = 0
          rw [if_neg cd]
      rw [hr0, Nat.add_zero] at hrun
      have htake : D.take (runL digP D) = pre := by
        rw [hrun, hp, List.take_left']
        rfl
      have hstep : ∀ k, arboristref05_number.l0 (k + 1) (B S) (i : Int) (decide (mi = 1)) (f : Int) n ov = if (i : Int) = (f : Int) then (arboristref05_number.j2 k (i : Int) (decide (mi = 1)) n ov true) else (if 0 ≤ (f : Int) then (if (f : Int) < ((B S).size : Int) then (if (bt (B S) (f : Int)) = 48 then (if (i : Int) > (wrap64 ((f : Int) + 1)) then (arboristref05_number.j2 k (i : Int) (decide (mi = 1)) n ov true) else (arboristref05_number.j2 k (i : Int) (decide (mi = 1)) n ov (decide (mi = 1)))) else (arboristref05_number.j2 k (i : Int) (decide (mi = 1)) n ov false)) else (none)) else (none)) := fun k => by
        rw [arboristref05_number.l0, ref_digit, Option.bind_some, if_neg cd]
      have bad : (i : Int) = ((f + runL digP D : Nat) : Int) := by omega
      have hbad : numD mi D = (0, 0, 2) → (∀ k, arboristref05_number.l0 (k + 2) (B S) (i : Int) (decide (mi = 1)) (f : Int) n ov = arboristref05_number.j2 (k + 1) (i : Int) (decide (mi = 1)) n ov true) → ∃ n2 : Int, Ev (fun k => arboristref05_number.l0 k (B S) (i : Int) (decide (mi = 1)) (f : Int) n ov) (n2, ((f + runL digP D : Nat) : Int), (numD mi D).2.2) ∧ ((numD mi D).2.2 = 0 → n2 = (numD mi D).1 ∧ (numD mi D).2.1 = ((mi + runL digP D : Nat) : Int)) := fun hN hk => by
        refine ⟨0, ⟨2, fun k hk2 => ?_⟩, fun h => ?_⟩
        · obtain ⟨k, rfl⟩ : ∃ m, k = m + 2 := ⟨k - 2, by omega⟩
          show arboristref05_number.l0 (k + 2) (B S) (i : Int) (decide (mi = 1)) (f : Int) n ov = _
          rw [hk, arboristref05_number.j2, if_pos rfl, hN, bad]
        · rw [hN] at h
          exact absurd h (by decide)
      have hgood : numD mi D = valS mi v (mi + runL digP D) → (∀ k, arboristref05_number.l0 (k + 2) (B S) (i : Int) (decide (mi = 1)) (f : Int) n ov = arboristref05_number.j2 (k + 1) (i : Int) (decide (mi = 1)) n ov false) → ∃ n2 : Int, Ev (fun k => arboristref05_number.l0 k (B S) (i : Int) (decide (mi = 1)) (f : Int) n ov) (n2, ((f + runL digP D : Nat) : Int), (numD mi D).2.2) ∧ ((numD mi D).2.2 = 0 → n2 = (numD mi D).1 ∧ (numD mi D).2.1 = ((mi + runL digP D : Nat) : Int)) := fun hN hk => by
        rw [hN]
        unfold valS
        by_cases cv : 1000000000000 < v
        · rw [if_pos cv]
          refine ⟨0, ⟨2, fun k hk2 => ?_⟩, fun h => absurd h (by decide)⟩
          obtain ⟨k, rfl⟩ : ∃ m, k = m + 2 := ⟨k - 2, by omega⟩
          show arboristref05_number.l0 (k + 2) (B S) (i : Int) (decide (mi = 1)) (f : Int) n ov = _
          rw [hk, arboristref05_number.j2, if_neg (by decide), hov, decide_eq_true cv, if_pos rfl, bad]
        · rw [if_neg cv]
          have hnv := hn1 (by omega)
          refine ⟨if mi = 1 then -(v : Int) else (v : Int), ⟨2, fun k hk2 => ?_⟩, fun _ => ⟨rfl, rfl⟩⟩
          obtain ⟨k, rfl⟩ : ∃ m, k = m + 2 := ⟨k - 2, by omega⟩
          show arboristref05_number.l0 (k + 2) (B S) (i : Int) (decide (mi = 1)) (f : Int) n ov = _
          rw [hk, arboristref05_number.j2, if_neg (by decide), hov, decide_eq_false cv, if_neg (by decide), bad]
          by_cases cm : mi = 1
          · rw [decide_eq_true cm, if_pos rfl, if_pos cm, hnv, show wrap64 (-(v : Int)) = -(v : Int) by unfold wrap64; omega]
          · rw [decide_eq_false cm, if_neg (by decide), if_neg cm, hnv]
      by_cases c0 : runL digP D = 0
      · refine hbad (by unfold numD; rw [if_pos c0]) (fun k => ?_)
        rw [hstep, if_pos (by omega)]
      · have hfS : f < S.length := by
          by_cases c : f < S.length
          · exact c
          · rw [List.drop_eq_nil_of_le (by omega)] at hD
            rw [← hD] at c0
            exact absurd rfl c0
        have hbt : bt (B S) (f : Int) = hd D := by rw [bt_B S f hfS, hD]
        have hpre_ : ∀ k, arboristref05_number.l0 (k + 1) (B S) (i : Int) (decide (mi = 1)) (f : Int) n ov = if hd D = 48 then (if (i : Int) > (f : Int) + 1 then (arboristref05_number.j2 k (i : Int) (decide (mi = 1)) n ov true) else (arboristref05_number.j2 k (i : Int) (decide (mi = 1)) n ov (decide (mi = 1)))) else (arboristref05_number.j2 k (i : Int) (decide (mi = 1)) n ov false) := fun k => by
          rw [hstep, if_neg (by omega), if_pos (by omega), B_size, if_pos (by omega), hbt, wrap_succ (by omega) (by omega)]
        by_cases c8 : hd D = 48
        · by_cases c9 : 1 < runL digP D + mi
          · refine hbad (by unfold numD; rw [if_neg c0, if_pos ⟨c8, c9⟩]) (fun k => ?_)
            rw [hpre_, if_pos c8]
            by_cases c10 : (i : Int) > (f : Int) + 1
            · rw [if_pos c10]
            · rw [if_neg c10, decide_eq_true (show mi = 1 by omega)]
          · refine hgood (by unfold numD; rw [if_neg c0, if_neg (fun h => c9 h.2), htake, hv]) (fun k => ?_)
            rw [hpre_, if_pos c8, if_neg (by omega), decide_eq_false (show ¬ mi = 1 by omega)]
        · refine hgood (by unfold numD; rw [if_neg c0, if_neg (fun h => c8 h.1), htake, hv]) (fun k => ?_)
          rw [hpre_, if_neg c8]
theorem ref_num (S : List UInt8) (hS : S.length ≤ 100000) (a : Nat) (ha : a < S.length) :
    ∃ n2 t2 : Int, Ev (fun k => arboristref05_number.f k (B S) (a : Int)) (n2, t2, (numK (S.drop a)).2.2) ∧ ((numK (S.drop a)).2.2 = 0 → n2 = (numK (S.drop a)).1 ∧ t2 = (a : Int) + (numK (S.drop a)).2.1) := by
  obtain ⟨c, h1, h2⟩ := drop_hd S a ha
  have hN : numK (S.drop a) = if c.toNat = 45 then numD 1 (S.drop (a + 1)) else numD 0 (S.drop a) := by
    rw [h1, numK_cons]
  have hf : ∀ k, arboristref05_number.f k (B S) (a : Int) = if (c.toNat : Int) = 45 then (arboristref05_number.j0 k (B S) ((a + 1 : Nat) : Int) ((c.toNat : Int) == 45)) else (arboristref05_number.j0 k (B S) (a : Int) ((c.toNat : Int) == 45)) := fun k => by
    unfold arboristref05_number.f
    rw [B_size, if_pos (by omega), if_pos (by omega), h2, wrap_succ (by omega) (by omega)]
    rfl
  by_cases c1 : c.toNat = 45
  · rw [if_pos c1] at hN
    obtain ⟨n2, e1, e2⟩ := ref_num_l0 S hS (a + 1) 1 (Nat.le_refl _) _ rfl (S.length - (a + 1)) (a + 1) 0 0 false [] rfl rfl (fun x hx => by simp at hx) rfl (by omega) (Nat.le_refl _) (by simp) rfl (fun _ => rfl) (fun h => by omega) (by omega) (by omega)
    rw [hN]
    refine ⟨n2, _, evn 1 e1 (fun k e => ?_), fun h => ?_⟩
    · show arboristref05_number.f (k + 1) (B S) (a : Int) = _
      rw [hf, if_pos (by omega), arboristref05_number.j0, show ((c.toNat : Int) == 45) = decide ((1 : Nat) = 1) by rw [c1]; rfl]
      exact e
    · obtain ⟨q1, q2⟩ := e2 h
      exact ⟨q1, by rw [q2]; omega⟩
  · rw [if_neg c1] at hN
    obtain ⟨n2, e1, e2⟩ := ref_num_l0 S hS a 0 (by omega) _ rfl (S.length - a) a 0 0 false [] rfl rfl (fun x hx => by simp at hx) rfl (by omega) (Nat.le_refl _) (by simp) rfl (fun _ => rfl) (fun h => by omega) (by omega) (by omega)
    rw [hN]
    refine ⟨n2, _, evn 1 e1 (fun k e => ?_), fun h => ?_⟩
    · show arboristref05_number.f (k + 1) (B S) (a : Int) = _
      rw [hf, if_neg (by omega), arboristref05_number.j0, show ((c.toNat : Int) == 45) = decide ((0 : Nat) = 1) by rw [beq_false_of_ne (by omega)]; rfl]
      exact e
    · obtain ⟨q1, q2⟩ := e2 h
      exact ⟨q1, by rw [q2]; omega⟩
end Go.Proofs.YtfgabdfnbkmaeaaDoor.Pr

set_option linter.unusedVariables false
set_option linter.unusedSimpArgs false
namespace Go.Proofs.YtfgabdfnbkmaeaaDoor.Pure
open Go Go.RowKit Go.Proofs.YtfgabdfnbkmaeaaDoor.Pr Go.Proofs.YtfgabdfnbkmaeaaDoorW.PrintWords Go.Proofs.YtfgabdfnbkmaeaaDoorW.PrintLast Go.Proofs.YtfgabdfnbkmaeaaDoorW.PrintMore

abbrev TokR := S31
def cv (t : Tok) : TokR := ⟨t.f0, t.f1, t.f2, t.f3⟩
def ans (n : Nat) (acc ts : List Tok) (p e : Int) : List TokR × Int × Int := if e = 0 then ((acc ++ ts ++ [endT n]).map cv, 0, 0) else ([], p, e)
theorem runL_stop (p : Int → Bool) (h0 : p 0 = false) : ∀ (l : List UInt8), p (hd (l.drop (runL p l))) = false
  | [] => h0
  | c :: l => by
    by_cases c1 : p (c.toNat : Int) = true
    · have e : runL p (c :: l) = runL p l + 1 := by show (if p (c.toNat : Int) = true then _ else 0) = _; rw [if_pos c1]
      rw [e, List.drop_succ_cons]
      exact runL_stop p h0 l
    · have e : runL p (c :: l) = 0 := by show (if p (c.toNat : Int) = true then _ else 0) = _; rw [if_neg c1]
      rw [e, List.drop_zero, hd_cons]
      exact Bool.not_eq_true _ |>.mp c1
theorem letters (S : List UInt8) (hS : S.length ≤ 100000) (x : List TokR) (a b : Int) (R : List TokR × Int × Int) : ∀ (d i : Nat), runL letP (S.drop i) = d → Ev (fun k => arboristref05_All.l1 k (B S) x a b ((i + d : Nat) : Int)) R → Ev (fun k => arboristref05_All.l1 k (B S) x a b (i : Int)) R
  | 0, i, _, h => h
  | d + 1, i, hr, h => by
    have hiS : i < S.length := by
      by_cases c : i < S.length
      · exact c
      · rw [List.drop_eq_nil_of_le (by omega)] at hr
        cases hr
    obtain ⟨c, h1, h2⟩ := drop_hd S i hiS
    have hc : letP (c.toNat : Int) = true ∧ runL letP (S.drop (i + 1)) = d := by
      rw [h1] at hr
      have hr2 : (if letP (c.toNat : Int) = true then runL letP (S.drop (i + 1)) + 1 else 0) = d + 1 := hr
      by_cases c1 : letP (c.toNat : Int) = true
      · rw [if_pos c1] at hr2; exact ⟨c1, by omega⟩
      · rw [if_neg c1] at hr2; omega
    refine evs1 (letters S hS x a b R d (i + 1) hc.2 (by rw [show i + 1 + d = i + (d + 1) by omega]; exact h)) (fun k e => ?_)
    rw [arboristref05_All.l1, ref_letter, Option.bind_some, h1, hd_cons, if_pos hc.1, wrap_succ (by omega) (by omega)]
    exact e
theorem sign_of {c : Int} (h : signB c = true) : c = 58 ∨ c = 44 ∨ c = 59 := by
  unfold signB at h
  rw [Bool.or_eq_true, Bool.or_eq_true, beq_iff_eq, beq_iff_eq, beq_iff_eq] at h
  omega
theorem sign_not {c : Int} (h : signB c = false) : c ≠ 58 ∧ c ≠ 44 ∧ c ≠ 59 := by
  refine ⟨?_, ?_, ?_⟩ <;> (rintro rfl; exact absurd h (by decide))
theorem j2_sign (S : List UInt8) (x : List TokR) (a : Nat) (c : Int) (hs : signB c = true) (ha : a < S.length) (hS : S.length ≤ 100000) (hx : x.length ≤ 100000) (k : Nat) : arboristref05_All.j2 (k + 1) (B S) x (a : Int) c false = (arboristref05_skip.f k (B S) ((a + 1 : Nat) : Int)).bind fun t => arboristref05_All.l0 k (B S) (x ++ [(⟨3, (B S).extract ((a : Int)).toNat (((a + 1 : Nat) : Int)).toNat, 0, (a : Int)⟩ : TokR)]) t := by
  have hw : wrap64 ((a : Int) + 1) = ((a + 1 : Nat) : Int) := wrap_succ (by omega) (by omega)
  have h1 : (0 : Int) ≤ (a : Int) := by omega
  have h2 : (a : Int) ≤ ((a + 1 : Nat) : Int) := by omega
  have h3 : ((a + 1 : Nat) : Int) ≤ ((B S).size : Int) := by rw [B_size]; omega
  have h4 : x.length < 3518437208883 := by omega
  rw [arboristref05_All.j2, if_neg (by decide), hw]
  rcases sign_of hs with rfl | rfl | rfl
  · rw [if_pos rfl, if_pos h1, if_pos h2, if_pos h3, if_pos h4]
  · rw [if_neg (by decide), if_pos rfl, if_pos h1, if_pos h2, if_pos h3, if_pos h4]
  · rw [if_neg (by decide), if_neg (by decide), if_pos rfl, if_pos h1, if_pos h2, if_pos h3, if_pos h4]
theorem j2_bad (S : List UInt8) (x : List TokR) (a : Nat) (c : Int) (hs : signB c = false) (k : Nat) : arboristref05_All.j2 (k + 1) (B S) x (a : Int) c false = some ([], (a : Int), 2) := by
  have h := sign_not hs
  rw [arboristref05_All.j2, if_neg (by decide), if_neg h.1, if_neg h.2.1, if_neg h.2.2]
set_option maxHeartbeats 2000000 in
theorem ref_all (S : List UInt8) (hS : S.length ≤ 100000) : ∀ (n a : Nat) (acc : List Tok), S.length - a ≤ n → a ≤ S.length → leftK (S.drop a) = 0 → acc.length ≤ a →
    ∃ ts p e, Lex (S.drop a) a ts p e ∧ Ev (fun k => arboristref05_All.l0 k (B S) (acc.map cv) (a : Int)) (ans S.length acc ts p e) := by
  intro n
  induction n with
  | zero =>
    intro a acc hn ha hk hacc
    have he : S.drop a = [] := List.drop_eq_nil_of_le (by omega)
    refine ⟨[], 0, 0, by rw [he]; exact Lex.nil _, evs0 (fun k => ?_)⟩
    rw [arboristref05_All.l0, B_size, if_neg (by omega), if_pos (by rw [List.length_map]; omega)]
    unfold ans
    rw [if_pos rfl, List.append_nil, List.map_append]
    rfl
  | succ n ih =>
    intro a acc hn ha hk hacc
    by_cases hlt : a < S.length
    case neg =>
      have he : S.drop a = [] := List.drop_eq_nil_of_le (by omega)
      refine ⟨[], 0, 0, by rw [he]; exact Lex.nil _, evs0 (fun k => ?_)⟩
      rw [arboristref05_All.l0, B_size, if_neg (by omega), if_pos (by rw [List.length_map]; omega)]
      unfold ans
      rw [if_pos rfl, List.append_nil, List.map_append]
      rfl
    obtain ⟨c, h1, h2⟩ := drop_hd S a hlt
    obtain ⟨l, hl⟩ : ∃ l, l = S.drop a := ⟨_, rfl⟩
    have hl2 : l = c :: S.drop (a + 1) := by rw [hl, h1]
    have hne : l ≠ [] := by rw [hl2]; simp
    have hlen : l.length = S.length - a := by rw [hl, List.length_drop]
    rw [← hl] at hk ⊢
    have cont : ∀ z : Nat, 1 ≤ z → z ≤ l.length → (tokK l).2.2 = 0 → (tokK l).2.1 = (z : Int) → ∃ ts p e, Lex l a ts p e ∧ Ev (fun k => (arboristref05_skip.f k (B S) ((a + z : Nat) : Int)).bind fun t => arboristref05_All.l0 k (B S) ((acc ++ [tokAt l a]).map cv) t) (ans S.length acc ts p e) := by
      intro z z1 z2 he hz
      have hsk := skipK_le (S.drop (a + z)) false
      rw [List.length_drop] at hsk
      obtain ⟨ts, p, e, hx, hev⟩ := ih (a + z + skipK false (S.drop (a + z))) (acc ++ [tokAt l a]) (by omega) (by omega) (by rw [← List.drop_drop]; exact skip_end _ _) (by rw [List.length_append, List.length_cons, List.length_nil]; omega)
      have hs := skip_ev S hS (a + z) (by omega)
      rw [← List.drop_drop] at hx
      have hx2 := lex_skip _ _ _ _ _ _ (Nat.le_refl _) hx
      have hdz : S.drop (a + z) = l.drop z := by rw [hl, List.drop_drop]
      rw [hdz] at hx2
      by_cases e0 : e = 0
      · subst e0
        obtain rfl := hx2.place.2 rfl
        refine ⟨_, _, _, Lex.tok l a z ts hne hk he hz hx2, ?_⟩
        refine evu2 hs hev (fun k q1 q2 => ?_)
        show (arboristref05_skip.f k (B S) ((a + z : Nat) : Int)).bind _ = _
        rw [q1, Option.bind_some, q2]
        unfold ans
        rw [if_pos rfl, if_pos rfl]
        simp
      · obtain rfl := hx2.err e0
        refine ⟨_, _, _, Lex.late l a z p e hne hk he hz e0 hx2, ?_⟩
        refine evu2 hs hev (fun k q1 q2 => ?_)
        show (arboristref05_skip.f k (B S) ((a + z : Nat) : Int)).bind _ = _
        rw [q1, Option.bind_some, q2]
        unfold ans
        rw [if_neg e0, if_neg e0]
    have start : ∀ ts p e, Ev (fun k => arboristref05_All.l1 k (B S) (acc.map cv) (a : Int) (c.toNat : Int) (a : Int)) (ans S.length acc ts p e) → Ev (fun k => arboristref05_All.l0 k (B S) (acc.map cv) (a : Int)) (ans S.length acc ts p e) := fun ts p e h => by
      refine evs1 h (fun k q => ?_)
      rw [arboristref05_All.l0, B_size, if_pos (by omega), if_pos (by omega), h2]
      exact q
    obtain ⟨m, hm⟩ : ∃ m, m = runL letP l := ⟨_, rfl⟩
    have hml := runL_le letP l
    rw [← hm] at hml
    have hstop := runL_stop letP (by decide) l
    rw [← hm] at hstop
    have hdm : S.drop (a + m) = l.drop m := by rw [hl, List.drop_drop]
    have hdig : digP (hd (S.drop a)) = digP (c.toNat : Int) := by rw [h1, hd_cons]
    have hl1 : ∀ k, arboristref05_All.l1 (k + 1) (B S) (acc.map cv) (a : Int) (c.toNat : Int) ((a + m : Nat) : Int) = if ((a + m : Nat) : Int) > (a : Int) then ((arboristref05_skip.f k (B S) ((a + m : Nat) : Int)).bind fun t170 => (arboristref05_All.l0 k (B S) (acc.map cv ++ [(⟨1, (B S).extract ((a : Int)).toNat (((a + m : Nat) : Int)).toNat, 0, (a : Int)⟩ : TokR)]) t170)) else (if digP (c.toNat : Int) = true then (arboristref05_All.j2 k (B S) (acc.map cv) (a : Int) (c.toNat : Int) true) else (arboristref05_All.j2 k (B S) (acc.map cv) (a : Int) (c.toNat : Int) ((c.toNat : Int) == 45))) := fun k => by
      rw [arboristref05_All.l1, ref_letter, Option.bind_some, hdm, hstop, if_neg (by decide), ref_digit, Option.bind_some, hdig]
      by_cases cm : ((a + m : Nat) : Int) > (a : Int)
      · rw [if_pos cm, if_pos cm, if_pos (by omega), if_pos (by omega), B_size, if_pos (by omega), if_pos (by rw [List.length_map]; omega)]
      · rw [if_neg cm, if_neg cm]
    by_cases cm : 0 < m
    · have hlc : letP (c.toNat : Int) = true := by
        by_cases c1 : letP (c.toNat : Int) = true
        · exact c1
        · have : runL letP l = 0 := by rw [hl2]; show (if letP (c.toNat : Int) = true then _ else 0) = _; rw [if_neg c1]
          omega
      have hsg : signB (c.toNat : Int) = false := by
        unfold letP at hlc
        rw [Bool.and_eq_true, decide_eq_true_iff, decide_eq_true_iff] at hlc
        unfold signB
        rw [beq_false_of_ne (show (c.toNat : Int) ≠ 58 by omega), beq_false_of_ne (show (c.toNat : Int) ≠ 44 by omega), beq_false_of_ne (show (c.toNat : Int) ≠ 59 by omega)]
        rfl
      have ht : tokK l = ((1, B (l.take m), 0), ((m : Nat) : Int), 0) := by
        rw [hm, hl2, tokK_cons, hsg, if_neg (by decide), if_pos hlc]
      obtain ⟨ts, p, e, hx, hev⟩ := cont m cm hml (by rw [ht]) (by rw [ht])
      refine ⟨ts, p, e, hx, start ts p e (letters S hS _ _ _ _ m a (by rw [← hl, hm]) (evs1 hev (fun k q => ?_)))⟩
      rw [hl1, if_pos (by omega)]
      have hcv : acc.map cv ++ [(⟨1, (B S).extract ((a : Int)).toNat (((a + m : Nat) : Int)).toNat, 0, (a : Int)⟩ : TokR)] = (acc ++ [tokAt l a]).map cv := by
        rw [List.map_append, List.map_cons, List.map_nil, B_ext, Int.toNat_natCast, Int.toNat_natCast, B_list, ← hl, Nat.add_sub_cancel_left]
        unfold cv tokAt
        rw [ht]
      rw [hcv]
      exact q
    · obtain rfl : m = 0 := by omega
      have hlc : letP (c.toNat : Int) = false := by
        by_cases c1 : letP (c.toNat : Int) = true
        · have : runL letP l = runL letP (S.drop (a + 1)) + 1 := by rw [hl2]; show (if letP (c.toNat : Int) = true then _ else 0) = _; rw [if_pos c1]
          omega
        · exact Bool.not_eq_true _ |>.mp c1
      have hl0 : ∀ ts p e (b : Bool), (digP (c.toNat : Int) = true → b = true) → (digP (c.toNat : Int) = false → b = ((c.toNat : Int) == 45)) → Ev (fun k => arboristref05_All.j2 k (B S) (acc.map cv) (a : Int) (c.toNat : Int) b) (ans S.length acc ts p e) → Ev (fun k => arboristref05_All.l0 k (B S) (acc.map cv) (a : Int)) (ans S.length acc ts p e) := fun ts p e b b1 b2 h => by
        refine start ts p e (evs1 h (fun k q => ?_))
        have e1 := hl1 k
        simp only [Nat.add_zero] at e1
        rw [e1, if_neg (by omega)]
        by_cases cd : digP (c.toNat : Int) = true
        · rw [if_pos cd, ← b1 cd]; exact q
        · rw [if_neg cd, ← b2 (Bool.not_eq_true _ |>.mp cd)]; exact q
      by_cases cn : digP (c.toNat : Int) = true ∨ (c.toNat : Int) = 45
      · have hsg : signB (c.toNat : Int) = false := by
          have : (48 ≤ c.toNat ∧ c.toNat ≤ 57) ∨ c.toNat = 45 := by
            rcases cn with cn | cn
            · unfold digP at cn
              rw [Bool.and_eq_true, decide_eq_true_iff, decide_eq_true_iff] at cn
              omega
            · omega
          unfold signB
          rw [beq_false_of_ne (show (c.toNat : Int) ≠ 58 by omega), beq_false_of_ne (show (c.toNat : Int) ≠ 44 by omega), beq_false_of_ne (show (c.toNat : Int) ≠ 59 by omega)]
          rfl
        have ht : tokK l = ((2, ⟨#[]⟩, (numK l).1), (numK l).2.1, (numK l).2.2) := by
          rw [hl2, tokK_cons, hsg, if_neg (by decide), hlc, if_neg (by decide), if_pos cn]
        obtain ⟨n2, t2, e1, e2⟩ := ref_num S hS a hlt
        rw [← hl] at e1 e2
        have hb1 : digP (c.toNat : Int) = false → true = ((c.toNat : Int) == 45) := fun h => by
          rcases cn with cn | cn
          · rw [h] at cn; cases cn
          · rw [cn]; rfl
        by_cases he : (numK l).2.2 = 0
        · obtain ⟨q1, q2⟩ := e2 he
          obtain ⟨s1, s2⟩ := tokK_size l (by rw [ht]; exact he)
          rw [ht] at s1 s2
          simp only [] at s1 s2
          obtain ⟨z, hz⟩ := Int.eq_ofNat_of_zero_le (show 0 ≤ (numK l).2.1 by omega)
          obtain ⟨ts, p, e, hx, hev⟩ := cont z (by omega) (by omega) (by rw [ht]; exact he) (by rw [ht]; exact hz)
          refine ⟨ts, p, e, hx, hl0 ts p e true (fun _ => rfl) hb1 (evs2 e1 hev (fun k r1 r2 => ?_))⟩
          rw [arboristref05_All.j2, if_pos rfl, r1, Option.bind_some]
          simp only []
          rw [if_pos he, if_pos (by rw [List.length_map]; omega), q1, q2, hz]
          have hcv : acc.map cv ++ [(⟨2, (⟨#[]⟩ : ByteArray), (numK l).1, (a : Int)⟩ : TokR)] = (acc ++ [tokAt l a]).map cv := by
            rw [List.map_append, List.map_cons, List.map_nil]
            unfold cv tokAt
            rw [ht]
          rw [hcv]
          exact r2
        · refine ⟨[], (a : Int), (numK l).2.2, ?_, hl0 _ _ _ true (fun _ => rfl) hb1 (evs1 e1 (fun k r1 => ?_))⟩
          · have := Lex.bad l a hne hk (by rw [ht]; exact he)
            rw [ht] at this
            exact this
          · rw [arboristref05_All.j2, if_pos rfl, r1, Option.bind_some]
            simp only []
            rw [if_neg he]
            unfold ans
            rw [if_neg he]
      · have hnd : digP (c.toNat : Int) = false := Bool.not_eq_true _ |>.mp (fun h => cn (.inl h))
        have h45 : ((c.toNat : Int) == 45) = false := beq_false_of_ne (fun h => cn (.inr h))
        by_cases cs : signB (c.toNat : Int) = true
        · have ht : tokK l = ((3, B [c], 0), 1, 0) := by rw [hl2, tokK_cons, if_pos cs]
          obtain ⟨ts, p, e, hx, hev⟩ := cont 1 (Nat.le_refl _) (by omega) (by rw [ht]) (by rw [ht]; rfl)
          refine ⟨ts, p, e, hx, hl0 ts p e false (fun h => by rw [hnd] at h; cases h) (fun _ => h45.symm) (evs1 hev (fun k q => ?_))⟩
          have hcv : acc.map cv ++ [(⟨3, (B S).extract ((a : Int)).toNat (((a + 1 : Nat) : Int)).toNat, 0, (a : Int)⟩ : TokR)] = (acc ++ [tokAt l a]).map cv := by
            rw [List.map_append, List.map_cons, List.map_nil, B_ext, Int.toNat_natCast, Int.toNat_natCast, B_list, h1, Nat.add_sub_cancel_left, List.take_succ_cons, List.take_zero]
            unfold cv tokAt
            rw [ht]
          rw [j2_sign S _ a _ cs hlt hS (by rw [List.length_map]; omega) k, hcv]
          exact q
        · have hs : signB (c.toNat : Int) = false := Bool.not_eq_true _ |>.mp cs
          have ht : tokK l = ((0, ⟨#[]⟩, 0), 0, 2) := by rw [hl2, tokK_cons, hs, if_neg (by decide), hlc, if_neg (by decide), if_neg cn]
          refine ⟨[], (a : Int), 2, ?_, hl0 _ _ _ false (fun h => by rw [hnd] at h; cases h) (fun _ => h45.symm) (evs0 (fun k => ?_))⟩
          · have := Lex.bad l a hne hk (by rw [ht]; decide)
            rw [ht] at this
            exact this
          · rw [j2_bad S _ a _ hs k]
            unfold ans
            rw [if_neg (by decide)]
theorem rdR_nat (l : List Tok) (i : Nat) (h : i < l.length) : rd_T31 (l.map cv) (i : Int) = cv l[i] := by
  unfold rd_T31
  rw [Int.toNat_natCast, List.getD_eq_getElem?_getD, List.getElem?_map, List.getElem?_eq_getElem h]
  rfl
theorem tells_l0 (l : List Tok) (hl : l.length ≤ 100000) : ∀ (d i : Nat), i + d = l.length → Ev (fun k => arboristlaw05_ScanTells.l0 k true l (l.map cv) (i : Int)) true
  | 0, i, h => by
    refine evs0 (fun k => ?_)
    rw [arboristlaw05_ScanTells.l0, if_neg (by omega)]
  | d + 1, i, h => by
    refine evs1 (tells_l0 l hl d (i + 1) (by omega)) (fun k e => ?_)
    have hi : i < l.length := by omega
    have hc : (!((l[i].f0) == ((cv l[i]).f0)) || (!((l[i].f1).toList == ((cv l[i]).f1).toList) || (!((l[i].f2) == ((cv l[i]).f2)) || (!((l[i].f3) == ((cv l[i]).f3)))))) = false := by simp [cv]
    rw [arboristlaw05_ScanTells.l0, if_pos (by omega), if_pos (by omega), List.length_map, if_pos (by omega), rdT_nat l i hi, rdR_nat l i hi, hc, if_neg (by decide), wrap_succ (by omega) (by omega)]
    exact e
theorem ScanTells : arboristlaw05_ScanTells.Pure := by
  intro s _
  obtain ⟨m1, m2, l, hl, hn⟩ := mn_text s 3000
  rw [show ((3000 : Nat) : Int) = 3000 from rfl] at m1 m2 hl
  have hsk := skipK_le l false
  obtain ⟨ts, p, e, hx, hev⟩ := ref_all l (by omega) l.length (skipK false l) [] (by omega) hsk (skip_end _ _) (Nat.zero_le _)
  have hx2 : Lex l 0 ts p e := lex_skip _ l 0 ts p e (Nat.le_refl _) (by rw [Nat.zero_add]; exact hx)
  have e1 := All_lex hx2 (by omega)
  have hs := skip_ev l (by omega) 0 (Nat.zero_le _)
  rw [Nat.zero_add, List.drop_zero] at hs
  obtain ⟨T, hT⟩ : ∃ T : List Tok, T = if e = 0 then ts ++ [endT l.length] else [] := ⟨_, rfl⟩
  have a1 : answer [] ts p e l.length = (T, (if e = 0 then 0 else p), e) := by
    unfold answer
    rw [hT]
    by_cases he : e = 0
    · rw [if_pos he, if_pos he, if_pos he, he]; rfl
    · rw [if_neg he, if_neg he, if_neg he]
  have a2 : ans l.length [] ts p e = (T.map cv, (if e = 0 then 0 else p), e) := by
    unfold ans
    rw [hT]
    by_cases he : e = 0
    · rw [if_pos he, if_pos he, if_pos he, he]; rfl
    · rw [if_neg he, if_neg he, if_neg he]; rfl
  have hTl : T.length ≤ 100000 := by
    have := hx2.few
    rw [hT]
    split
    · rw [List.length_append, List.length_cons, List.length_nil]; omega
    · simp
  rw [a2] at hev
  rw [a1] at e1
  have hev2 : Ev (fun k => arboristref05_All.f k (B l)) (T.map cv, (if e = 0 then 0 else p), e) := by
    refine evu2 hs hev (fun k q1 q2 => ?_)
    show arboristref05_All.f k (B l) = _
    unfold arboristref05_All.f
    rw [B_size, if_neg (by omega)]
    have q1' : arboristref05_skip.f k (B l) 0 = some ((skipK false l : Nat) : Int) := q1
    rw [q1', Option.bind_some]
    exact q2
  have hloop := tells_l0 T hTl T.length 0 (by omega)
  have hj : Ev (fun k => arboristlaw05_ScanTells.j0 k true T (T.map cv) false) true := evs1 hloop (fun k q => by
    rw [arboristlaw05_ScanTells.j0, if_neg (by decide)]
    exact q)
  refine (evu2 (F := fun k => arboristlaw05_ScanTells.f k s) hev2 hj (fun k q1 q2 => ?_)).rounds
  simp only [arboristlaw05_ScanTells.f]
  rw [shown_05, Option.bind_some, if_pos m1, if_pos m2, hl, e1, Option.bind_some, q1, Option.bind_some]
  rw [if_pos rfl, if_pos rfl, List.length_map, show ((T.length : Int) != (T.length : Int)) = false by simp]
  exact q2
end Go.Proofs.YtfgabdfnbkmaeaaDoor.Pure
