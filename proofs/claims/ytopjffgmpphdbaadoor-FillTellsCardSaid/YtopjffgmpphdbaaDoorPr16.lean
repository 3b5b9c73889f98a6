-- Printed by a program of this session's own (wip/tools/pp.py) over the kit's print.py; Lean checks it.
import Derived.Shelf.Spec.TrailingZeros
import Derived.Test.YtopjffgmpphdbaaDoorPr0
namespace Go.Proofs.YtopjffgmpphdbaaDoor.Pr
open Go.RowKit Go.Proofs.YtopjffgmpphdbaaDoorW.PrintWords Go.Proofs.YtopjffgmpphdbaaDoorW.PrintLast Go.Proofs.YtopjffgmpphdbaaDoorW.PrintMore
attribute [local go_sem] max2_int min2_int max_two min_two max_three min_three max_four min_four
set_option linter.unusedVariables false
set_option linter.unusedSimpArgs false
/-! ### bits_TrailingZeros64: function 58 -/
/-- The table that TrailingZeros64 reads, as the row's condition gives it. -/
def Tab64 (w : World) : Prop := TabAt 0 Lib.deBruijn64tab w
theorem tab_below {w W : World} (h : Tab64 w) (hb : Below w.heap.size w W) : Tab64 W := fun j hj => pw_cell_below hb (h j hj)
theorem tab_drewN {w : World} (h : Tab64 w) (n : Nat) : Tab64 (w.drewN n) := tab_below h (pw_below_drewN (Below.refl _ _) n)
def bits_TrailingZeros64.f (a0 : Int) : Option Int := if 0 ≤ a0 ∧ a0 < 18446744073709551616 then some ((Lib.ctz 64 a0.toNat : Nat) : Int) else none
theorem bits_TrailingZeros64.core (x k idx : Nat) (w : World) (hx0 : ((x : Int) == 0) = false)
  (key : IntKind.u64.wrap (bits BinOp.and IntKind.u64 (x : Int) (IntKind.u64.wrap (-(x : Int))) * 285870213051353865) / 288230376151711744 = (idx : Int))
  (hi : idx < 64) (hk : k < 64) (hcell : w.cell? ⟨0, idx, none⟩ = some (.int .u8 k)) :
  Calls Tryd.prog 58 #[.int .u64 x] w fun e w' => e = .returned (.int .i64 k) ∧ w' = w := by
 go_enter Tryd.func58, Tryd.ntmps58
 go_wp2_with (simp only [key])
 go_ret
 exact ⟨rfl, rfl⟩
theorem bits_TrailingZeros64.zero (w : World) :
  Calls Tryd.prog 58 #[.int .u64 0] w fun e w' => e = .returned (.int .i64 64) ∧ w' = w := by
 go_enter Tryd.func58, Tryd.ntmps58
 go_wp2
 go_ret
 exact ⟨rfl, rfl⟩
theorem bits_TrailingZeros64.whole (x : Nat) (hx : x < 18446744073709551616) (w : World) (hT : Tab64 w) :
  Calls Tryd.prog 58 #[.int .u64 x] w fun e w' => e = .returned (.int .i64 (Lib.ctz 64 x)) ∧ w' = w := by
 by_cases hx0 : x = 0
 ·subst hx0;exact bits_TrailingZeros64.zero w
 ·obtain ⟨hlow, hk⟩ := Lib.lowest_bit 64 x hx0 hx;obtain ⟨hi, htab⟩ := Lib.deBruijn64_at _ hk;have hcell := hT _ hi;rw [htab] at hcell
  exact bits_TrailingZeros64.core x _ _ w (by simp; omega) (tz64_key x _ hx hx0 hlow) hi hk hcell
theorem bits_TrailingZeros64.calls (a0 : Int) (r : Int) (w : World) (hTb : Tab64 w) (h : bits_TrailingZeros64.f a0 = some r) :
  Calls Tryd.prog 58 #[.int .u64 a0] w fun e w' => e = .returned (.int .i64 r) ∧ Drawn0 w w' := by
 unfold bits_TrailingZeros64.f at h
 split at h
 case isFalse => cases h
 rename_i hx
 obtain ⟨x, rfl⟩ := Int.eq_ofNat_of_zero_le hx.1;rw [Int.toNat_natCast] at h
 obtain rfl := Option.some.inj h;refine (bits_TrailingZeros64.whole x (by have := hx.2; omega) w hTb).mono ?_;rintro e w' ⟨rfl, rfl⟩
 exact ⟨rfl, Drawn0.refl _⟩
end Go.Proofs.YtopjffgmpphdbaaDoor.Pr
