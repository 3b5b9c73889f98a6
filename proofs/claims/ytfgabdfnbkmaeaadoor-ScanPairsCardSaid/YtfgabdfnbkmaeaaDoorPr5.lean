-- Printed by a program of this session's own (wip/tools/pp.py) over the kit's print.py; Lean checks it.
import Derived.Test.YtfgabdfnbkmaeaaDoorShelf
import Derived.Test.YtfgabdfnbkmaeaaDoorPr0
import Derived.Test.YtfgabdfnbkmaeaaDoorPr4
namespace Go.Proofs.YtfgabdfnbkmaeaaDoor.Pr
open Go.RowKit Go.Proofs.YtfgabdfnbkmaeaaDoorW.PrintWords Go.Proofs.YtfgabdfnbkmaeaaDoorW.PrintLast Go.Proofs.YtfgabdfnbkmaeaaDoorW.PrintMore
attribute [local go_sem] max2_int min2_int max_two min_two max_three min_three max_four min_four   -- for this text's walks alone
set_option linter.unusedVariables false
set_option linter.unusedSimpArgs false

-- given by hand
/-! ### scan_left: function 13 -/
-- needs scan_run
-- IMPORT Derived.Test.YtfgabdfnbkmaeaaDoorShelf
theorem u8_eq (x : UInt8) (c : Int) (h0 : 0 ≤ c) (h1 : c ≤ 255) : (x == c.toNat.toUInt8) = (c == (x.toNat : Int)) := by
  have hx := x.toNat_lt
  rw [Bool.eq_iff_iff, beq_iff_eq, beq_iff_eq, ← UInt8.toNat_inj]
  have e : c.toNat.toUInt8.toNat = c.toNat := by
    show c.toNat % 256 = c.toNat
    omega
  rw [e]
  omega
theorem ib_ge (a b d : UInt8) (c : Int) (h0 : 0 ≤ c) (h1 : c ≤ 255) : decide (0 ≤ Lib.indexByte [a, b, d] c.toNat.toUInt8) = (c == (a.toNat : Int) || c == (b.toNat : Int) || c == (d.toNat : Int)) := by
  unfold Lib.indexByte Lib.indexByte Lib.indexByte Lib.indexByte
  rw [u8_eq a c h0 h1, u8_eq b c h0 h1, u8_eq d c h0 h1]
  cases (c == (a.toNat : Int)) <;> cases (c == (b.toNat : Int)) <;> cases (c == (d.toNat : Int)) <;> rfl
def blankB (c : Int) : Bool := c == 32 || c == 9 || c == 10
def leftN (s : ByteArray) : Nat := if blankB (bt s 0) = true then 1 else if bt s 0 = 35 then runL (fun c => c != 10) s.data.toList else 0
theorem scan_left.lit (c : Int) (w : World) : Calls Tryd.prog 21 #[.int .u8 c] w fun e w' => e = .returned (.bool (c != 10)) ∧ Drawn0 w w' := by
  go_enter Tryd.func21, Tryd.ntmps21
  go_wp2
  go_ret
  exact ⟨rfl, Drawn0.refl _⟩
set_option maxHeartbeats 2000000 in
theorem scan_left.callsL (s : ByteArray) (h0 : 0 < s.size) (hs : s.size ≤ 140737488351232) (w : World) : Calls Tryd.prog 13 #[.string s] w fun e w' => e = .returned (.int .i64 (leftN s : Nat)) ∧ Drawn0 w w' := by
  have HX := Aside0.mk (bt_nat s 0 h0).symm
  obtain ⟨b0, b1⟩ := bt_range s 0
  unfold leftN
  have HRUN := Aside0.mk (scan_run.callsF (fun c => c != 10) 21 (enters_of Tryd.func21 (by kernel_rfl) rfl) scan_left.lit s hs)
  obtain ⟨c, hc⟩ : ∃ c, c = bt s 0 := ⟨_, rfl⟩
  have HX2 := HX.out
  rw [show ((0 : Nat) : Int) = 0 from rfl, ← hc] at HX2
  rw [← hc] at b0 b1 ⊢
  clear hc HX
  obtain ⟨z, hz⟩ : ∃ z, z = Lib.indexByte [32, 9, 10] c.toNat.toUInt8 := ⟨_, rfl⟩
  have HIB := Aside0.mk (fun w => (by rw [hz]; exact Go.Proofs.Tryd.strings_IndexByte ⟨#[32, 9, 10]⟩ c w : Calls Tryd.prog 19 #[.string ⟨#[32, 9, 10]⟩, .int .u8 c] w fun e w' => e = .returned (.int .i64 z) ∧ w' = w))
  have hge : decide (0 ≤ z) = blankB c := by rw [hz]; exact ib_ge 32 9 10 c b0 b1
  clear hz b0 b1
  by_cases c1 : blankB c = true
  · rw [c1] at hge
    rw [if_pos c1]
    clear c1
    go_enter Tryd.func13, Tryd.ntmps13
    go_wp2_with (go_at_call 19; refine (HIB.out _).mono ?_; rintro e w' ⟨rfl, rfl⟩)
    go_ret
    exact ⟨rfl, Drawn0.refl _⟩
  · rw [Bool.not_eq_true _ |>.mp c1] at hge
    rw [if_neg c1]
    clear c1
    by_cases c2 : c = 35
    · have h35 : (c == 35) = true := by simpa using c2
      rw [if_pos c2]
      clear c2
      obtain ⟨R, hR⟩ : ∃ R, R = runL (fun c => c != 10) s.data.toList := ⟨_, rfl⟩
      rw [← hR] at HRUN ⊢
      clear hR
      go_enter Tryd.func13, Tryd.ntmps13
      go_wp2_with (first | (go_at_call 19; refine (HIB.out _).mono ?_; rintro e w' ⟨rfl, rfl⟩) | (go_at_call 20; refine (HRUN.out _).mono ?_; rintro e w' ⟨rfl, hd⟩; have HD := Aside0.mk hd; clear hd))
      go_ret
      exact ⟨rfl, HD.out⟩
    · have h35 : (c == 35) = false := beq_false_of_ne c2
      rw [if_neg c2]
      clear c2
      go_enter Tryd.func13, Tryd.ntmps13
      go_wp2_with (go_at_call 19; refine (HIB.out _).mono ?_; rintro e w' ⟨rfl, rfl⟩)
      go_ret
      exact ⟨rfl, Drawn0.refl _⟩

end Go.Proofs.YtfgabdfnbkmaeaaDoor.Pr
