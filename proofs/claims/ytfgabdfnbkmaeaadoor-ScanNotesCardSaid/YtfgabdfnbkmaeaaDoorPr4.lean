-- Printed by a program of this session's own (wip/tools/pp.py) over the kit's print.py; Lean checks it.
import Derived.Test.YtfgabdfnbkmaeaaDoorPr0
import Derived.Test.YtfgabdfnbkmaeaaDoorPr3
namespace Go.Proofs.YtfgabdfnbkmaeaaDoor.Pr
open Go.RowKit Go.Proofs.YtfgabdfnbkmaeaaDoorW.PrintWords Go.Proofs.YtfgabdfnbkmaeaaDoorW.PrintLast Go.Proofs.YtfgabdfnbkmaeaaDoorW.PrintMore
attribute [local go_sem] max2_int min2_int max_two min_two max_three min_three max_four min_four   -- for this text's walks alone
set_option linter.unusedVariables false
set_option linter.unusedSimpArgs false

-- given by hand
/-! ### scan_run: function 20 -/
/-- how many bytes at the begin are so -/
def runL (p : Int → Bool) : List UInt8 → Nat
  | [] => 0
  | c :: l => if p (c.toNat : Int) = true then runL p l + 1 else 0
theorem runL_le (p : Int → Bool) : ∀ l, runL p l ≤ l.length
  | [] => Nat.le_refl _
  | c :: l => by
    have := runL_le p l
    rw [runL, List.length_cons]
    split <;> omega
theorem bt_nat (s : ByteArray) (k : Nat) (h : k < s.size) : bt s (k : Int) = (s[k].toNat : Int) := (bt_at s (k : Int) h).symm
theorem runL_drop (p : Int → Bool) (s : ByteArray) (k : Nat) (h : k < s.size) : runL p (s.data.toList.drop k) = if p (bt s (k : Int)) = true then runL p (s.data.toList.drop (k + 1)) + 1 else 0 := by
  have hl : k < s.data.toList.length := by simpa using h
  rw [List.drop_eq_getElem_cons hl, runL, bt_nat s k h]
  rfl
set_option maxHeartbeats 2000000 in
theorem scan_run.callsF (p : Int → Bool) (g : Nat) (eg : ∀ args w, (callFunc g args).run Tryd.prog w = .ok (.enter g args) w) (hg : ∀ (c : Int) (w : World), Calls Tryd.prog g #[.int .u8 c] w fun e w' => e = .returned (.bool (p c)) ∧ Drawn0 w w') (s : ByteArray) (hs : s.size ≤ 140737488351232) (w : World) :
    Calls Tryd.prog 20 #[.string s, .func (.func g) #[] #[]] w fun e w' => e = .returned (.int .i64 (runL p s.data.toList : Nat)) ∧ Drawn0 w w' := by
  have HG := Aside0.mk hg
  obtain ⟨R, hR⟩ : ∃ R, R = runL p s.data.toList := ⟨_, rfl⟩
  have HR := Aside0.mk hR
  rw [← hR]
  clear hg hR
  go_enter Tryd.func20, Tryd.ntmps20
  go_wp2
  go_loopg [5] s.size (fun gg s5 wr => ∃ k : Nat, s5 = .int .i64 k ∧ k ≤ s.size ∧ Aside0 (s.size - k ≤ gg) ∧ Aside0 (Drawn0 w wr) ∧ Aside0 (k + runL p (s.data.toList.drop k) = R))
  case atStart => exact ⟨0, rfl, Nat.zero_le _, ⟨Nat.le_refl _⟩, ⟨Drawn0.refl _⟩, ⟨by rw [HR.out, List.drop_zero, Nat.zero_add]⟩⟩
  case round =>
    obtain ⟨k, rfl, hk, HK, HD, HI⟩ := hrel
    by_cases hlt : k < s.size
    · have hltz : (k : Int) < (s.size : Int) := by omega
      have HS := Aside0.mk (runL_drop p s k hlt)
      have hx := (bt_nat s k hlt).symm
      obtain ⟨c, hc⟩ : ∃ c, c = bt s (k : Int) := ⟨_, rfl⟩
      rw [← hc] at hx HS
      have HC := Aside0.mk (HG.out c wr)
      clear hc
      cases hq : p c with
      | true =>
        rw [hq] at HC
        have HQ := Aside0.mk hq
        clear hq
        go_wp2_with (go_at_fn g; refine HC.out.mono ?_; rintro e w' ⟨rfl, ⟨q, rfl⟩⟩)
        go_roundg (s.size - (k + 1))
        case measure => have := HK.out; omega
        case rel => exact ⟨k + 1, by go_num, by omega, ⟨Nat.le_refl _⟩, ⟨by obtain ⟨m, hm⟩ := HD.out; exact ⟨m + q, by rw [hm, World.drewN_drewN]⟩⟩, ⟨by have h1 := HS.out; rw [if_pos HQ.out] at h1; have h2 := HI.out; omega⟩⟩
      | false =>
        rw [hq] at HC
        have HQ := Aside0.mk hq
        clear hq
        go_wp2_with (go_at_fn g; refine HC.out.mono ?_; rintro e w' ⟨rfl, ⟨q, rfl⟩⟩)
        go_ret
        exact ⟨ret_int (by have h1 := HS.out; rw [if_neg (by rw [HQ.out]; decide)] at h1; have h2 := HI.out; omega), by obtain ⟨m, hm⟩ := HD.out; exact ⟨m + q, by rw [hm, World.drewN_drewN]⟩⟩
    · have hltz : ¬ (k : Int) < (s.size : Int) := by omega
      have HE := Aside0.mk (show k = R by have h2 := HI.out; rw [List.drop_eq_nil_of_le (by simp; omega)] at h2; exact h2)
      go_wp2
      go_ret
      exact ⟨ret_int (by have := HE.out; omega), HD.out⟩

end Go.Proofs.YtfgabdfnbkmaeaaDoor.Pr
