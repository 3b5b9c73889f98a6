-- Printed by a program of this session's own (wip/tools/pp.py) over the kit's print.py; Lean checks it.
import Derived.Test.YtpmfdggbccbfaaaPr0
import Derived.Test.YtpmfdggbccbfaaaPr1
namespace Go.Proofs.Ytpmfdggbccbfaaa.Pr
open Go.RowKit Go.Proofs.YtpmfdggbccbfaaaW.PrintWords Go.Proofs.YtpmfdggbccbfaaaW.PrintLast Go.Proofs.YtpmfdggbccbfaaaW.PrintMore
attribute [local go_sem] max2_int min2_int max_two min_two max_three min_three max_four min_four   -- for this text's walks alone
set_option linter.unusedVariables false
set_option linter.unusedSimpArgs false

-- given by hand
/-! ### slices_Index_int_int: function 57 -/
def slices_Index_int_int.f (l0 : List Int) (a1 : Int) : Option Int := some (idxOf (fun x => x == a1) l0 0)
set_option maxHeartbeats 2000000 in
theorem slices_Index_int_int.calls (A0 : Option Addr) (c0 : Nat) (l0 : List Int) (a1 : Int) (r : Int) (w : World) (hr0 : Kd.C (Kd.int .i64) w A0 l0.length l0) (hc0 : l0.length ≤ c0) (h : slices_Index_int_int.f l0 a1 = some r) :
    Calls Try.prog 57 #[.slice A0 l0.length c0, .int .i64 a1] w fun e w' => e = .returned (.int .i64 r) ∧ Drawn0 w w' := by
  have HE := Aside0.mk (Option.some.inj h)
  have HR := Aside0.mk hr0
  have hlen := hr0.2.1
  obtain ⟨n, hn⟩ : ∃ n, n = l0.length := ⟨_, rfl⟩
  rw [← hn] at hlen ⊢
  have HN := Aside0.mk hn
  clear hr0 hc0 h hn
  go_enter Try.func57, Try.ntmps57
  go_wp2
  go_loopg [5, 8] n (fun gg _ s8 wr => ∃ kk : Nat, s8 = .int .i64 kk ∧ kk ≤ n ∧ Aside0 (n - kk ≤ gg) ∧ Aside0 (Drawn0 w wr) ∧ Aside0 (idxOf (fun x => x == a1) (l0.drop kk) kk = r))
  case atStart => exact ⟨0, rfl, Nat.zero_le _, ⟨Nat.le_refl _⟩, ⟨Drawn0.refl _⟩, HE⟩
  case round =>
    obtain ⟨kk, rfl, hkk, HG, HB, HI⟩ := hrel
    by_cases hlt : kk < n
    · have hltz : (kk : Int) < (n : Int) := by omega
      obtain ⟨ad, v, x, rfl, hx, hxm, hk, hcell⟩ := elem_one (d := Kd.int .i64) rfl HR.out HB.out.below kk (by rw [← HN.out]; exact hlt)
      obtain rfl : v = .int .i64 x := by have h2 : [v] = [.int .i64 x] := hk; injection h2
      have HX := Aside0.mk hx
      clear hx hxm hk
      by_cases hq : x = a1
      · have hb : (a1 == x) = true := by rw [hq]; simp
        have HQ := Aside0.mk hq
        clear hq
        go_wp2
        first | go_quiet (fail) | skip
        go_wp2
        go_ret
        refine ⟨ret_int ?_, by first | exact HB.out | exact HB.out.step _⟩
        rw [← HI.out, idx_step _ l0 kk x HX.out, if_pos (by rw [HQ.out]; simp)]
      · have hb : (a1 == x) = false := by simp; exact fun e => hq e.symm
        have HQ := Aside0.mk hq
        clear hq
        go_wp2
        first | go_quiet (fail) | skip
        go_wp2
        go_roundg (n - (kk + 1))
        case measure => have := HG.out; omega
        case rel =>
          refine ⟨kk + 1, by go_num, by omega, ⟨Nat.le_refl _⟩, by first | exact HB | exact ⟨HB.out.step _⟩, ⟨?_⟩⟩
          rw [← HI.out, idx_step _ l0 kk x HX.out, if_neg (by simpa using HQ.out)]
    · have hltz : ¬ (kk : Int) < (n : Int) := by omega
      have : kk = n := by omega
      subst this
      go_wp2
      go_ret
      refine ⟨ret_int ?_, HB.out⟩
      rw [← HI.out, List.drop_eq_nil_of_le (by rw [HN.out]; exact Nat.le_refl _)]
      rfl

end Go.Proofs.Ytpmfdggbccbfaaa.Pr
