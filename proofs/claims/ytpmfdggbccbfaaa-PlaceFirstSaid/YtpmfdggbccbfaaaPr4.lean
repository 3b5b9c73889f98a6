-- Printed by a program of this session's own (wip/tools/pp.py) over the kit's print.py; Lean checks it.
import Derived.Test.YtpmfdggbccbfaaaPr0
import Derived.Test.YtpmfdggbccbfaaaPr1
namespace Go.Proofs.Ytpmfdggbccbfaaa.Pr
open Go.RowKit Go.Proofs.YtpmfdggbccbfaaaW.PrintWords Go.Proofs.YtpmfdggbccbfaaaW.PrintLast Go.Proofs.YtpmfdggbccbfaaaW.PrintMore
attribute [local go_sem] max2_int min2_int max_two min_two max_three min_three max_four min_four   -- for this text's walks alone
set_option linter.unusedVariables false
set_option linter.unusedSimpArgs false

-- given by hand
/-! ### slices_IndexFunc_int_int_52: function 52 -/
set_option maxHeartbeats 2000000 in
theorem slices_IndexFunc_int_int_52.callsP {α : Type} (d : Kd α) (h1 : d.sz = 1) (p : α → Bool) (g : Nat) (lb : Array Value) (eg : ∀ args w, (callFunc g args).run Try.prog w = .ok (.enter g args) w) (A : Option Addr) (c : Nat) (xs : List α) (w : World)
    (hp : PredKd Try.prog g lb d xs p w) (hr : d.C w A xs.length xs) :
    Calls Try.prog 52 #[.slice A xs.length c, .func (.func g) #[] lb] w fun e w' => e = .returned (.int .i64 (idxOf p xs 0)) ∧ Below w.heap.size w w' := by
  have HP := Aside0.mk hp
  have HR := Aside0.mk hr
  have hlen := hr.2.1
  obtain ⟨n, hn⟩ : ∃ n, n = xs.length := ⟨_, rfl⟩
  rw [← hn] at hlen ⊢
  have HN := Aside0.mk hn
  clear hp hr hn
  go_enter Try.func52, Try.ntmps52
  go_wp2
  go_loopg [5, 8] n (fun gg _ s8 wr => ∃ kk : Nat, s8 = .int .i64 kk ∧ kk ≤ n ∧ Aside0 (n - kk ≤ gg) ∧ Aside0 (Below w.heap.size w wr) ∧ Aside0 (idxOf p (xs.drop kk) kk = idxOf p xs 0))
  case atStart => exact ⟨0, rfl, Nat.zero_le _, ⟨Nat.le_refl _⟩, ⟨Below.refl _ _⟩, ⟨rfl⟩⟩
  case round =>
    obtain ⟨kk, rfl, hkk, HG, HB, HI⟩ := hrel
    by_cases hlt : kk < n
    · have hltz : (kk : Int) < (n : Int) := by omega
      obtain ⟨ad, v, x, rfl, hx, hxm, hk, hcell⟩ := elem_one h1 HR.out HB.out kk (by rw [← HN.out]; exact hlt)
      have hcall := HP.out x hxm wr v HB.out (d.K_below HB.out hk)
      have HX := Aside0.mk hx
      clear hx hxm hk
      cases hq : p x with
      | true =>
        rw [hq] at hcall
        have HQ := Aside0.mk hq
        have HCC := Aside0.mk hcall
        clear hq hcall
        go_wp2_with (go_at_fn g; refine HCC.out.mono ?_; rintro e w' ⟨rfl, hb⟩; have HB2 := Aside0.mk hb; clear hb)
        go_ret
        refine ⟨ret_int ?_, below_then HB.out (below_size HB.out) HB2.out⟩
        rw [← HI.out, idx_step p xs kk x HX.out, if_pos HQ.out]
      | false =>
        rw [hq] at hcall
        have HQ := Aside0.mk hq
        have HCC := Aside0.mk hcall
        clear hq hcall
        go_wp2_with (go_at_fn g; refine HCC.out.mono ?_; rintro e w' ⟨rfl, hb⟩; have HB2 := Aside0.mk hb; clear hb)
        go_roundg (n - (kk + 1))
        case measure => have := HG.out; omega
        case rel =>
          refine ⟨kk + 1, by go_num, by omega, ⟨Nat.le_refl _⟩, ⟨below_then HB.out (below_size HB.out) HB2.out⟩, ⟨?_⟩⟩
          rw [← HI.out, idx_step p xs kk x HX.out, if_neg (by rw [HQ.out]; simp)]
    · have hltz : ¬ (kk : Int) < (n : Int) := by omega
      have : kk = n := by omega
      subst this
      go_wp2
      go_ret
      refine ⟨ret_int ?_, HB.out⟩
      rw [← HI.out, List.drop_eq_nil_of_le (by rw [HN.out]; exact Nat.le_refl _)]
      rfl

end Go.Proofs.Ytpmfdggbccbfaaa.Pr
