-- Printed by a program of this session's own (wip/tools/pp.py) over the kit's print.py; Lean checks it.
import Derived.Test.YtpmfdggbccbfaaaPr0
namespace Go.Proofs.Ytpmfdggbccbfaaa.Pr
open Go.RowKit Go.Proofs.YtpmfdggbccbfaaaW.PrintWords Go.Proofs.YtpmfdggbccbfaaaW.PrintLast Go.Proofs.YtpmfdggbccbfaaaW.PrintMore
attribute [local go_sem] max2_int min2_int max_two min_two max_three min_three max_four min_four   -- for this text's walks alone
set_option linter.unusedVariables false
set_option linter.unusedSimpArgs false

-- given by hand
/-! ### slices_Clone_int_int: function 62 -/
def slices_Clone_int_int.f (l0 : List Int) : Option (List Int) := if l0.length < 17592186044416 then some l0 else none
theorem slices_Clone_int_int.calls (A0 : Option Addr) (c0 : Nat) (l0 : List Int) (r : List Int) (w : World) (hr0 : Kd.C (Kd.int .i64) w A0 l0.length l0) (hc0 : l0.length ≤ c0) (h : slices_Clone_int_int.f l0 = some r) :
    Calls Try.prog 62 #[.slice A0 l0.length c0] w fun e w' => ∃ v0_ : Value, e = .returned (v0_) ∧ Kd.R (Kd.int .i64) 3 w' w.heap.size (fun _ => True) v0_ r ∧ Below w.heap.size w w' := by
  have q : ∀ (w : World) (a : Option Addr) (n c n' c' : Nat), (binOp .eql 23 (.slice a n c) (.slice none n' c')).run Try.prog w = .ok (.bool a.isNone) w := fun w a n c n' c' => Lib.run_eql_slice_nil w _ _ a n c n' c' Try.underlying23
  unfold slices_Clone_int_int.f at h
  by_cases hl : l0.length < 17592186044416
  · rw [if_pos hl] at h
    obtain rfl := Option.some.inj h
    have HR0 := Aside0.mk hr0
    clear hr0 h
    cases A0 with
    | none =>
      have hz : l0 = [] := by
        rcases Nat.eq_zero_or_pos l0.length with h0 | h0
        · exact List.eq_nil_of_length_eq_zero h0
        · obtain ⟨ad, e, _⟩ := HR0.out.2.2 h0
          cases e
      subst hz
      go_enter Try.func62, Try.ntmps62
      go_wp2
      go_ret
      exact ⟨_, rfl, Kd.R_nil _ _ _ _ _, Below.refl _ _⟩
    | some ad =>
      go_enter Try.func62, Try.ntmps62
      go_wp2_with (first | ((with_reducible refine gate_dst (N := 5) rfl ?_); refine Kd.R_lit (Kd.int .i64) (w0 := w) w.heap.size 3 ?hg (N := 5) ?hd (xs := ([] : List Int)) (inner := []) (ok := fun _ => True) (okp := fun _ => True) ?hr ?hp (fun _ hk => hk) trivial (Below.refl _ _) (Nat.le_refl _) (by simp) ?_; (case hd => rfl); (case hg => rfl); (case hr => first | (go_simp; done) | (go_simp; rfl)); (case hp => exact (Reps.none _ _)); intro v1 w1 ho1 hb1 hg1 hn1; have HO1 := Aside0.mk ho1; have HB1 := Aside0.mk hb1; clear ho1 hb1 hg1 hn1) | (at_builtin; refine Kd.R_append_row (w0 := w) (Value.int .i64) (0 : Int) (h1 := fun _ => rfl) w.heap.size rfl (.tmp 5) (.tmp 6) 23 3 (.int .i64 0) 8 rfl Try.underlying23 info3 rfl (by decide) _ ([] : List Int) l0 (some ad) l0.length c0 (fun _ => True) rfl rfl (fun _ _ => trivial) HO1.out (Kd.C_below HR0.out HB1.out) HB1.out (below_size HB1.out) (by simp; omega) ?a6; intro v2 w2 ho2 hb2 hg2 hn2; have HO2 := Aside0.mk ho2; have HB2 := Aside0.mk hb2; clear ho2 hb2 hg2 hn2))
      go_ret
      exact ⟨_, rfl, HO2.out, HB2.out⟩
  · rw [if_neg hl] at h
    cases h

end Go.Proofs.Ytpmfdggbccbfaaa.Pr
