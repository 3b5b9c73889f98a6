-- Printed by a program of this session's own (wip/tools/pp.py) over the kit's print.py; Lean checks it.
import Derived.Test.YtpmfdggbccbfaaaPr0
import Derived.Test.YtpmfdggbccbfaaaPr5
import Derived.Test.YtpmfdggbccbfaaaPr7
import Derived.Test.YtpmfdggbccbfaaaPr9
namespace Go.Proofs.Ytpmfdggbccbfaaa.Pr
open Go.RowKit Go.Proofs.YtpmfdggbccbfaaaW.PrintWords Go.Proofs.YtpmfdggbccbfaaaW.PrintLast Go.Proofs.YtpmfdggbccbfaaaW.PrintMore
attribute [local go_sem] max2_int min2_int max_two min_two max_three min_three max_four min_four   -- for this text's walks alone
set_option linter.unusedVariables false
set_option linter.unusedSimpArgs false

-- given by hand
/-! ### valid_has: function 45 -/
def hasB (bags : List (List Int)) (scope : List Int) : Bool := bags.any fun b => !(scope.any fun v => !(b.any fun x => x == v))
def valid_has.f (l0_0 : List (List Int)) (l0_1 : List Int) (l1 : List Int) : Option Bool := some (hasB l0_0 l1)
theorem has11 (B : Nat) (A : Option Addr) (c : Nat) (b : List Int) (hc : b.length ≤ c) (v : Int) (W : World) (hbox : W.heap[B]? = some (.cells #[.slice A b.length c] 23 (0, 0))) (hr : (Kd.int .i64).C W A b.length b) :
    Calls Try.prog 68 #[.int .i64 v, .pointer (some ⟨B, 0, none⟩)] W fun e W' => e = .returned (.bool (!(b.any fun x => x == v))) ∧ Below W.heap.size W W' := by
  have hcell : W.cell? ⟨B, 0, none⟩ = some (.slice A b.length c) := (blk_cell hbox 0).trans rfl
  have HC := Aside0.mk (slices_Contains_int_int.calls A c b v _ W hr hc rfl)
  clear hr hc hbox
  obtain ⟨z, hz⟩ : ∃ z, z = b.any (fun x => x == v) := ⟨_, rfl⟩
  rw [← hz] at HC ⊢
  clear hz
  go_enter Try.func68, Try.ntmps68
  go_wp2_with (go_at_call 50; refine HC.out.mono ?_; rintro e w' ⟨rfl, hb⟩; have HB2 := Aside0.mk hb; clear hb)
  go_ret
  exact ⟨rfl, HB2.out.below⟩
theorem has1 (S : Nat) (As : Option Addr) (cs : Nat) (scope : List Int) (A : Option Addr) (c : Nat) (b : List Int) (hc : b.length ≤ c) (W : World) (hbox : W.heap[S]? = some (.cells #[.slice As scope.length cs] 23 (0, 0))) (hs : (Kd.int .i64).C W As scope.length scope) (hr : (Kd.int .i64).C W A b.length b) :
    Calls Try.prog 66 #[.slice A b.length c, .pointer (some ⟨S, 0, none⟩)] W fun e W' => e = .returned (.bool (!(scope.any fun v => !(b.any fun x => x == v)))) ∧ Below W.heap.size W W' := by
  have hcell : W.cell? ⟨S, 0, none⟩ = some (.slice As scope.length cs) := (blk_cell hbox 0).trans rfl
  have hcell2 : (W.alloc (.cells #[.slice A b.length c] 23 (0, 0))).cell? ⟨S, 0, none⟩ = some (.slice As scope.length cs) := (blk_cell (blk_alloc hbox _) 0).trans rfl
  have HB := Aside0.mk (below_alloc (Below.refl W.heap.size W) (.cells #[.slice A b.length c] 23 (0, 0)))
  have HC := Aside0.mk (slices_ContainsFunc_int_int_67.callsP (Kd.int .i64) rfl (fun v => !(b.any fun x => x == v)) 68 #[.pointer (some ⟨W.heap.size, 0, none⟩)] (enters_of Try.func68 (by kernel_rfl) rfl) As cs scope (W.alloc (.cells #[.slice A b.length c] 23 (0, 0)))
    (fun x hx W' v hb' hv => by
      obtain rfl : v = .int .i64 x := by have h2 : [v] = [.int .i64 x] := hv; injection h2
      exact has11 W.heap.size A c b hc x W' (blk_below (blk_new W _) hb') (Kd.C_below (Kd.C_below hr HB.out) hb')) (Kd.C_below hs HB.out))
  clear hr hc hbox hs
  obtain ⟨z, hz⟩ : ∃ z, z = scope.any (fun v => !(b.any fun x => x == v)) := ⟨_, rfl⟩
  rw [← hz] at HC ⊢
  clear hz
  go_enter Try.func66, Try.ntmps66
  go_wp2_with (go_at_call 67; refine HC.out.mono ?_; rintro e w' ⟨rfl, hb⟩; have HB2 := Aside0.mk hb; clear hb)
  go_ret
  exact ⟨rfl, below_then HB.out (below_size HB.out) HB2.out⟩
theorem valid_has.calls (A0_0 : Option Addr) (c0_0 : Nat) (l0_0 : List (List Int)) (A0_1 : Option Addr) (c0_1 : Nat) (l0_1 : List Int) (A1 : Option Addr) (c1 : Nat) (l1 : List Int) (r : Bool) (w : World) (hr0_0 : Kd.C (Kd.slice 3 (Kd.int .i64)) w A0_0 l0_0.length l0_0) (hc0_0 : l0_0.length ≤ c0_0) (hr0_1 : Kd.C (Kd.int .i64) w A0_1 l0_1.length l0_1) (hc0_1 : l0_1.length ≤ c0_1) (hr1 : Kd.C (Kd.int .i64) w A1 l1.length l1) (hc1 : l1.length ≤ c1) (h : valid_has.f l0_0 l0_1 l1 = some r) :
    Calls Try.prog 45 #[.agg #[.slice A0_0 l0_0.length c0_0, .slice A0_1 l0_1.length c0_1], .slice A1 l1.length c1] w fun e w' => e = .returned (.bool r) ∧ Below w.heap.size w w' := by
  have HE := Aside0.mk (Option.some.inj h)
  have HB := Aside0.mk (below_alloc (below_alloc (Below.refl w.heap.size w) (.cells #[.slice A0_0 l0_0.length c0_0, .slice A0_1 l0_1.length c0_1] 25 (0, 0))) (.cells #[.slice A1 l1.length c1] 23 (0, 0)))
  have HC := Aside0.mk (slices_ContainsFunc_int_int_46.callsP (Kd.slice 3 (Kd.int .i64)) rfl (fun b => !(l1.any fun v => !(b.any fun x => x == v))) 66 #[.pointer (some ⟨w.heap.size + 1, 0, none⟩)] (enters_of Try.func66 (by kernel_rfl) rfl) A0_0 c0_0 l0_0 ((w.alloc (.cells #[.slice A0_0 l0_0.length c0_0, .slice A0_1 l0_1.length c0_1] 25 (0, 0))).alloc (.cells #[.slice A1 l1.length c1] 23 (0, 0)))
    (fun x hx W' v hb' hv => by
      obtain ⟨A, c, e, hl, hC⟩ := hv
      obtain rfl : v = .slice A x.length c := by injection e
      exact has1 (w.heap.size + 1) A1 c1 l1 A c x hl W' (blk_below (by have := blk_new (w.alloc (.cells #[.slice A0_0 l0_0.length c0_0, .slice A0_1 l0_1.length c0_1] 25 (0, 0))) (.cells #[.slice A1 l1.length c1] 23 (0, 0)); simpa using this) hb') (Kd.C_below (Kd.C_below hr1 HB.out) hb') hC) (Kd.C_below hr0_0 HB.out))
  clear hr0_0 hc0_0 hr0_1 hc0_1 hr1 hc1 h
  obtain ⟨z, hz⟩ : ∃ z, z = hasB l0_0 l1 := ⟨_, rfl⟩
  have HZ := Aside0.mk (hz.trans HE.out)
  have hz2 := hz
  unfold hasB at hz2
  rw [← hz2] at HC
  clear hz hz2 HE
  go_enter Try.func45, Try.ntmps45
  go_wp2_with (go_at_call 46; refine HC.out.mono ?_; rintro e w' ⟨rfl, hb⟩; have HB2 := Aside0.mk hb; clear hb)
  go_ret
  exact ⟨by rw [HZ.out]; rfl, below_then HB.out (below_size HB.out) HB2.out⟩

end Go.Proofs.Ytpmfdggbccbfaaa.Pr
