-- Printed by wip/tools/pp.py over the kit's print.py, several texts in one (wip/tools/mergepr.py); Lean checks it.
import Derived.Test.YtbdlelojlnhhfaaDoorPr0
import Derived.Test.YtbdlelojlnhhfaaDoorPr15
import Derived.Test.YtbdlelojlnhhfaaDoorPr21
import Derived.Test.YtbdlelojlnhhfaaDoorPr1
namespace Go.Proofs.YtbdlelojlnhhfaaDoor.Pr
open Go.RowKit Go.Proofs.YtbdlelojlnhhfaaDoorW.PrintWords Go.Proofs.YtbdlelojlnhhfaaDoorW.PrintLast Go.Proofs.YtbdlelojlnhhfaaDoorW.PrintMore
attribute [local go_sem] max2_int min2_int max_two min_two max_three min_three max_four min_four
set_option linter.unusedVariables false
set_option linter.unusedSimpArgs false
/-! ### fill_Bags: function 29 -/
def fill_Bags.f (ws l : List Int) : Option (List (List Int) × Int) := (fill_all.f ws l).bind fun r => some (r.1, r.2.2)
set_option maxRecDepth 100000 in
set_option maxHeartbeats 4000000 in
theorem fill_Bags.calls (A0_0 : Option Addr) (c0_0 : Nat) (l0_0 : List Int) (A1 : Option Addr) (c1 : Nat) (l1 : List Int) (r1 : List (List Int)) (r2 : Int) (w : World) (hTb : Tab64 w) (hr0_0 : Kd.C (Kd.int .u64) w A0_0 l0_0.length l0_0) (hc0_0 : l0_0.length ≤ c0_0) (hr1 : Kd.C (Kd.int .i64) w A1 l1.length l1) (hc1 : l1.length ≤ c1) (h : fill_Bags.f l0_0 l1 = some (r1, r2)) :
  Calls Tryd.prog 29 #[.agg #[.slice A0_0 l0_0.length c0_0], .slice A1 l1.length c1] w fun e w' => ∃ v0_ : Value, e = .returned (.tuple #[v0_, .int .i64 r2]) ∧ Kd.S (Kd.slice 3 (Kd.int .i64)) 23 w' w.heap.size (fun _ => True) v0_ r1 ∧ Below w.heap.size w w' := by
 unfold fill_Bags.f at h
 obtain ⟨⟨q1, q2, q3⟩, hq, h⟩ := Option.bind_eq_some_iff.1 h;obtain ⟨rfl, rfl⟩ : q1 = r1 ∧ q3 = r2 := by simpa using h
 have HT := Aside0.mk hTb;have HA := Aside0.mk (fun (W : World) (hW : Below w.heap.size w W) => all_walk A0_0 c0_0 l0_0 A1 c1 l1 q1 q2 q3 W (tab_below hTb hW) (Kd.C_below hr0_0 hW) hc0_0 (Kd.C_below hr1 hW) hc1 hq);obtain ⟨n0, hn0⟩ : ∃ n, n = l0_0.length := ⟨_, rfl⟩;obtain ⟨n1, hn1⟩ : ∃ n, n = l1.length := ⟨_, rfl⟩;rw [← hn0, ← hn1] at HA ⊢
 clear hTb hr0_0 hc0_0 hr1 hc1 h hq hn0 hn1;go_enter Tryd.func29, Tryd.ntmps29
 go_wp2_with (first
  | ((with_reducible refine gate_dst (N := 2) rfl ?_); refine box_event ?hg (N := 2) ?hd (cs := #[.slice A0_0 n0 c0_0]) (t := 34) ?hr ?_; (case hd => rfl); (case hg => rfl); (case hr => first | (go_simp; done) | (go_simp; rfl)); intro gb hgb w1 hbox hb; have HB1 := Aside0.mk hb; have hcg : w1.cell? ⟨gb, 0, none⟩ = some (.slice A0_0 n0 c0_0) := (blk_cell hbox 0).trans rfl; clear hgb hbox hb)
  | (go_at_call 41; refine (HA.out _ HB1.out).mono ?_; rintro e w2 ⟨v0, A, n, c, rfl, hS, hC, hn, hc, hb⟩; have HS2 := Aside0.mk (Kd.S_lower hS HB1.out.size); have HB2 := Aside0.mk (below_then HB1.out HB1.out.size hb); clear hS hC hn hc hb hcg))
 go_ret2
 exact ⟨_, rfl, Kd.S_alloc HS2.out _, below_alloc HB2.out _⟩
end Go.Proofs.YtbdlelojlnhhfaaDoor.Pr
namespace Go.Proofs.YtbdlelojlnhhfaaDoor.Pr
open Go.RowKit Go.Proofs.YtbdlelojlnhhfaaDoorW.PrintWords Go.Proofs.YtbdlelojlnhhfaaDoorW.PrintLast Go.Proofs.YtbdlelojlnhhfaaDoorW.PrintMore
attribute [local go_sem] max2_int min2_int max_two min_two max_three min_three max_four min_four
set_option linter.unusedVariables false
set_option linter.unusedSimpArgs false
/-! ### slices_IndexFunc_int_int_55: function 55 -/
set_option maxHeartbeats 2000000 in
theorem slices_IndexFunc_int_int_55.callsP {α : Type} (d : Kd α) (h1 : d.sz = 1) (p : α → Bool) (g : Nat) (lb : Array Value) (eg : ∀ args w, (callFunc g args).run Tryd.prog w = .ok (.enter g args) w) (A : Option Addr) (c : Nat) (xs : List α) (w : World)
  (hp : PredKd Tryd.prog g lb d xs p w) (hr : d.C w A xs.length xs) :
  Calls Tryd.prog 55 #[.slice A xs.length c, .func (.func g) #[] lb] w fun e w' => e = .returned (.int .i64 (idxOf p xs 0)) ∧ Below w.heap.size w w' := by
 have HP := Aside0.mk hp;have HR := Aside0.mk hr;have hlen := hr.2.1;obtain ⟨n, hn⟩ : ∃ n, n = xs.length := ⟨_, rfl⟩;rw [← hn] at hlen ⊢
 have HN := Aside0.mk hn;clear hp hr hn;go_enter Tryd.func55, Tryd.ntmps55
 go_wp2
 go_loopg [5, 8] n (fun gg _ s8 wr => ∃ kk : Nat, s8 = .int .i64 kk ∧ kk ≤ n ∧ Aside0 (n - kk ≤ gg) ∧ Aside0 (Below w.heap.size w wr) ∧ Aside0 (idxOf p (xs.drop kk) kk = idxOf p xs 0))
 case atStart => exact ⟨0, rfl, Nat.zero_le _, ⟨Nat.le_refl _⟩, ⟨Below.refl _ _⟩, ⟨rfl⟩⟩
 case round =>
  obtain ⟨kk, rfl, hkk, HG, HB, HI⟩ := hrel;by_cases hlt : kk < n
  ·have hltz : (kk : Int) < (n : Int) := by omega
   obtain ⟨ad, v, x, rfl, hx, hxm, hk, hcell⟩ := elem_one h1 HR.out HB.out kk (by rw [← HN.out]; exact hlt);have hcall := HP.out x hxm wr v HB.out (d.K_below HB.out hk);have HX := Aside0.mk hx;clear hx hxm hk;cases hq : p x with
   | true =>
    rw [hq] at hcall
    have HQ := Aside0.mk hq;have HCC := Aside0.mk hcall;clear hq hcall;go_wp2_with (go_at_fn g; refine HCC.out.mono ?_; rintro e w' ⟨rfl, hb⟩; have HB2 := Aside0.mk hb; clear hb)
    go_ret
    refine ⟨ret_int ?_, below_then HB.out (below_size HB.out) HB2.out⟩;rw [← HI.out, idx_step p xs kk x HX.out, if_pos HQ.out]
   | false =>
    rw [hq] at hcall
    have HQ := Aside0.mk hq;have HCC := Aside0.mk hcall;clear hq hcall;go_wp2_with (go_at_fn g; refine HCC.out.mono ?_; rintro e w' ⟨rfl, hb⟩; have HB2 := Aside0.mk hb; clear hb)
    go_roundg (n - (kk + 1))
    case measure => have := HG.out; omega
    case rel =>
     refine ⟨kk + 1, by go_num, by omega, ⟨Nat.le_refl _⟩, ⟨below_then HB.out (below_size HB.out) HB2.out⟩, ⟨?_⟩⟩;rw [← HI.out, idx_step p xs kk x HX.out, if_neg (by rw [HQ.out]; simp)]
  ·have hltz : ¬ (kk : Int) < (n : Int) := by omega
   have : kk = n := by omega
   subst this;go_wp2
   go_ret
   refine ⟨ret_int ?_, HB.out⟩;rw [← HI.out, List.drop_eq_nil_of_le (by rw [HN.out]; exact Nat.le_refl _)]
   rfl
end Go.Proofs.YtbdlelojlnhhfaaDoor.Pr
namespace Go.Proofs.YtbdlelojlnhhfaaDoor.Pr
open Go.RowKit Go.Proofs.YtbdlelojlnhhfaaDoorW.PrintWords Go.Proofs.YtbdlelojlnhhfaaDoorW.PrintLast Go.Proofs.YtbdlelojlnhhfaaDoorW.PrintMore
attribute [local go_sem] max2_int min2_int max_two min_two max_three min_three max_four min_four
set_option linter.unusedVariables false
set_option linter.unusedSimpArgs false
/-! ### slices_ContainsFunc_int_int: function 42 -/
set_option maxHeartbeats 2000000 in
theorem slices_ContainsFunc_int_int.callsP {α : Type} (d : Kd α) (h1 : d.sz = 1) (p : α → Bool) (g : Nat) (lb : Array Value) (eg : ∀ args w, (callFunc g args).run Tryd.prog w = .ok (.enter g args) w) (A : Option Addr) (c : Nat) (xs : List α) (w : World)
  (hp : PredKd Tryd.prog g lb d xs p w) (hr : d.C w A xs.length xs) :
  Calls Tryd.prog 42 #[.slice A xs.length c, .func (.func g) #[] lb] w fun e w' => e = .returned (.bool (xs.any p)) ∧ Below w.heap.size w w' := by
 have HC := Aside0.mk (slices_IndexFunc_int_int_55.callsP d h1 p g lb eg A c xs w hp hr);have HN := Aside0.mk (idx_nonneg p xs 0 (by omega));clear hp hr;obtain ⟨z, hz⟩ : ∃ z, z = idxOf p xs 0 := ⟨_, rfl⟩;rw [← hz] at HC HN
 rw [← HN.out]
 clear HN hz;go_enter Tryd.func42, Tryd.ntmps42
 go_wp2_with (go_at_call 55; refine HC.out.mono ?_; rintro e w' ⟨rfl, hb⟩; have HB2 := Aside0.mk hb; clear hb)
 go_ret
 exact ⟨rfl, HB2.out⟩
end Go.Proofs.YtbdlelojlnhhfaaDoor.Pr
