-- Printed by wip/tools/pp.py over the kit's print.py, several texts in one (wip/tools/mergepr.py); Lean checks it.
import Derived.Test.YtbdlelojlnhhfaaDoorPr0
import Derived.Test.YtbdlelojlnhhfaaDoorPr1
import Derived.Test.YtbdlelojlnhhfaaDoorPr11
import Derived.Shelf.SlicesE.DeleteFunc
import Derived.Lib.SlKeysI
namespace Go.Proofs.YtbdlelojlnhhfaaDoor.Pr
open Go.RowKit Go.Proofs.YtbdlelojlnhhfaaDoorW.PrintWords Go.Proofs.YtbdlelojlnhhfaaDoorW.PrintLast Go.Proofs.YtbdlelojlnhhfaaDoorW.PrintMore
attribute [local go_sem] max2_int min2_int max_two min_two max_three min_three max_four min_four
set_option linter.unusedVariables false
set_option linter.unusedSimpArgs false
/-! ### order_Valid: function 48 -/
/-- from i on it is i, i + 1, .. -/
def chkN : Nat → List Int → Bool
 | _, [] => true
 | i, x :: l => if (i : Int) = x then chkN (i + 1) l else false
theorem chkN_drop (l : List Int) (k : Nat) (h : k < l.length) : chkN k (l.drop k) = if (k : Int) = rd l (k : Int) then chkN (k + 1) (l.drop (k + 1)) else false := by
 rw [List.drop_eq_getElem_cons h, chkN, rd_nat l k _ (List.getElem?_eq_getElem h)]
def order_Valid.f (a0 : Int) (l1 : List Int) : Option Bool := if (l1.length : Int) = a0 then (if l1.length < 17592186043904 then some (chkN 0 (SortedSeq.sortZ l1)) else none) else some false
set_option maxHeartbeats 4000000 in
theorem order_Valid.calls (a0 : Int) (A1 : Option Addr) (c1 : Nat) (l1 : List Int) (r : Bool) (w : World) (hr1 : Kd.C (Kd.int .i64) w A1 l1.length l1) (hc1 : l1.length ≤ c1) (h : order_Valid.f a0 l1 = some r) :
  Calls Tryd.prog 48 #[.int .i64 a0, .slice A1 l1.length c1] w fun e w' => e = .returned (.bool r) ∧ Below w.heap.size w w' := by
 unfold order_Valid.f at h
 have hm := hr1.2.1;by_cases c0 : (l1.length : Int) = a0
 ·rw [if_pos c0] at h
  by_cases c2 : l1.length < 17592186043904
  ·rw [if_pos c2] at h
   have HE := Aside0.mk (Option.some.inj h);have HV := Aside0.mk (SortedSeq.values A1 l1.length c1 w);have HS := Aside0.mk (SortedSeq.sorted_calls A1 c1 l1 w hr1 (by omega));have HZ := Aside0.mk (SortedSeq.sortZ_len l1);obtain ⟨m, hm2⟩ : ∃ m, m = l1.length := ⟨_, rfl⟩;rw [← hm2] at HV HS HZ c0 c2 hm ⊢
   have hb0 : ((m : Int) == a0) = true := beq_iff_eq.mpr c0;have hb1 : ((m : Int) != a0) = false := bne_eq_false_iff_eq.mpr c0;clear c0 h hm2 hr1 hc1;go_enter Tryd.func48, Tryd.ntmps48
   go_wp2_with (first
    | (go_at_call 54; refine HV.out.mono ?_; rintro e w1 ⟨rfl, rfl⟩)
    | (go_at_call 53; refine HS.out.mono ?_; rintro e w1 ⟨v, rfl, ho, hb⟩; have HB := Aside0.mk hb; obtain ⟨Ao, co, eo⟩ := Kd.R_slice ho; subst eo; have HO := Aside0.mk ho; clear ho hb))
   obtain ⟨S, hS⟩ : ∃ S, S = SortedSeq.sortZ l1 := ⟨_, rfl⟩;rw [← hS] at HO HE HZ ⊢
   clear hS;obtain ⟨p, hp⟩ : ∃ p, p = S.length := ⟨_, rfl⟩;have HP := Aside0.mk hp;rw [← hp]
   have hpm : p = m := by rw [hp]; exact HZ.out
   have HRD := Aside0.mk (Kd.R_reads' HO.out).2.2;clear hp;go_loopg [15] p (fun gg v15 wr => ∃ k : Nat, v15 = .int .i64 k ∧ k ≤ p ∧ Aside0 (p - k ≤ gg) ∧ Aside0 (chkN k (S.drop k) = r) ∧ wr = w1)
   case atStart => exact ⟨0, rfl, Nat.zero_le _, ⟨Nat.le_refl _⟩, HE, rfl⟩
   case round =>
    obtain ⟨k, rfl, hk, HK, HI, rfl⟩ := hrel;by_cases hlt : k < p
    ·have hltz : (k : Int) < (p : Int) := by omega
     obtain ⟨ad, e, hx⟩ := Kd.at_int HRD.out (k : Int) (by omega) (by rw [← HP.out]; omega);subst e;rw [Int.toNat_natCast] at hx
     have HC := Aside0.mk (chkN_drop S k (by rw [← HP.out]; exact hlt));obtain ⟨x, hxx⟩ : ∃ x, x = rd S (k : Int) := ⟨_, rfl⟩;rw [← hxx] at hx HC
     clear hxx;by_cases hkx : (k : Int) = x
     ·have hq0 : ((k : Int) == x) = true := beq_iff_eq.mpr hkx;have hq1 : ((k : Int) != x) = false := bne_eq_false_iff_eq.mpr hkx;have HI2 := Aside0.mk (by have h1 := HI.out; rw [HC.out, if_pos hkx] at h1; exact h1 : chkN (k + 1) (S.drop (k + 1)) = r);clear hkx;go_wp2
      go_roundg (p - (k + 1))
      case measure => have := HK.out; omega
      case rel => exact ⟨k + 1, by go_num, by omega, ⟨Nat.le_refl _⟩, HI2, rfl⟩
     ·have hq0 : ((k : Int) == x) = false := beq_eq_false_iff_ne.mpr hkx;have hq1 : ((k : Int) != x) = true := bne_iff_ne.mpr hkx;have HI2 := Aside0.mk (by have h1 := HI.out; rw [HC.out, if_neg hkx] at h1; exact h1 : false = r);clear hkx;go_wp2
      go_ret
      exact ⟨by rw [← HI2.out]; rfl, HB.out⟩
    ·have hltz : ¬ (k : Int) < (p : Int) := by omega
     have HI2 := Aside0.mk (by have h1 := HI.out; rw [List.drop_eq_nil_of_le (by rw [← HP.out]; omega)] at h1; exact h1 : true = r);go_wp2
     go_ret
     exact ⟨by rw [← HI2.out]; rfl, HB.out⟩
  ·rw [if_neg c2] at h
   cases h
 ·rw [if_neg c0] at h
  obtain rfl := Option.some.inj h;have hb0 : ((l1.length : Int) == a0) = false := beq_eq_false_iff_ne.mpr c0;have hb1 : ((l1.length : Int) != a0) = true := bne_iff_ne.mpr c0;go_enter Tryd.func48, Tryd.ntmps48
  go_wp2
  go_ret
  exact ⟨rfl, Below.refl _ _⟩
end Go.Proofs.YtbdlelojlnhhfaaDoor.Pr
namespace Go.Proofs.YtbdlelojlnhhfaaDoor.Pr
open Go.RowKit Go.Proofs.YtbdlelojlnhhfaaDoorW.PrintWords Go.Proofs.YtbdlelojlnhhfaaDoorW.PrintLast Go.Proofs.YtbdlelojlnhhfaaDoorW.PrintMore
attribute [local go_sem] max2_int min2_int max_two min_two max_three min_three max_four min_four
set_option linter.unusedVariables false
set_option linter.unusedSimpArgs false
/-! ### slices_IndexFunc_int_int_60: function 60 -/
set_option maxHeartbeats 2000000 in
theorem slices_IndexFunc_int_int_60.callsP {α : Type} (d : Kd α) (h1 : d.sz = 1) (p : α → Bool) (g : Nat) (lb : Array Value) (eg : ∀ args w, (callFunc g args).run Tryd.prog w = .ok (.enter g args) w) (A : Option Addr) (c : Nat) (xs : List α) (w : World)
  (hp : PredKd Tryd.prog g lb d xs p w) (hr : d.C w A xs.length xs) :
  Calls Tryd.prog 60 #[.slice A xs.length c, .func (.func g) #[] lb] w fun e w' => e = .returned (.int .i64 (idxOf p xs 0)) ∧ Below w.heap.size w w' := by
 have HP := Aside0.mk hp;have HR := Aside0.mk hr;have hlen := hr.2.1;obtain ⟨n, hn⟩ : ∃ n, n = xs.length := ⟨_, rfl⟩;rw [← hn] at hlen ⊢
 have HN := Aside0.mk hn;clear hp hr hn;go_enter Tryd.func60, Tryd.ntmps60
 go_wp2
 go_loopg [5, 8] n (fun gg _ s8 wr => ∃ kk : Nat, s8 = .int .i64 kk ∧ kk ≤ n ∧ Aside0 (n - kk ≤ gg) ∧ Aside0 (Below w.heap.size w wr) ∧ Aside0 (idxOf p (xs.drop kk) kk = idxOf p xs 0))
 case atStart => exact ⟨0, rfl, Nat.zero_le _, ⟨Nat.le_refl _⟩, ⟨Below.refl _ _⟩, ⟨rfl⟩⟩
 case round =>
  obtain ⟨kk, rfl, hkk, HG, HB, HI⟩ := hrel;by_cases hlt : kk < n
  ·have hltz : (kk : Int) < (n : Int) := by omega
   obtain ⟨ad, v, x, rfl, hx, hxm, hk, hcell⟩ := elem_one h1 HR.out HB.out kk (by rw [← HN.out]; exact hlt);have hcall := HP.out x hxm wr v HB.out (d.K_below HB.out hk);have HX := Aside0.mk hx;clear hx hxm hk;cases hq : p x with
   | true =>
    rw [hq] at hcall
    have HQ := Aside0.mk hq;have HCC := Aside0.mk hcall;clear hq hcall;go_wp2_with (go_at_fn g; refine HCC.out.mono ?_; rintro e w' ⟨rfl, hb⟩; have HB2 := Aside0.mk hb; clear hb)
    go_ret
    refine ⟨ret_int ?_, below_then HB.out (below_size HB.out) HB2.out⟩;rw [← HI.out, idx_step p xs kk x HX.out, if_pos HQ.out]
   | false =>
    rw [hq] at hcall
    have HQ := Aside0.mk hq;have HCC := Aside0.mk hcall;clear hq hcall;go_wp2_with (go_at_fn g; refine HCC.out.mono ?_; rintro e w' ⟨rfl, hb⟩; have HB2 := Aside0.mk hb; clear hb)
    go_roundg (n - (kk + 1))
    case measure => have := HG.out; omega
    case rel =>
     refine ⟨kk + 1, by go_num, by omega, ⟨Nat.le_refl _⟩, ⟨below_then HB.out (below_size HB.out) HB2.out⟩, ⟨?_⟩⟩;rw [← HI.out, idx_step p xs kk x HX.out, if_neg (by rw [HQ.out]; simp)]
  ·have hltz : ¬ (kk : Int) < (n : Int) := by omega
   have : kk = n := by omega
   subst this;go_wp2
   go_ret
   refine ⟨ret_int ?_, HB.out⟩;rw [← HI.out, List.drop_eq_nil_of_le (by rw [HN.out]; exact Nat.le_refl _)]
   rfl
end Go.Proofs.YtbdlelojlnhhfaaDoor.Pr
namespace Go.Proofs.YtbdlelojlnhhfaaDoor.Pr
open Go.RowKit Go.Proofs.YtbdlelojlnhhfaaDoorW.PrintWords Go.Proofs.YtbdlelojlnhhfaaDoorW.PrintLast Go.Proofs.YtbdlelojlnhhfaaDoorW.PrintMore
attribute [local go_sem] max2_int min2_int max_two min_two max_three min_three max_four min_four
set_option linter.unusedVariables false
set_option linter.unusedSimpArgs false
/-! ### slices_DeleteFunc_int_int: function 49 -/
def slices_DeleteFunc_int_int.lays_ren : Go.Shelf.Ren := ⟨fun | 10 => 49 | 6 => 60 | n => n, fun | 22 => 23 | 23 => 3 | 25 => 80 | 3 => 3 | 4 => 4 | 0 => 0 | n => n, fun | n => n⟩
theorem slices_DeleteFunc_int_int.lays : Go.Proofs.SlLaysH.n10 Tryd.prog slices_DeleteFunc_int_int.lays_ren := {
 mixed := by kernel_rfl,
 f6 := ⟨Tryd.f60.name, by decide, Tryd.func60.trans (congrArg some (by kernel_rfl))⟩,
 f10 := ⟨Tryd.f49.name, by decide, Tryd.func49.trans (congrArg some (by kernel_rfl))⟩,
 t0 := Tryd.underlying0,
 a0 := Tryd.isAgg0,
 z0 := Tryd.sizeOf0,
 v0 := Tryd.zeroValue0,
 t3 := Tryd.underlying3,
 a3 := Tryd.isAgg3,
 z3 := Tryd.sizeOf3,
 v3 := Tryd.zeroValue3,
 t4 := Tryd.underlying4,
 a4 := Tryd.isAgg4,
 z4 := Tryd.sizeOf4,
 v4 := Tryd.zeroValue4,
 t22 := Tryd.underlying23,
 a22 := Tryd.isAgg23,
 z22 := Tryd.sizeOf23,
 v22 := Tryd.zeroValue23,
 a23 := Tryd.isAgg3,
 z23 := Tryd.sizeOf3,
 t25 := Tryd.underlying80,
 a25 := Tryd.isAgg80,
 z25 := Tryd.sizeOf80,
 v25 := Tryd.zeroValue80 }
theorem del_oneCell : OneCell encZ := fun _ => by unfold encZ; rfl
open Go.Sort in
/-- an own row of numbers, those that are told of taken out -/
theorem slices_DeleteFunc_int_int.callsD (p : Int → Bool) (g : Nat) (lb : Array Value) (eg : ∀ args w, (callFunc g args).run Tryd.prog w = .ok (.enter g args) w) (base : Nat) (v : Value) (l : List Int) (w : World) (hl : l.length ≤ 1000)
  (hR : Kd.R (Kd.int .i64) 3 w base (fun _ => True) v l) (hp : PredAt Tryd.prog g lb encZ p w) (hpo : ∀ blk, v.ownBlock = some blk → PredOver Tryd.prog g lb encZ p blk 0 l.length w) :
  Calls Tryd.prog 49 #[v, .func (.func g) #[] lb] w fun e w' => ∃ v', e = .returned v' ∧ Kd.R (Kd.int .i64) 3 w' base (fun _ => True) v' (l.filter fun x => !p x) ∧ w.grownBy w' v.ownBlock ∧ v'.ownBlock = v.ownBlock := by
 have ho := Kd.own_of_R (enc := Value.int .i64) (h1 := fun _ => rfl) hR;obtain ⟨A, c, rfl, hlc, hC⟩ := Kd.R_reads hR;rcases ho.2 with ⟨hv, hz⟩ | ⟨gb, cap, cur, hv, hbase, hgb, r1, r2, r3, r4⟩
 ·obtain rfl : l = [] := List.eq_nil_of_length_eq_zero hz;obtain ⟨rfl, -, rfl⟩ : A = none ∧ (0 : Nat) = 0 ∧ c = 0 := by simpa using hv
  have HI := Aside0.mk (slices_IndexFunc_int_int_60.callsP (Kd.int .i64) rfl p g lb eg none 0 [] w (fun x hx => by cases hx) (Kd.C_nil _ _));clear hR hp hpo ho hv hz hC hlc;go_enter Tryd.func49, Tryd.ntmps49
  go_wp2_with (go_at_call 60; refine HI.out.mono ?_; rintro e w1 ⟨rfl, hb⟩; have HB := Aside0.mk hb; clear hb)
  go_ret
  exact ⟨_, rfl, Kd.R_nil _ _ _ _ _, grown_of_below HB.out none, rfl⟩
 ·obtain ⟨rfl, hcc⟩ : A = some ⟨gb, 0, none⟩ ∧ c = cap := by simpa using hv
  subst hcc;have hH : Holds encZ w gb 0 l.toArray := holds_of_block_i hgb (by rw [Nat.mul_one] at r4; exact r4);have h := AnyE.slices_DeleteFunc slices_DeleteFunc_int_int.lays encZ del_oneCell p g lb eg 0 (fun W => by kernel_rfl) gb 0 c l.toArray w hp (by simpa using hpo gb (by simp [Value.ownBlock])) hH (by simp; omega) (by simpa using r1);have e0 : l.toArray.size = l.length := by simp
  rw [e0] at h
  refine (show Calls Tryd.prog 49 _ w _ from h).mono ?_;rintro e w' ⟨rfl, q, rfl⟩
  obtain ⟨ts, hts⟩ : ∃ ts, ts = (l.filter fun x => !p x) ++ List.replicate (l.length - (l.filter fun x => !p x).length) 0 := ⟨_, rfl⟩;have hfl : (l.filter fun x => !p x).length ≤ l.length := List.length_filter_le _ _;have htl : ts.length = l.length := by rw [hts, List.length_append, List.length_replicate]; omega
  have ht0 : ts.take (l.filter fun x => !p x).length = l.filter fun x => !p x := by rw [hts, List.take_append_of_le_length (Nat.le_refl _), List.take_length]
  have hw := ownsRow_sorted_i (n := q) (os := #[]) htl hbase hgb r1 r2 r3;have hg := grownBy_sorted_i (w := w) (g := gb) (n := q) (os := #[]) ts.toArray;rw [grow_empty] at hw hg
  refine ⟨_, rfl, ?_, ?_, rfl⟩
  ·show Kd.R (Kd.int .i64) 3 (putRow encZ (Sort.ahead w q) gb 0 ((l.toArray.toList.filter fun x => !p x) ++ _).toArray) base _ _ _
   have e1 : ((l.toArray.toList.filter fun x => !p x) ++ List.replicate (l.length - (l.toArray.toList.filter fun x => !p x).length) 0) = ts := by rw [hts]
   rw [e1]
   have hk := own_take hw hfl;rw [Nat.mul_one, ← List.map_take, ht0] at hk
   exact Kd.R_of_own hk (fun _ _ => trivial)
  ·have e1 : ((l.toArray.toList.filter fun x => !p x) ++ List.replicate (l.length - (l.toArray.toList.filter fun x => !p x).length) 0) = ts := by rw [hts]
   rw [e1]
   exact hg
end Go.Proofs.YtbdlelojlnhhfaaDoor.Pr
