-- Printed by a program of this session's own (wip/tools/pp.py) over the kit's print.py; Lean checks it.
import Derived.Test.YtefmpehjahfnpaaDoorPr0
import Derived.Test.YtefmpehjahfnpaaDoorPr1
import Derived.Test.YtefmpehjahfnpaaDoorPr20
namespace Go.Proofs.YtefmpehjahfnpaaDoor.Pr
open Go.RowKit Go.Proofs.YtefmpehjahfnpaaDoorW.PrintWords Go.Proofs.YtefmpehjahfnpaaDoorW.PrintLast Go.Proofs.YtefmpehjahfnpaaDoorW.PrintMore
attribute [local go_sem] max2_int min2_int max_two min_two max_three min_three max_four min_four   -- for this text's walks alone
set_option linter.unusedVariables false
set_option linter.unusedSimpArgs false

-- given by hand
/-! ### order_Valid: function 14 -/
-- needs slices_Sorted_int
/-- from i on it is i, i + 1, .. -/
def chkN : Nat → List Int → Bool
  | _, [] => true
  | i, x :: l => if (i : Int) = x then chkN (i + 1) l else false
theorem chkN_drop (l : List Int) (k : Nat) (h : k < l.length) : chkN k (l.drop k) = if (k : Int) = rd l (k : Int) then chkN (k + 1) (l.drop (k + 1)) else false := by
  rw [List.drop_eq_getElem_cons h, chkN, rd_nat l k _ (List.getElem?_eq_getElem h)]
def order_Valid.f (a0 : Int) (l1 : List Int) : Option Bool := if (l1.length : Int) = a0 then (if l1.length < 17592186043904 then some (chkN 0 (SortedSeq.sortZ l1)) else none) else some false
set_option maxHeartbeats 4000000 in
theorem order_Valid.calls (a0 : Int) (A1 : Option Addr) (c1 : Nat) (l1 : List Int) (r : Bool) (w : World) (hr1 : Kd.C (Kd.int .i64) w A1 l1.length l1) (hc1 : l1.length ≤ c1) (h : order_Valid.f a0 l1 = some r) :
    Calls Tryd.prog 14 #[.int .i64 a0, .slice A1 l1.length c1] w fun e w' => e = .returned (.bool r) ∧ Below w.heap.size w w' := by
  unfold order_Valid.f at h
  have hm := hr1.2.1
  by_cases c0 : (l1.length : Int) = a0
  · rw [if_pos c0] at h
    by_cases c2 : l1.length < 17592186043904
    · rw [if_pos c2] at h
      have HE := Aside0.mk (Option.some.inj h)
      have HV := Aside0.mk (SortedSeq.values A1 l1.length c1 w)
      have HS := Aside0.mk (SortedSeq.sorted_calls A1 c1 l1 w hr1 (by omega))
      have HZ := Aside0.mk (SortedSeq.sortZ_len l1)
      obtain ⟨m, hm2⟩ : ∃ m, m = l1.length := ⟨_, rfl⟩
      rw [← hm2] at HV HS HZ c0 c2 hm ⊢
      have hb0 : ((m : Int) == a0) = true := beq_iff_eq.mpr c0
      have hb1 : ((m : Int) != a0) = false := bne_eq_false_iff_eq.mpr c0
      clear c0 h hm2 hr1 hc1
      go_enter Tryd.func14, Tryd.ntmps14
      go_wp2_with (first
        | (go_at_call 33; refine HV.out.mono ?_; rintro e w1 ⟨rfl, rfl⟩)
        | (go_at_call 32; refine HS.out.mono ?_; rintro e w1 ⟨v, rfl, ho, hb⟩; have HB := Aside0.mk hb; obtain ⟨Ao, co, eo⟩ := Kd.R_slice ho; subst eo; have HO := Aside0.mk ho; clear ho hb))
      obtain ⟨S, hS⟩ : ∃ S, S = SortedSeq.sortZ l1 := ⟨_, rfl⟩
      rw [← hS] at HO HE HZ ⊢
      clear hS
      obtain ⟨p, hp⟩ : ∃ p, p = S.length := ⟨_, rfl⟩
      have HP := Aside0.mk hp
      rw [← hp]
      have hpm : p = m := by rw [hp]; exact HZ.out
      have HRD := Aside0.mk (Kd.R_reads' HO.out).2.2
      clear hp
      go_loopg [15] p (fun gg v15 wr => ∃ k : Nat, v15 = .int .i64 k ∧ k ≤ p ∧ Aside0 (p - k ≤ gg) ∧ Aside0 (chkN k (S.drop k) = r) ∧ wr = w1)
      case atStart => exact ⟨0, rfl, Nat.zero_le _, ⟨Nat.le_refl _⟩, HE, rfl⟩
      case round =>
        obtain ⟨k, rfl, hk, HK, HI, rfl⟩ := hrel
        by_cases hlt : k < p
        · have hltz : (k : Int) < (p : Int) := by omega
          obtain ⟨ad, e, hx⟩ := Kd.at_int HRD.out (k : Int) (by omega) (by rw [← HP.out]; omega)
          subst e
          rw [Int.toNat_natCast] at hx
          have HC := Aside0.mk (chkN_drop S k (by rw [← HP.out]; exact hlt))
          obtain ⟨x, hxx⟩ : ∃ x, x = rd S (k : Int) := ⟨_, rfl⟩
          rw [← hxx] at hx HC
          clear hxx
          by_cases hkx : (k : Int) = x
          · have hq0 : ((k : Int) == x) = true := beq_iff_eq.mpr hkx
            have hq1 : ((k : Int) != x) = false := bne_eq_false_iff_eq.mpr hkx
            have HI2 := Aside0.mk (by have h1 := HI.out; rw [HC.out, if_pos hkx] at h1; exact h1 : chkN (k + 1) (S.drop (k + 1)) = r)
            clear hkx
            go_wp2
            go_roundg (p - (k + 1))
            case measure => have := HK.out; omega
            case rel => exact ⟨k + 1, by go_num, by omega, ⟨Nat.le_refl _⟩, HI2, rfl⟩
          · have hq0 : ((k : Int) == x) = false := beq_eq_false_iff_ne.mpr hkx
            have hq1 : ((k : Int) != x) = true := bne_iff_ne.mpr hkx
            have HI2 := Aside0.mk (by have h1 := HI.out; rw [HC.out, if_neg hkx] at h1; exact h1 : false = r)
            clear hkx
            go_wp2
            go_ret
            exact ⟨by rw [← HI2.out]; rfl, HB.out⟩
        · have hltz : ¬ (k : Int) < (p : Int) := by omega
          have HI2 := Aside0.mk (by have h1 := HI.out; rw [List.drop_eq_nil_of_le (by rw [← HP.out]; omega)] at h1; exact h1 : true = r)
          go_wp2
          go_ret
          exact ⟨by rw [← HI2.out]; rfl, HB.out⟩
    · rw [if_neg c2] at h
      cases h
  · rw [if_neg c0] at h
    obtain rfl := Option.some.inj h
    have hb0 : ((l1.length : Int) == a0) = false := beq_eq_false_iff_ne.mpr c0
    have hb1 : ((l1.length : Int) != a0) = true := bne_iff_ne.mpr c0
    go_enter Tryd.func14, Tryd.ntmps14
    go_wp2
    go_ret
    exact ⟨rfl, Below.refl _ _⟩

end Go.Proofs.YtefmpehjahfnpaaDoor.Pr
