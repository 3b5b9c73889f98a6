-- Printed by a program of this session's own (wip/tools/pp.py) over the kit's print.py; Lean checks it.
import Derived.Test.YtlnmgljiggebiaaPr0
import Derived.Test.YtlnmgljiggebiaaPr1
namespace Go.Proofs.Ytlnmgljiggebiaa.Pr
open Go.RowKit Go.Proofs.YtlnmgljiggebiaaW.PrintWords Go.Proofs.YtlnmgljiggebiaaW.PrintLast Go.Proofs.YtlnmgljiggebiaaW.PrintMore
attribute [local go_sem] max2_int min2_int max_two min_two max_three min_three max_four min_four   -- for this text's walks alone
set_option linter.unusedVariables false
set_option linter.unusedSimpArgs false

-- given by hand
/-! ### slices_BinarySearchFunc_int_int_int: function 39 -/
-- needs tuple_Compare
def cmpT : List Int → List Int → Int
  | [], [] => 0
  | [], _ :: _ => -1
  | _ :: _, [] => 1
  | x :: l, y :: m => if x < y then -1 else if y < x then 1 else cmpT l m
theorem cmp_tells (x y : Int) : cmp_Compare_int.f x y = some (if x < y then -1 else if y < x then 1 else 0) := by
  simp only [cmp_Compare_int.f, cmp_isNaN_int.f, Option.bind_some]
  rw [if_neg (by simp), if_neg (by simp)]
  split
  · rfl
  · split
    · rfl
    · rfl
theorem compare_loop (a b : List Int) (ha : a.length ≤ 9223372036854775807) : ∀ d i k : Nat, a.length = i + d → i ≤ b.length → d < k → slices_Compare_int_int.l0 k a b a (a.length : Int) (i : Int) = some (cmpT (a.drop i) (b.drop i)) := by
  intro d
  induction d with
  | zero =>
    intro i k h hb hk
    obtain ⟨k, rfl⟩ : ∃ m, k = m + 1 := ⟨k - 1, by omega⟩
    simp only [slices_Compare_int_int.l0]
    rw [if_neg (by omega), List.drop_eq_nil_of_le (show a.length ≤ i by omega)]
    by_cases e : i < b.length
    · rw [if_pos (by omega), List.drop_eq_getElem_cons e]; rfl
    · rw [if_neg (by omega), List.drop_eq_nil_of_le (show b.length ≤ i by omega)]; rfl
  | succ d ih =>
    intro i k h hb hk
    obtain ⟨k, rfl⟩ : ∃ m, k = m + 1 := ⟨k - 1, by omega⟩
    have hi : i < a.length := by omega
    have ra : rd a (i : Int) = a[i] := rd_nat a i _ (List.getElem?_eq_getElem hi)
    simp only [slices_Compare_int_int.l0]
    rw [if_pos (by omega), if_pos (by omega), if_pos (by omega), List.drop_eq_getElem_cons hi]
    by_cases e : i < b.length
    · have rb : rd b (i : Int) = b[i] := rd_nat b i _ (List.getElem?_eq_getElem e)
      rw [if_neg (by omega), if_pos (by omega), ra, rb, cmp_tells, Option.bind_some, List.drop_eq_getElem_cons e, cmpT]
      by_cases c1 : a[i] < b[i]
      · rw [if_pos c1, if_neg (by omega), if_pos c1]
      · by_cases c2 : b[i] < a[i]
        · rw [if_neg c1, if_pos c2, if_neg (by omega), if_neg c1, if_pos c2]
        · rw [if_neg c1, if_neg c2, if_pos rfl, if_neg c1, if_neg c2, wrap_succ (by omega) (by omega), show ((i : Int) + 1) = ((i + 1 : Nat) : Int) from rfl]
          exact ih (i + 1) k (by omega) (by omega) (by omega)
    · rw [if_pos (by omega), List.drop_eq_nil_of_le (show b.length ≤ i by omega)]; rfl
theorem compare_tells (a b : List Int) (ha : a.length ≤ 9223372036854775807) : tuple_Compare.f (a.length + 1) a b = some (cmpT a b) := by
  have := compare_loop a b ha a.length 0 (a.length + 1) (by omega) (by omega) (by omega)
  simp only [tuple_Compare.f, slices_Compare_int_int.f]
  rw [show ((0 : Nat) : Int) = 0 from rfl] at this
  rw [this]
  rfl
theorem compare_call (A : Option Addr) (c : Nat) (a : List Int) (n : Nat) (hn : a.length = n) (B : Option Addr) (cb : Nat) (b : List Int) (m : Nat) (hm : b.length = m) (z : Int) (hz : cmpT a b = z) (W : World) (ha : (Kd.int .i64).C W A a.length a) (hca : n ≤ c) (hb : (Kd.int .i64).C W B b.length b) (hcb : m ≤ cb) :
    Calls Try.prog 18 #[.slice A n c, .slice B m cb] W fun e W' => e = .returned (.int .i64 z) ∧ Drawn0 W W' := by
  subst hn hm hz
  exact tuple_Compare.calls (a.length + 1) A c a B cb b _ W ha hca hb hcb (compare_tells a b ha.2.1)
def bsL (l : List (List Int)) (t : List Int) : Nat → Nat → Nat → Nat
  | 0, i, _ => i
  | f + 1, i, j => if i < j then (if cmpT (l.getD ((i + j) / 2) []) t < 0 then bsL l t f ((i + j) / 2 + 1) j else bsL l t f i ((i + j) / 2)) else i
def bsI (l : List (List Int)) (t : List Int) : Nat := bsL l t l.length 0 l.length
def bsF (l : List (List Int)) (t : List Int) : Bool := decide (bsI l t < l.length) && (cmpT (l.getD (bsI l t) []) t == 0)
theorem bsL_done (l : List (List Int)) (t : List Int) (f i j : Nat) (h : ¬ i < j) : bsL l t f i j = i := by
  cases f with
  | zero => rfl
  | succ f => rw [bsL, if_neg h]
set_option maxHeartbeats 8000000 in
theorem slices_BinarySearchFunc_int_int_int.callsC (A0 : Option Addr) (c0 : Nat) (l0 : List (List Int)) (A1 : Option Addr) (c1 : Nat) (l1 : List Int) (w : World) (hr0 : Kd.C (Kd.slice 3 (Kd.int .i64)) w A0 l0.length l0) (hc0 : l0.length ≤ c0) (hr1 : Kd.C (Kd.int .i64) w A1 l1.length l1) (hc1 : l1.length ≤ c1) (hlen : l0.length < 17592186044416) :
    Calls Try.prog 39 #[.slice A0 l0.length c0, .slice A1 l1.length c1, .func (.func 18) #[] #[]] w fun e w' => e = .returned (.tuple #[.int .i64 (bsI l0 l1 : Nat), .bool (bsF l0 l1)]) ∧ Drawn0 w w' := by
  have HR0 := Aside0.mk hr0
  have HR1 := Aside0.mk hr1
  have HC1 := Aside0.mk hc1
  obtain ⟨n, hn⟩ : ∃ n, n = l0.length := ⟨_, rfl⟩
  obtain ⟨m, hm⟩ : ∃ m, m = l1.length := ⟨_, rfl⟩
  have HN := Aside0.mk hn
  have HM := Aside0.mk hm
  obtain ⟨R, hR⟩ : ∃ R, R = bsI l0 l1 := ⟨_, rfl⟩
  obtain ⟨F, hF⟩ : ∃ F, F = bsF l0 l1 := ⟨_, rfl⟩
  have HRR := Aside0.mk hR
  have HFF := Aside0.mk hF
  rw [← hR, ← hF, ← hn, ← hm] at ⊢
  rw [← hn] at hlen
  clear hr0 hr1 hc0 hc1 hn hm hR hF
  go_enter Try.func39, Try.ntmps39
  go_wp2
  go_loopg [9, 10] n (fun gg s9 s10 wr => ∃ (i j : Nat), s9 = .int .i64 i ∧ s10 = .int .i64 j ∧ i ≤ j ∧ j ≤ n ∧ Aside0 (j - i ≤ gg) ∧ Aside0 (bsL l0 l1 gg i j = R) ∧ Aside0 (Drawn0 w wr))
  case atStart => exact ⟨0, n, rfl, rfl, Nat.zero_le _, Nat.le_refl _, ⟨by omega⟩, ⟨by rw [HRR.out, HN.out]; rfl⟩, ⟨Drawn0.refl _⟩⟩
  case round =>
    obtain ⟨i, j, rfl, rfl, hij, hjn, HG, HI, HD⟩ := hrel
    by_cases hlt : i < j
    · have hltz : (i : Int) < (j : Int) := by omega
      have hw : wrap64 ((i : Int) + (j : Int)) = (i : Int) + (j : Int) := wrap_id (by omega) (by omega)
      obtain ⟨h, hh⟩ : ∃ h, h = (i + j) / 2 := ⟨_, rfl⟩
      have hhz : ((i : Int) + (j : Int)) / 2 = (h : Int) := by omega
      have hhn : h < n := by omega
      have hhnz : (h : Int) < (n : Int) := by omega
      have HH := Aside0.mk (show i ≤ h ∧ h < j ∧ h = (i + j) / 2 by omega)
      have hw1 : wrap64 ((h : Int) + 1) = (h : Int) + 1 := wrap_id (by omega) (by omega)
      obtain ⟨gk, rfl⟩ : ∃ g, gk = g + 1 := ⟨gk - 1, by have := HG.out; omega⟩
      obtain ⟨ad, v, x, rfl, hx, hxm, hk, hcell⟩ := elem_one (d := Kd.slice 3 (Kd.int .i64)) rfl HR0.out HD.out.below h (by rw [← HN.out]; exact hhn)
      obtain ⟨Ax, cx, e, hlx, hCx⟩ := hk
      obtain ⟨q, hq⟩ : ∃ q, x.length = q := ⟨_, rfl⟩
      rw [hq] at e hlx
      obtain rfl : v = .slice Ax q cx := by injection e
      have hxd : l0.getD h [] = x := by rw [List.getD_eq_getElem?_getD, hx]; rfl
      have HS := Aside0.mk (by have := HI.out; rw [bsL, if_pos hlt, ← hh, hxd] at this; exact this : (if cmpT x l1 < 0 then bsL l0 l1 gk (h + 1) j else bsL l0 l1 gk i h) = R)
      have HCC := Aside0.mk (fun z hz => compare_call Ax cx x q hq A1 c1 l1 m HM.out.symm z hz wr (Kd.C_below hCx HD.out.below) hlx (Kd.C_below HR1.out HD.out.below) (by rw [HM.out]; exact HC1.out))
      obtain ⟨z, hz⟩ : ∃ z, cmpT x l1 = z := ⟨_, rfl⟩
      have HC := Aside0.mk (HCC.out z hz)
      rw [hz] at HS
      clear e hlx hCx hx hxm hq hz hxd hh hlt HCC
      by_cases hzl : z < 0
      · have hzd : decide (z < 0) = true := decide_eq_true hzl
        have HS2 := Aside0.mk (by have := HS.out; rw [if_pos hzl] at this; exact this : bsL l0 l1 gk (h + 1) j = R)
        clear hzl
        go_wp2_with (go_at_call 18; refine HC.out.mono ?_; rintro e w' ⟨rfl, hb⟩; have HB2 := Aside0.mk hb; clear hb)
        go_roundg gk
        case measure => omega
        case rel => exact ⟨h + 1, j, by go_num, rfl, by have := HH.out; omega, hjn, ⟨by have h1 := HH.out; have h2 := HG.out; omega⟩, HS2, ⟨⟨by obtain ⟨a, ha⟩ := HD.out.out; obtain ⟨b, hb⟩ := HB2.out.out; exact ⟨a + b, by rw [hb, ha, World.drewN_drewN]⟩⟩⟩⟩
      · have hzd : decide (z < 0) = false := decide_eq_false hzl
        have HS2 := Aside0.mk (by have := HS.out; rw [if_neg hzl] at this; exact this : bsL l0 l1 gk i h = R)
        clear hzl
        go_wp2_with (go_at_call 18; refine HC.out.mono ?_; rintro e w' ⟨rfl, hb⟩; have HB2 := Aside0.mk hb; clear hb)
        go_roundg gk
        case measure => omega
        case rel => exact ⟨i, h, rfl, rfl, by have := HH.out; omega, by omega, ⟨by have h1 := HH.out; have h2 := HG.out; omega⟩, HS2, ⟨⟨by obtain ⟨a, ha⟩ := HD.out.out; obtain ⟨b, hb⟩ := HB2.out.out; exact ⟨a + b, by rw [hb, ha, World.drewN_drewN]⟩⟩⟩⟩
    · have hltz : ¬ (i : Int) < (j : Int) := by omega
      have hRi : i = R := by have := HI.out; rw [bsL_done _ _ _ _ _ hlt] at this; exact this
      subst hRi
      by_cases hin : i < n
      · have hinz : decide ((i : Int) < (n : Int)) = true := decide_eq_true (by omega)
        have hinq : (i : Int) < (n : Int) := by omega
        obtain ⟨ad, v, x, rfl, hx, hxm, hk, hcell⟩ := elem_one (d := Kd.slice 3 (Kd.int .i64)) rfl HR0.out HD.out.below i (by rw [← HN.out]; exact hin)
        obtain ⟨Ax, cx, e, hlx, hCx⟩ := hk
        obtain ⟨q, hq⟩ : ∃ q, x.length = q := ⟨_, rfl⟩
        rw [hq] at e hlx
        obtain rfl : v = .slice Ax q cx := by injection e
        have hxd : l0.getD i [] = x := by rw [List.getD_eq_getElem?_getD, hx]; rfl
        have HCC := Aside0.mk (fun z hz => compare_call Ax cx x q hq A1 c1 l1 m HM.out.symm z hz wr (Kd.C_below hCx HD.out.below) hlx (Kd.C_below HR1.out HD.out.below) (by rw [HM.out]; exact HC1.out))
        obtain ⟨z, hz⟩ : ∃ z, cmpT x l1 = z := ⟨_, rfl⟩
        have HC := Aside0.mk (HCC.out z hz)
        have HF2 := Aside0.mk (show (z == 0) = F by rw [HFF.out]; unfold bsF; rw [← HRR.out, hxd, hz, decide_eq_true (by rw [← HN.out]; exact hin), Bool.true_and])
        clear e hlx hCx hx hxm hq hz hxd HCC
        go_wp2_with (go_at_call 18; refine HC.out.mono ?_; rintro e w' ⟨rfl, hb⟩; have HB2 := Aside0.mk hb; clear hb)
        go_ret2
        refine ⟨?_, ⟨?_⟩⟩
        · rw [← HF2.out]; rfl
        · obtain ⟨a, ha⟩ := HD.out.out
          obtain ⟨b, hb⟩ := HB2.out.out
          exact ⟨a + b, by rw [hb, ha, World.drewN_drewN]⟩
      · have hinz : decide ((i : Int) < (n : Int)) = false := decide_eq_false (by omega)
        have HF2 := Aside0.mk (show false = F by rw [HFF.out]; unfold bsF; rw [← HRR.out, decide_eq_false (by rw [← HN.out]; exact hin), Bool.false_and])
        go_wp2
        go_ret2
        exact ⟨by rw [← HF2.out]; rfl, HD.out⟩

end Go.Proofs.Ytlnmgljiggebiaa.Pr
