-- Printed by wip/tools/pp.py over the kit's print.py, several texts in one (wip/tools/mergepr.py); Lean checks it.
import Derived.Test.YtpmfdggbccbfaaaPr0
import Derived.Test.YtpmfdggbccbfaaaPr1
import Derived.Test.YtpmfdggbccbfaaaPr4
namespace Go.Proofs.Ytpmfdggbccbfaaa.Pr
open Go.RowKit Go.Proofs.YtpmfdggbccbfaaaW.PrintWords Go.Proofs.YtpmfdggbccbfaaaW.PrintLast Go.Proofs.YtpmfdggbccbfaaaW.PrintMore
attribute [local go_sem] max2_int min2_int max_two min_two max_three min_three max_four min_four
set_option linter.unusedVariables false
set_option linter.unusedSimpArgs false
/-! ### tuple_merge: function 70 -/
def keepL (is : Bool) (n : Int) (l : List Int) : List Int := if is = true then n :: l else l
def mergeIn (f1 f2 f3 : Bool) (a : Int) (rest : List Int → List Int) : List Int → List Int
 | [] => keepL f1 a (rest [])
 | b :: m => if a < b then keepL f1 a (rest (b :: m)) else if b < a then keepL f3 b (mergeIn f1 f2 f3 a rest m) else keepL f2 a (rest m)
def mergeL (f1 f2 f3 : Bool) : List Int → List Int → List Int
 | [] => fun bs => if f3 = true then bs else []
 | a :: l => mergeIn f1 f2 f3 a (mergeL f1 f2 f3 l)
theorem mergeL_nn (f1 f2 f3 : Bool) : mergeL f1 f2 f3 [] [] = [] := by cases f3 <;> rfl
theorem mergeL_cn (f1 f2 f3 : Bool) (a : Int) (l : List Int) : mergeL f1 f2 f3 (a :: l) [] = keepL f1 a (mergeL f1 f2 f3 l []) := rfl
theorem mergeL_nc (f1 f2 f3 : Bool) (b : Int) (m : List Int) : mergeL f1 f2 f3 [] (b :: m) = keepL f3 b (mergeL f1 f2 f3 [] m) := by cases f3 <;> rfl
theorem mergeL_cc (f1 f2 f3 : Bool) (a b : Int) (l m : List Int) : mergeL f1 f2 f3 (a :: l) (b :: m) = if a < b then keepL f1 a (mergeL f1 f2 f3 l (b :: m)) else if b < a then keepL f3 b (mergeL f1 f2 f3 (a :: l) m) else keepL f2 a (mergeL f1 f2 f3 l m) := rfl
def tuple_merge.f (l0 l1 : List Int) (a2 a3 a4 : Bool) : Option (List Int) := if l0.length + l1.length < 17592186044416 then some (mergeL a2 a3 a4 l0 l1) else none
theorem keep_no (n : Int) (B : Nat) (w : World) : Calls Try.prog 78 #[.bool false, .int .i64 n, .pointer (some ⟨B, 0, none⟩)] w fun e w' => e = .returned (.tuple #[]) ∧ w = w' := by
 go_enter Try.func78, Try.ntmps78
 go_wp2
 go_end0
 exact ⟨rfl, rfl⟩
theorem keep_yes (n : Int) (B base : Nat) (w0 w : World) (v : Value) (xs : List Int) (hbox : w.heap[B]? = some (.cells #[v] 23 (0, 0))) (hR : Kd.R (Kd.int .i64) 3 w base (fun _ => True) v xs) (hB : Below base w0 w) (hle : base ≤ w.heap.size) (hBB : base ≤ B) (hlen : xs.length < 17592186044416) :
  Calls Try.prog 78 #[.bool true, .int .i64 n, .pointer (some ⟨B, 0, none⟩)] w fun e w' => e = .returned (.tuple #[]) ∧ ∃ v', w'.heap[B]? = some (.cells #[v'] 23 (0, 0)) ∧ Kd.R (Kd.int .i64) 3 w' base (fun _ => True) v' (xs ++ [n]) ∧ Below base w0 w' ∧ base ≤ w'.heap.size := by
 have HX := Aside0.mk hbox;have HR := Aside0.mk hR;have HB := Aside0.mk hB;have HL := Aside0.mk hle;have HBB := Aside0.mk hBB;have hc0 : w.cell? ⟨B, 0, none⟩ = some v := (blk_cell hbox 0).trans rfl;have hf0 := blk_frozen hbox 0;clear hbox hR hB hle hBB;go_enter Try.func78, Try.ntmps78
 go_wp2_with (first | (at_builtin; refine Kd.R_append (Kd.int .i64) (w0 := w0) base rfl (.tmp 6) (.tmp 8) 23 3 (.int .i64 0) 8 rfl Try.underlying23 info3 rfl (by decide) (by omega) v xs n [.int .i64 n] (fun _ => True) (fun _ => False) rfl rfl rfl (fun _ hk => hk.elim) (fun _ _ => trivial) HR.out HB.out HL.out (by omega) ?_; intro v1 w1 ho hb hg hat; have HO := Aside0.mk ho; have HB1 := Aside0.mk hb; have HX1 := Aside0.mk (blk_grown HX.out hg (Kd.R_ne HR.out HX.out (by decide))); have HL1 := Aside0.mk (Nat.le_trans HL.out hg.size); clear ho hb hg hat; obtain ⟨A1, c1, hv1⟩ := Kd.R_slice HO.out; subst hv1; simp only [List.length_append, List.length_cons, List.length_nil, Nat.zero_add] at HO; have hc1 : w1.cell? ⟨B, 0, none⟩ = some v := (blk_cell HX1.out 0).trans rfl; have hf1 := blk_frozen HX1.out 0))
 go_end0
 exact ⟨rfl, _, blk_put HX1.out 0 _ rfl, Kd.R_set HO.out HX1.out (by decide) _ _, HB1.out.setCell HBB.out _, by simpa using HL1.out⟩
theorem head_facts (W : World) (A : Option Addr) (c : Nat) (a : Int) (l : List Int) (h : (Kd.int .i64).C W A (l.length + 1) (a :: l)) (hc : l.length + 1 ≤ c) :
  ∃ (ad : Addr) (A' : Option Addr), A = some ad ∧ (∀ W', Below W.heap.size W W' → W'.cell? ad = some (.int .i64 a)) ∧ (∀ W' : World, (Instr.slice 23 (.slice (some ad) (l.length + 1) c) (some (.int .i64 1)) none none).run Try.prog W' = .ok (.slice A' l.length (c - 1)) W') ∧
   (Kd.int .i64).C W A' l.length l ∧ l.length ≤ c - 1 := by
 obtain ⟨i0, hi, hii⟩ := Option.map_eq_some_iff.1 info3;obtain ⟨ad, e, hcell⟩ := Kd.at_int h 0 (by omega) (by omega);subst e;obtain ⟨A', h1, h2, h3⟩ := print_drop_of (P := Try.prog) (Value.int .i64) (0 : Int) 23 3 .i64 Try.underlying23 hi (by simp at hii; exact hii.2.1) (some ad) c (a :: l) 1 (by omega) (by simp; omega) (by simpa using hc);refine ⟨ad, A', rfl, fun W' hb => ?_, ?_, ?_, ?_⟩
 ·have := pw_cell_below hb hcell;simpa [rd, Addr.add] using this
 ·simpa using h1
 ·have := h2 W (Kd.reads_of_C (d := (0 : Int)) h);exact Kd.C_of_reads (d := (0 : Int)) (h1 := fun _ => rfl) (by simpa using this)
 ·simpa using h3
set_option maxHeartbeats 8000000 in
theorem tuple_merge.calls (A0 : Option Addr) (c0 : Nat) (l0 : List Int) (A1 : Option Addr) (c1 : Nat) (l1 : List Int) (a2 a3 a4 : Bool) (r : List Int) (w : World) (hr0 : Kd.C (Kd.int .i64) w A0 l0.length l0) (hc0 : l0.length ≤ c0) (hr1 : Kd.C (Kd.int .i64) w A1 l1.length l1) (hc1 : l1.length ≤ c1) (h : tuple_merge.f l0 l1 a2 a3 a4 = some r) :
  Calls Try.prog 70 #[.slice A0 l0.length c0, .slice A1 l1.length c1, .bool a2, .bool a3, .bool a4] w fun e w' => ∃ v0_ : Value, e = .returned (v0_) ∧ Kd.R (Kd.int .i64) 3 w' w.heap.size (fun _ => True) v0_ r ∧ Below w.heap.size w w' := by
 unfold tuple_merge.f at h
 by_cases hl : l0.length + l1.length < 17592186044416
 ·rw [if_pos hl] at h
  have Hr := Aside0.mk (Option.some.inj h);have HR0 := Aside0.mk hr0;have HR1 := Aside0.mk hr1;have HC0 := Aside0.mk hc0;have HC1 := Aside0.mk hc1;have HLL := Aside0.mk hl;clear hr0 h hr1 hc0 hc1 hl;go_enter Try.func70, Try.ntmps70
  go_wp2
  go_loopg [0, 1] (l0.length + l1.length) (fun kq va vb w' => ∃ (la lb : List Int) (A B : Option Addr) (ca cb : Nat) (v : Value) (xs : List Int), va = .slice A la.length ca ∧ vb = .slice B lb.length cb ∧ Aside0 ((Kd.int .i64).C w A la.length la) ∧ Aside0 (la.length ≤ ca) ∧ Aside0 ((Kd.int .i64).C w B lb.length lb) ∧ Aside0 (lb.length ≤ cb) ∧ Aside0 (w'.heap[w.heap.size]? = some (.cells #[v] 23 (0, 0))) ∧ Aside0 ((Kd.int .i64).R 3 w' w.heap.size (fun _ => True) v xs) ∧ Aside0 (Below w.heap.size w w') ∧ Aside0 (w.heap.size ≤ w'.heap.size) ∧ Aside0 (xs ++ mergeL a2 a3 a4 la lb = r) ∧ Aside0 (kq = la.length + lb.length) ∧ Aside0 (xs.length + kq ≤ l0.length + l1.length))
  case atStart => exact ⟨l0, l1, A0, A1, c0, c1, .slice none 0 0, [], rfl, rfl, HR0, HC0, HR1, HC1, ⟨blk_new _ _⟩, ⟨Kd.R_nil _ _ _ _ _⟩, ⟨below_alloc (Below.refl _ _) _⟩, ⟨by simp⟩, ⟨by rw [List.nil_append]; exact Hr.out⟩, ⟨rfl⟩, ⟨by simp⟩⟩
  case round =>
   obtain ⟨la, lb, A, B, ca, cb, v, xs, rfl, rfl, HA, HCA, HBB, HCB, HX, HO, HW, HZ, HE, HK, HM⟩ := hrel;match la, lb with
   | [], [] =>
    have e : xs = r := by have := HE.out; simpa [mergeL_nn] using this
    subst e;have hc1 : wr.cell? ⟨w.heap.size, 0, none⟩ = some v := (blk_cell HX.out 0).trans rfl;have hf1 := blk_frozen HX.out 0;obtain ⟨Av, cv, hv1⟩ := Kd.R_slice HO.out;subst hv1;go_wp2
    have hc2 := (blk_cell (blk_put HX.out 0 (.slice Av xs.length cv) rfl) 0).trans rfl;refine bodyPost_ret (v := .slice Av xs.length cv) ?_ rfl ⟨_, rfl, Kd.R_set HO.out HX.out (by decide) _ _, HW.out.setCell (Nat.le_refl _) _⟩;simp only [results, show Try.f70.results = #[.cell 10 23] from rfl]
    go_simp
   | a :: l, [] =>
    obtain ⟨ad, A', rfl, h1, h2, h3, h4⟩ := head_facts w A ca a l (by simpa using HA.out) (by simpa using HCA.out);have H1 := Aside0.mk h1;have H3 := Aside0.mk h3;have H4 := Aside0.mk h4;have ha0 := H1.out wr HW.out;clear h1 h3 h4;cases a2 with
    | false =>
     have HE2 := Aside0.mk (by have := HE.out; (first | rw [mergeL_cc] at this | rw [mergeL_cn] at this | rw [mergeL_nc] at this); skip; simpa [keepL] using this : xs ++ mergeL false a3 a4 l [] = r);have HM2 := Aside0.mk (by have h1 := HM.out; have h2 := HK.out; have h3 := HLL.out; simp at h2 ⊢; omega : xs.length + 1 ≤ l0.length + l1.length ∧ xs.length < 17592186044416);go_wp2
     go_quiet (fail)
     go_wp2_with (go_at_call 78; refine (keep_no a w.heap.size _).mono ?_; rintro e w1 ⟨rfl, rfl⟩)
     go_roundg ((l : List Int).length + ([] : List Int).length)
     case measure => have := HK.out; simp at this ⊢; omega
     case rel => exact ⟨l, [], A', B, (ca - 1), cb, v, xs, by first | rfl | (simp; done), by first | rfl | (simp; done), ⟨by simpa using H3.out⟩, ⟨by simpa using H4.out⟩, HBB, HCB, ⟨(by (with_reducible repeat (first | refine blk_drewN ?_ _ | refine blk_drew ?_)); exact HX.out)⟩, ⟨(by (with_reducible repeat (first | apply Kd.R_drewN | apply Kd.R_drew)); exact HO.out)⟩, ⟨(by repeat (first | (with_reducible first | exact HW.out | apply pw_below_drewN | apply below_drew1) | exact HW.out))⟩, ⟨by simpa using HZ.out⟩, HE2, ⟨by first | rfl | (simp; done)⟩, ⟨by have h1 := HM.out; have h2 := HK.out; simp at h2 ⊢; omega⟩⟩
    | true =>
     have HE2 := Aside0.mk (by have := HE.out; (first | rw [mergeL_cc] at this | rw [mergeL_cn] at this | rw [mergeL_nc] at this); skip; simpa [keepL] using this : (xs ++ [a]) ++ mergeL true a3 a4 l [] = r);have HM2 := Aside0.mk (by have h1 := HM.out; have h2 := HK.out; have h3 := HLL.out; simp at h2 ⊢; omega : xs.length + 1 ≤ l0.length + l1.length ∧ xs.length < 17592186044416);go_wp2
     go_quiet (fail)
     go_wp2_with (go_at_call 78; refine (keep_yes a w.heap.size w.heap.size w _ v xs (by (with_reducible repeat (first | refine blk_drewN ?_ _ | refine blk_drew ?_)); exact HX.out) (by (with_reducible repeat (first | apply Kd.R_drewN | apply Kd.R_drew)); exact HO.out) (by repeat (first | (with_reducible first | exact HW.out | apply pw_below_drewN | apply below_drew1) | exact HW.out)) (by simpa using HZ.out) (Nat.le_refl _) HM2.out.2).mono ?_; rintro e w1 ⟨rfl, v1, hx1, ho1, hb1, hz1⟩; have HX1 := Aside0.mk hx1; have HO1 := Aside0.mk ho1; have HB1 := Aside0.mk hb1; have HZ1 := Aside0.mk hz1; clear hx1 ho1 hb1 hz1)
     go_roundg ((l : List Int).length + ([] : List Int).length)
     case measure => have := HK.out; simp at this ⊢; omega
     case rel => exact ⟨l, [], A', B, (ca - 1), cb, v1, (xs ++ [a]), by first | rfl | (simp; done), by first | rfl | (simp; done), ⟨by simpa using H3.out⟩, ⟨by simpa using H4.out⟩, HBB, HCB, ⟨(by (with_reducible repeat (first | refine blk_drewN ?_ _ | refine blk_drew ?_)); exact HX1.out)⟩, ⟨(by (with_reducible repeat (first | apply Kd.R_drewN | apply Kd.R_drew)); exact HO1.out)⟩, ⟨(by repeat (first | (with_reducible first | exact HB1.out | apply pw_below_drewN | apply below_drew1) | exact HB1.out))⟩, ⟨by simpa using HZ1.out⟩, HE2, ⟨by first | rfl | (simp; done)⟩, ⟨by have h1 := HM.out; have h2 := HK.out; simp at h2 ⊢; omega⟩⟩
   | [], b :: m =>
    obtain ⟨bd, B', rfl, k1, k2, k3, k4⟩ := head_facts w B cb b m (by simpa using HBB.out) (by simpa using HCB.out);have K1 := Aside0.mk k1;have K3 := Aside0.mk k3;have K4 := Aside0.mk k4;have hb0 := K1.out wr HW.out;clear k1 k3 k4;have hm0 : (((m.length : Int) + 1) == 0) = false := by simp; omega
    cases a4 with
    | false =>
     have HE2 := Aside0.mk (by have := HE.out; (first | rw [mergeL_cc] at this | rw [mergeL_cn] at this | rw [mergeL_nc] at this); skip; simpa [keepL] using this : xs ++ mergeL a2 a3 false [] m = r);have HM2 := Aside0.mk (by have h1 := HM.out; have h2 := HK.out; have h3 := HLL.out; simp at h2 ⊢; omega : xs.length + 1 ≤ l0.length + l1.length ∧ xs.length < 17592186044416);go_wp2
     go_quiet (fail)
     go_wp2
     go_quiet (fail)
     go_wp2_with (go_at_call 78; refine (keep_no b w.heap.size _).mono ?_; rintro e w1 ⟨rfl, rfl⟩)
     go_roundg (([] : List Int).length + (m : List Int).length)
     case measure => have := HK.out; simp at this ⊢; omega
     case rel => exact ⟨[], m, A, B', ca, (cb - 1), v, xs, by first | rfl | (simp; done), by first | rfl | (simp; done), HA, HCA, ⟨by simpa using K3.out⟩, ⟨by simpa using K4.out⟩, ⟨(by (with_reducible repeat (first | refine blk_drewN ?_ _ | refine blk_drew ?_)); exact HX.out)⟩, ⟨(by (with_reducible repeat (first | apply Kd.R_drewN | apply Kd.R_drew)); exact HO.out)⟩, ⟨(by repeat (first | (with_reducible first | exact HW.out | apply pw_below_drewN | apply below_drew1) | exact HW.out))⟩, ⟨by simpa using HZ.out⟩, HE2, ⟨by first | rfl | (simp; done)⟩, ⟨by have h1 := HM.out; have h2 := HK.out; simp at h2 ⊢; omega⟩⟩
    | true =>
     have HE2 := Aside0.mk (by have := HE.out; (first | rw [mergeL_cc] at this | rw [mergeL_cn] at this | rw [mergeL_nc] at this); skip; simpa [keepL] using this : (xs ++ [b]) ++ mergeL a2 a3 true [] m = r);have HM2 := Aside0.mk (by have h1 := HM.out; have h2 := HK.out; have h3 := HLL.out; simp at h2 ⊢; omega : xs.length + 1 ≤ l0.length + l1.length ∧ xs.length < 17592186044416);go_wp2
     go_quiet (fail)
     go_wp2
     go_quiet (fail)
     go_wp2_with (go_at_call 78; refine (keep_yes b w.heap.size w.heap.size w _ v xs (by (with_reducible repeat (first | refine blk_drewN ?_ _ | refine blk_drew ?_)); exact HX.out) (by (with_reducible repeat (first | apply Kd.R_drewN | apply Kd.R_drew)); exact HO.out) (by repeat (first | (with_reducible first | exact HW.out | apply pw_below_drewN | apply below_drew1) | exact HW.out)) (by simpa using HZ.out) (Nat.le_refl _) HM2.out.2).mono ?_; rintro e w1 ⟨rfl, v1, hx1, ho1, hb1, hz1⟩; have HX1 := Aside0.mk hx1; have HO1 := Aside0.mk ho1; have HB1 := Aside0.mk hb1; have HZ1 := Aside0.mk hz1; clear hx1 ho1 hb1 hz1)
     go_roundg (([] : List Int).length + (m : List Int).length)
     case measure => have := HK.out; simp at this ⊢; omega
     case rel => exact ⟨[], m, A, B', ca, (cb - 1), v1, (xs ++ [b]), by first | rfl | (simp; done), by first | rfl | (simp; done), HA, HCA, ⟨by simpa using K3.out⟩, ⟨by simpa using K4.out⟩, ⟨(by (with_reducible repeat (first | refine blk_drewN ?_ _ | refine blk_drew ?_)); exact HX1.out)⟩, ⟨(by (with_reducible repeat (first | apply Kd.R_drewN | apply Kd.R_drew)); exact HO1.out)⟩, ⟨(by repeat (first | (with_reducible first | exact HB1.out | apply pw_below_drewN | apply below_drew1) | exact HB1.out))⟩, ⟨by simpa using HZ1.out⟩, HE2, ⟨by first | rfl | (simp; done)⟩, ⟨by have h1 := HM.out; have h2 := HK.out; simp at h2 ⊢; omega⟩⟩
   | a :: l, b :: m =>
    obtain ⟨ad, A', rfl, h1, h2, h3, h4⟩ := head_facts w A ca a l (by simpa using HA.out) (by simpa using HCA.out);have H1 := Aside0.mk h1;have H3 := Aside0.mk h3;have H4 := Aside0.mk h4;have ha0 := H1.out wr HW.out;clear h1 h3 h4;obtain ⟨bd, B', rfl, k1, k2, k3, k4⟩ := head_facts w B cb b m (by simpa using HBB.out) (by simpa using HCB.out);have K1 := Aside0.mk k1;have K3 := Aside0.mk k3;have K4 := Aside0.mk k4;have hb0 := K1.out wr HW.out;clear k1 k3 k4;have hm0 : (((m.length : Int) + 1) == 0) = false := by simp; omega
    have hl0 : (((l.length : Int) + 1) == 0) = false := by simp; omega
    by_cases hlt : a < b
    ·have hd : decide (a < b) = true := decide_eq_true hlt;cases a2 with
     | false =>
      have HE2 := Aside0.mk (by have := HE.out; (first | rw [mergeL_cc] at this | rw [mergeL_cn] at this | rw [mergeL_nc] at this); rw [if_pos hlt] at this; simpa [keepL] using this : xs ++ mergeL false a3 a4 l (b :: m) = r);have HM2 := Aside0.mk (by have h1 := HM.out; have h2 := HK.out; have h3 := HLL.out; simp at h2 ⊢; omega : xs.length + 1 ≤ l0.length + l1.length ∧ xs.length < 17592186044416);go_wp2
      go_quiet (fail)
      go_wp2_with (go_at_call 78; refine (keep_no a w.heap.size _).mono ?_; rintro e w1 ⟨rfl, rfl⟩)
      go_roundg ((l : List Int).length + ((b :: m) : List Int).length)
      case measure => have := HK.out; simp at this ⊢; omega
      case rel => exact ⟨l, (b :: m), A', (some bd), (ca - 1), cb, v, xs, by first | rfl | (simp; done), by first | rfl | (simp; done), ⟨by simpa using H3.out⟩, ⟨by simpa using H4.out⟩, HBB, HCB, ⟨(by (with_reducible repeat (first | refine blk_drewN ?_ _ | refine blk_drew ?_)); exact HX.out)⟩, ⟨(by (with_reducible repeat (first | apply Kd.R_drewN | apply Kd.R_drew)); exact HO.out)⟩, ⟨(by repeat (first | (with_reducible first | exact HW.out | apply pw_below_drewN | apply below_drew1) | exact HW.out))⟩, ⟨by simpa using HZ.out⟩, HE2, ⟨by first | rfl | (simp; done)⟩, ⟨by have h1 := HM.out; have h2 := HK.out; simp at h2 ⊢; omega⟩⟩
     | true =>
      have HE2 := Aside0.mk (by have := HE.out; (first | rw [mergeL_cc] at this | rw [mergeL_cn] at this | rw [mergeL_nc] at this); rw [if_pos hlt] at this; simpa [keepL] using this : (xs ++ [a]) ++ mergeL true a3 a4 l (b :: m) = r);have HM2 := Aside0.mk (by have h1 := HM.out; have h2 := HK.out; have h3 := HLL.out; simp at h2 ⊢; omega : xs.length + 1 ≤ l0.length + l1.length ∧ xs.length < 17592186044416);go_wp2
      go_quiet (fail)
      go_wp2_with (go_at_call 78; refine (keep_yes a w.heap.size w.heap.size w _ v xs (by (with_reducible repeat (first | refine blk_drewN ?_ _ | refine blk_drew ?_)); exact HX.out) (by (with_reducible repeat (first | apply Kd.R_drewN | apply Kd.R_drew)); exact HO.out) (by repeat (first | (with_reducible first | exact HW.out | apply pw_below_drewN | apply below_drew1) | exact HW.out)) (by simpa using HZ.out) (Nat.le_refl _) HM2.out.2).mono ?_; rintro e w1 ⟨rfl, v1, hx1, ho1, hb1, hz1⟩; have HX1 := Aside0.mk hx1; have HO1 := Aside0.mk ho1; have HB1 := Aside0.mk hb1; have HZ1 := Aside0.mk hz1; clear hx1 ho1 hb1 hz1)
      go_roundg ((l : List Int).length + ((b :: m) : List Int).length)
      case measure => have := HK.out; simp at this ⊢; omega
      case rel => exact ⟨l, (b :: m), A', (some bd), (ca - 1), cb, v1, (xs ++ [a]), by first | rfl | (simp; done), by first | rfl | (simp; done), ⟨by simpa using H3.out⟩, ⟨by simpa using H4.out⟩, HBB, HCB, ⟨(by (with_reducible repeat (first | refine blk_drewN ?_ _ | refine blk_drew ?_)); exact HX1.out)⟩, ⟨(by (with_reducible repeat (first | apply Kd.R_drewN | apply Kd.R_drew)); exact HO1.out)⟩, ⟨(by repeat (first | (with_reducible first | exact HB1.out | apply pw_below_drewN | apply below_drew1) | exact HB1.out))⟩, ⟨by simpa using HZ1.out⟩, HE2, ⟨by first | rfl | (simp; done)⟩, ⟨by have h1 := HM.out; have h2 := HK.out; simp at h2 ⊢; omega⟩⟩
    ·have hd : decide (a < b) = false := decide_eq_false hlt;by_cases hgt : b < a
     ·have hd2 : decide (b < a) = true := decide_eq_true hgt;cases a4 with
      | false =>
       have HE2 := Aside0.mk (by have := HE.out; (first | rw [mergeL_cc] at this | rw [mergeL_cn] at this | rw [mergeL_nc] at this); rw [if_neg hlt, if_pos hgt] at this; simpa [keepL] using this : xs ++ mergeL a2 a3 false (a :: l) m = r);have HM2 := Aside0.mk (by have h1 := HM.out; have h2 := HK.out; have h3 := HLL.out; simp at h2 ⊢; omega : xs.length + 1 ≤ l0.length + l1.length ∧ xs.length < 17592186044416);go_wp2
       go_quiet (fail)
       go_wp2
       go_quiet (fail)
       go_wp2_with (go_at_call 78; refine (keep_no b w.heap.size _).mono ?_; rintro e w1 ⟨rfl, rfl⟩)
       go_roundg (((a :: l) : List Int).length + (m : List Int).length)
       case measure => have := HK.out; simp at this ⊢; omega
       case rel => exact ⟨(a :: l), m, (some ad), B', ca, (cb - 1), v, xs, by first | rfl | (simp; done), by first | rfl | (simp; done), HA, HCA, ⟨by simpa using K3.out⟩, ⟨by simpa using K4.out⟩, ⟨(by (with_reducible repeat (first | refine blk_drewN ?_ _ | refine blk_drew ?_)); exact HX.out)⟩, ⟨(by (with_reducible repeat (first | apply Kd.R_drewN | apply Kd.R_drew)); exact HO.out)⟩, ⟨(by repeat (first | (with_reducible first | exact HW.out | apply pw_below_drewN | apply below_drew1) | exact HW.out))⟩, ⟨by simpa using HZ.out⟩, HE2, ⟨by first | rfl | (simp; done)⟩, ⟨by have h1 := HM.out; have h2 := HK.out; simp at h2 ⊢; omega⟩⟩
      | true =>
       have HE2 := Aside0.mk (by have := HE.out; (first | rw [mergeL_cc] at this | rw [mergeL_cn] at this | rw [mergeL_nc] at this); rw [if_neg hlt, if_pos hgt] at this; simpa [keepL] using this : (xs ++ [b]) ++ mergeL a2 a3 true (a :: l) m = r);have HM2 := Aside0.mk (by have h1 := HM.out; have h2 := HK.out; have h3 := HLL.out; simp at h2 ⊢; omega : xs.length + 1 ≤ l0.length + l1.length ∧ xs.length < 17592186044416);go_wp2
       go_quiet (fail)
       go_wp2
       go_quiet (fail)
       go_wp2_with (go_at_call 78; refine (keep_yes b w.heap.size w.heap.size w _ v xs (by (with_reducible repeat (first | refine blk_drewN ?_ _ | refine blk_drew ?_)); exact HX.out) (by (with_reducible repeat (first | apply Kd.R_drewN | apply Kd.R_drew)); exact HO.out) (by repeat (first | (with_reducible first | exact HW.out | apply pw_below_drewN | apply below_drew1) | exact HW.out)) (by simpa using HZ.out) (Nat.le_refl _) HM2.out.2).mono ?_; rintro e w1 ⟨rfl, v1, hx1, ho1, hb1, hz1⟩; have HX1 := Aside0.mk hx1; have HO1 := Aside0.mk ho1; have HB1 := Aside0.mk hb1; have HZ1 := Aside0.mk hz1; clear hx1 ho1 hb1 hz1)
       go_roundg (((a :: l) : List Int).length + (m : List Int).length)
       case measure => have := HK.out; simp at this ⊢; omega
       case rel => exact ⟨(a :: l), m, (some ad), B', ca, (cb - 1), v1, (xs ++ [b]), by first | rfl | (simp; done), by first | rfl | (simp; done), HA, HCA, ⟨by simpa using K3.out⟩, ⟨by simpa using K4.out⟩, ⟨(by (with_reducible repeat (first | refine blk_drewN ?_ _ | refine blk_drew ?_)); exact HX1.out)⟩, ⟨(by (with_reducible repeat (first | apply Kd.R_drewN | apply Kd.R_drew)); exact HO1.out)⟩, ⟨(by repeat (first | (with_reducible first | exact HB1.out | apply pw_below_drewN | apply below_drew1) | exact HB1.out))⟩, ⟨by simpa using HZ1.out⟩, HE2, ⟨by first | rfl | (simp; done)⟩, ⟨by have h1 := HM.out; have h2 := HK.out; simp at h2 ⊢; omega⟩⟩
     ·have hd2 : decide (b < a) = false := decide_eq_false hgt;cases a3 with
      | false =>
       have HE2 := Aside0.mk (by have := HE.out; (first | rw [mergeL_cc] at this | rw [mergeL_cn] at this | rw [mergeL_nc] at this); rw [if_neg hlt, if_neg hgt] at this; simpa [keepL] using this : xs ++ mergeL a2 false a4 l m = r);have HM2 := Aside0.mk (by have h1 := HM.out; have h2 := HK.out; have h3 := HLL.out; simp at h2 ⊢; omega : xs.length + 1 ≤ l0.length + l1.length ∧ xs.length < 17592186044416);go_wp2
       go_quiet (fail)
       go_wp2
       go_quiet (fail)
       go_wp2_with (go_at_call 78; refine (keep_no a w.heap.size _).mono ?_; rintro e w1 ⟨rfl, rfl⟩)
       go_quiet (fail)
       go_wp2
       go_roundg ((l : List Int).length + (m : List Int).length)
       case measure => have := HK.out; simp at this ⊢; omega
       case rel => exact ⟨l, m, A', B', (ca - 1), (cb - 1), v, xs, by first | rfl | (simp; done), by first | rfl | (simp; done), ⟨by simpa using H3.out⟩, ⟨by simpa using H4.out⟩, ⟨by simpa using K3.out⟩, ⟨by simpa using K4.out⟩, ⟨(by (with_reducible repeat (first | refine blk_drewN ?_ _ | refine blk_drew ?_)); exact HX.out)⟩, ⟨(by (with_reducible repeat (first | apply Kd.R_drewN | apply Kd.R_drew)); exact HO.out)⟩, ⟨(by repeat (first | (with_reducible first | exact HW.out | apply pw_below_drewN | apply below_drew1) | exact HW.out))⟩, ⟨by simpa using HZ.out⟩, HE2, ⟨by first | rfl | (simp; done)⟩, ⟨by have h1 := HM.out; have h2 := HK.out; simp at h2 ⊢; omega⟩⟩
      | true =>
       have HE2 := Aside0.mk (by have := HE.out; (first | rw [mergeL_cc] at this | rw [mergeL_cn] at this | rw [mergeL_nc] at this); rw [if_neg hlt, if_neg hgt] at this; simpa [keepL] using this : (xs ++ [a]) ++ mergeL a2 true a4 l m = r);have HM2 := Aside0.mk (by have h1 := HM.out; have h2 := HK.out; have h3 := HLL.out; simp at h2 ⊢; omega : xs.length + 1 ≤ l0.length + l1.length ∧ xs.length < 17592186044416);go_wp2
       go_quiet (fail)
       go_wp2
       go_quiet (fail)
       go_wp2_with (go_at_call 78; refine (keep_yes a w.heap.size w.heap.size w _ v xs (by (with_reducible repeat (first | refine blk_drewN ?_ _ | refine blk_drew ?_)); exact HX.out) (by (with_reducible repeat (first | apply Kd.R_drewN | apply Kd.R_drew)); exact HO.out) (by repeat (first | (with_reducible first | exact HW.out | apply pw_below_drewN | apply below_drew1) | exact HW.out)) (by simpa using HZ.out) (Nat.le_refl _) HM2.out.2).mono ?_; rintro e w1 ⟨rfl, v1, hx1, ho1, hb1, hz1⟩; have HX1 := Aside0.mk hx1; have HO1 := Aside0.mk ho1; have HB1 := Aside0.mk hb1; have HZ1 := Aside0.mk hz1; clear hx1 ho1 hb1 hz1)
       go_quiet (fail)
       go_wp2
       go_roundg ((l : List Int).length + (m : List Int).length)
       case measure => have := HK.out; simp at this ⊢; omega
       case rel => exact ⟨l, m, A', B', (ca - 1), (cb - 1), v1, (xs ++ [a]), by first | rfl | (simp; done), by first | rfl | (simp; done), ⟨by simpa using H3.out⟩, ⟨by simpa using H4.out⟩, ⟨by simpa using K3.out⟩, ⟨by simpa using K4.out⟩, ⟨(by (with_reducible repeat (first | refine blk_drewN ?_ _ | refine blk_drew ?_)); exact HX1.out)⟩, ⟨(by (with_reducible repeat (first | apply Kd.R_drewN | apply Kd.R_drew)); exact HO1.out)⟩, ⟨(by repeat (first | (with_reducible first | exact HB1.out | apply pw_below_drewN | apply below_drew1) | exact HB1.out))⟩, ⟨by simpa using HZ1.out⟩, HE2, ⟨by first | rfl | (simp; done)⟩, ⟨by have h1 := HM.out; have h2 := HK.out; simp at h2 ⊢; omega⟩⟩
 ·rw [if_neg hl] at h
  cases h
end Go.Proofs.Ytpmfdggbccbfaaa.Pr
namespace Go.Proofs.Ytpmfdggbccbfaaa.Pr
open Go.RowKit Go.Proofs.YtpmfdggbccbfaaaW.PrintWords Go.Proofs.YtpmfdggbccbfaaaW.PrintLast Go.Proofs.YtpmfdggbccbfaaaW.PrintMore
attribute [local go_sem] max2_int min2_int max_two min_two max_three min_three max_four min_four
set_option linter.unusedVariables false
set_option linter.unusedSimpArgs false
/-! ### tuple_Without: function 69 -/
def tuple_Without.f (l0 : List Int) (l1 : List Int) : Option (List Int) := (tuple_merge.f l0 l1 true false false).bind fun t394 => (some t394)
set_option maxHeartbeats 8000000 in
set_option maxRecDepth 100000 in
theorem tuple_Without.calls (A0 : Option Addr) (c0 : Nat) (l0 : List Int) (A1 : Option Addr) (c1 : Nat) (l1 : List Int) (r : List Int) (w : World) (hr0 : Kd.C (Kd.int .i64) w A0 l0.length l0) (hc0 : l0.length ≤ c0) (hr1 : Kd.C (Kd.int .i64) w A1 l1.length l1) (hc1 : l1.length ≤ c1) (h : tuple_Without.f l0 l1 = some r) :
  Calls Try.prog 69 #[.slice A0 l0.length c0, .slice A1 l1.length c1] w fun e w' => ∃ v0_ : Value, e = .returned (v0_) ∧ Kd.R (Kd.int .i64) 3 w' w.heap.size (fun _ => True) v0_ r ∧ Below w.heap.size w w' := by
 have HR0 := Aside0.mk hr0;have HC0 := Aside0.mk hc0;clear hr0 hc0;have HR1 := Aside0.mk hr1;have HC1 := Aside0.mk hc1;clear hr1 hc1;have HB := Aside0.mk (Below.refl w.heap.size w);have H : ((tuple_merge.f l0 l1 true false false).bind fun t394 => (some t394)) = some r := h;clear h;replace H := Option.bind_eq_some_iff.mp H;obtain ⟨t394, A30, H⟩ := H;replace H : (some t394) = some r := H;have A3 := Aside0.mk A30;clear A30;obtain rfl := Option.some.inj H;go_enter Try.func69, Try.ntmps69
 go_wp2_with (first | ((with_reducible refine gate_callee (f := 70) rfl ?_); refine goesL_ (some 7) rfl rfl Try.func70 (by kernel_rfl) rfl #[.slice A0 l0.length c0, .slice A1 l1.length c1, .bool true, .bool false, .bool false] rfl qM ?_; (with_reducible refine (tuple_merge.calls _ _ l0 _ _ l1 true false false t394 _ ?side1 ?side2 ?side3 ?side4 A3.out).mono ?_); (case side1 => repeat (first | exact HR0.out | (with_reducible refine Kd.C_alloc ?_ _) | (with_reducible refine Kd.C_drewN ?_ _) | (with_reducible refine Kd.C_drew ?_))); (case side2 => exact HC0.out); (case side3 => repeat (first | exact HR1.out | (with_reducible refine Kd.C_alloc ?_ _) | (with_reducible refine Kd.C_drewN ?_ _) | (with_reducible refine Kd.C_drew ?_))); (case side4 => exact HC1.out); rintro e w4 ⟨v395, rfl, ho0, hb⟩; refine ⟨_, rfl, ?_⟩; have n0_ := Aside0.mk (Kd.R_lower ho0 (below_size (qB HB.out))); have n1_ := Aside0.mk (below_step (qB HB.out) hb); clear HB; have HO396 := n0_; have HB := n1_; clear n0_ n1_; (try clear hb); (try clear hb2); (try clear hk); (try clear hi); (try clear ho0)))
 go_ret
 exact ⟨_, by first | rfl | (simp [errW_none, errW_some] <;> rfl) | (simp [*, errW_none, errW_some] <;> rfl), by (with_reducible repeat (first | apply Kd.R_alloc | apply Kd.R_drewN | apply Kd.R_drew)); exact HO396.out, by repeat (first | (with_reducible first | exact HB.out | apply below_alloc | apply pw_below_drewN | apply below_drew1) | exact HB.out)⟩
/-! ### tuple_Within: function 54 -/
def tuple_Within.f (l0 : List Int) (l1 : List Int) : Option (Bool) := (tuple_Without.f l0 l1).bind fun t397 => (some ((t397.length : Int) == 0))
set_option maxHeartbeats 8000000 in
set_option maxRecDepth 100000 in
theorem tuple_Within.calls (A0 : Option Addr) (c0 : Nat) (l0 : List Int) (A1 : Option Addr) (c1 : Nat) (l1 : List Int) (r : Bool) (w : World) (hr0 : Kd.C (Kd.int .i64) w A0 l0.length l0) (hc0 : l0.length ≤ c0) (hr1 : Kd.C (Kd.int .i64) w A1 l1.length l1) (hc1 : l1.length ≤ c1) (h : tuple_Within.f l0 l1 = some r) :
  Calls Try.prog 54 #[.slice A0 l0.length c0, .slice A1 l1.length c1] w fun e w' => e = .returned (.bool r) ∧ Below w.heap.size w w' := by
 have HR0 := Aside0.mk hr0;have HC0 := Aside0.mk hc0;clear hr0 hc0;have HR1 := Aside0.mk hr1;have HC1 := Aside0.mk hc1;clear hr1 hc1;have HB := Aside0.mk (Below.refl w.heap.size w);have H : ((tuple_Without.f l0 l1).bind fun t397 => (some ((t397.length : Int) == 0))) = some r := h;clear h;replace H := Option.bind_eq_some_iff.mp H;obtain ⟨t397, A30, H⟩ := H;(try dsimp only at H);have A3 := Aside0.mk A30;clear A30;obtain rfl := Option.some.inj H;go_enter Try.func54, Try.ntmps54
 go_wp2_with (first | ((with_reducible refine gate_callee (f := 69) rfl ?_); refine goesL_ (some 7) rfl rfl Try.func69 (by kernel_rfl) rfl #[.slice A0 l0.length c0, .slice A1 l1.length c1] rfl qM ?_; (with_reducible refine (tuple_Without.calls _ _ l0 _ _ l1 t397 _ ?side1 ?side2 ?side3 ?side4 A3.out).mono ?_); (case side1 => repeat (first | exact HR0.out | (with_reducible refine Kd.C_alloc ?_ _) | (with_reducible refine Kd.C_drewN ?_ _) | (with_reducible refine Kd.C_drew ?_))); (case side2 => exact HC0.out); (case side3 => repeat (first | exact HR1.out | (with_reducible refine Kd.C_alloc ?_ _) | (with_reducible refine Kd.C_drewN ?_ _) | (with_reducible refine Kd.C_drew ?_))); (case side4 => exact HC1.out); rintro e w4 ⟨v398, rfl, ho0, hb⟩; refine ⟨_, rfl, ?_⟩; have n0_ := Aside0.mk (Kd.R_lower ho0 (below_size (qB HB.out))); have n1_ := Aside0.mk (below_step (qB HB.out) hb); clear HB; have HO399 := n0_; have HB := n1_; clear n0_ n1_; (try clear hb); (try clear hb2); (try clear hk); (try clear hi); (try clear ho0); obtain ⟨Ao5, co5, eo5⟩ := Kd.R_slice HO399.out; subst eo5))
 go_ret
 exact ⟨by first | rfl | (simp [errW_none, errW_some] <;> rfl) | (simp [*, errW_none, errW_some] <;> rfl), by repeat (first | (with_reducible first | exact HB.out | apply below_alloc | apply pw_below_drewN | apply below_drew1) | exact HB.out)⟩
end Go.Proofs.Ytpmfdggbccbfaaa.Pr
namespace Go.Proofs.Ytpmfdggbccbfaaa.Pr
open Go.RowKit Go.Proofs.YtpmfdggbccbfaaaW.PrintWords Go.Proofs.YtpmfdggbccbfaaaW.PrintLast Go.Proofs.YtpmfdggbccbfaaaW.PrintMore
attribute [local go_sem] max2_int min2_int max_two min_two max_three min_three max_four min_four
set_option linter.unusedVariables false
set_option linter.unusedSimpArgs false
/-! ### place_Place: function 28 -/
def withinB (s b : List Int) : Bool := ((mergeL true false false s b).length : Int) == 0
def placeL (bags : List (List Int)) : List (List Int) → List Int → List Int × Int
 | [], out => (out, 0)
 | s :: l, out => if idxOf (withinB s) bags 0 < 0 then ([], 5) else placeL bags l (out ++ [idxOf (withinB s) bags 0])
def place_Place.f (l0_0 : List (List Int)) (l0_1 : List Int) (l1 : List (List Int)) : Option (List Int × Int) := if (∀ s ∈ l1, ∀ b ∈ l0_0, s.length + b.length < 17592186044416) ∧ l1.length < 17592186044416 then some (placeL l0_0 l1 []) else none
theorem within_some (s b : List Int) (h : s.length + b.length < 17592186044416) : tuple_Within.f s b = some (withinB s b) := by
 simp only [tuple_Within.f, tuple_Without.f, tuple_merge.f, if_pos h, Option.bind_some, withinB]
theorem place1 (S : Nat) (As : Option Addr) (cs : Nat) (s : List Int) (hcs : s.length ≤ cs) (A : Option Addr) (c : Nat) (b : List Int) (hc : b.length ≤ c) (W : World) (hbox : W.heap[S]? = some (.cells #[.slice As s.length cs] 23 (0, 0))) (hs : (Kd.int .i64).C W As s.length s) (hr : (Kd.int .i64).C W A b.length b) (hl : s.length + b.length < 17592186044416) :
  Calls Try.prog 53 #[.slice A b.length c, .pointer (some ⟨S, 0, none⟩)] W fun e W' => e = .returned (.bool (withinB s b)) ∧ Below W.heap.size W W' := by
 have hcell : W.cell? ⟨S, 0, none⟩ = some (.slice As s.length cs) := (blk_cell hbox 0).trans rfl;have HC := Aside0.mk (tuple_Within.calls As cs s A c b _ W hs hcs hr hc (within_some s b hl));clear hr hc hbox hs hcs hl;obtain ⟨z, hz⟩ : ∃ z, z = withinB s b := ⟨_, rfl⟩;rw [← hz] at HC ⊢
 clear hz;go_enter Try.func53, Try.ntmps53
 go_wp2_with (go_at_call 54; refine HC.out.mono ?_; rintro e w' ⟨rfl, hb⟩; have HB2 := Aside0.mk hb; clear hb)
 go_ret
 exact ⟨rfl, HB2.out⟩
theorem place2 (S : Nat) (As : Option Addr) (cs : Nat) (s : List Int) (hcs : s.length ≤ cs) (A : Option Addr) (c : Nat) (bags : List (List Int)) (w0 W : World) (hbox : W.heap[S]? = some (.cells #[.slice As s.length cs] 23 (0, 0))) (hb0 : Below w0.heap.size w0 W) (hs : (Kd.int .i64).C W As s.length s) (hr : (Kd.slice 3 (Kd.int .i64)).C w0 A bags.length bags) (hl : ∀ b ∈ bags, s.length + b.length < 17592186044416) :
  Calls Try.prog 52 #[.slice A bags.length c, .func (.func 53) #[] #[.pointer (some ⟨S, 0, none⟩)]] W fun e W' => e = .returned (.int .i64 (idxOf (withinB s) bags 0)) ∧ Below W.heap.size W W' :=
 slices_IndexFunc_int_int_52.callsP (Kd.slice 3 (Kd.int .i64)) rfl (withinB s) 53 #[.pointer (some ⟨S, 0, none⟩)] (enters_of Try.func53 (by kernel_rfl) rfl) A c bags W
  (fun x hx W' v hb' hv => by
   obtain ⟨A', c', e, hl', hC⟩ := hv;obtain rfl : v = .slice A' x.length c' := by injection e
   exact place1 S As cs s hcs A' c' x hl' W' (blk_below hbox hb') (Kd.C_below hs hb') hC (hl x hx)) (Kd.C_below hr hb0)
set_option maxHeartbeats 8000000 in
theorem place_Place.calls (A0_0 : Option Addr) (c0_0 : Nat) (l0_0 : List (List Int)) (A0_1 : Option Addr) (c0_1 : Nat) (l0_1 : List Int) (A1 : Option Addr) (c1 : Nat) (l1 : List (List Int)) (r1 : List Int) (r2 : Int) (w : World) (hr0_0 : Kd.C (Kd.slice 3 (Kd.int .i64)) w A0_0 l0_0.length l0_0) (hc0_0 : l0_0.length ≤ c0_0) (hr0_1 : Kd.C (Kd.int .i64) w A0_1 l0_1.length l0_1) (hc0_1 : l0_1.length ≤ c0_1) (hr1 : Kd.C (Kd.slice 3 (Kd.int .i64)) w A1 l1.length l1) (hc1 : l1.length ≤ c1) (h : place_Place.f l0_0 l0_1 l1 = some (r1, r2)) :
  Calls Try.prog 28 #[.agg #[.slice A0_0 l0_0.length c0_0, .slice A0_1 l0_1.length c0_1], .slice A1 l1.length c1] w fun e w' => ∃ v0_ : Value, e = .returned (.tuple #[v0_, .int .i64 r2]) ∧ Kd.R (Kd.int .i64) 3 w' w.heap.size (fun _ => True) v0_ r1 ∧ Below w.heap.size w w' := by
 unfold place_Place.f at h
 split at h
 ·rename_i hb
  have HE := Aside0.mk (Option.some.inj h);have HL := Aside0.mk hb.1;have HLN := Aside0.mk hb.2;have HR0 := Aside0.mk hr0_0;have HR1 := Aside0.mk hr1;have hlen := hr1.2.1;obtain ⟨n, hn⟩ : ∃ n, n = l1.length := ⟨_, rfl⟩;rw [← hn] at hlen ⊢
  have HN := Aside0.mk hn;clear hr0_0 hc0_0 hr0_1 hc0_1 hr1 hc1 h hn hb;go_enter Try.func28, Try.ntmps28
  go_wp2
  go_loopg [6, 12] n (fun gg s6 s12 wr => ∃ (kk : Nat) (out : List Int), s12 = .int .i64 kk ∧ kk ≤ n ∧ Aside0 (n - kk ≤ gg) ∧ Aside0 (out.length = kk) ∧ Aside0 ((Kd.int .i64).R 3 wr w.heap.size (fun _ => True) s6 out) ∧ Aside0 (wr.heap[w.heap.size]? = some (.cells #[.slice A0_0 l0_0.length c0_0, .slice A0_1 l0_1.length c0_1] 25 (0, 0))) ∧ Aside0 (Below w.heap.size w wr) ∧ Aside0 (w.heap.size ≤ wr.heap.size) ∧ Aside0 (placeL l0_0 (l1.drop kk) out = (r1, r2)))
  case atStart => exact ⟨0, [], rfl, Nat.zero_le _, ⟨Nat.le_refl _⟩, ⟨rfl⟩, ⟨Kd.R_nil _ _ _ _ _⟩, ⟨blk_new _ _⟩, ⟨below_alloc (Below.refl _ _) _⟩, ⟨by simp⟩, HE⟩
  case round =>
   obtain ⟨kk, out, rfl, hkk, HG, HO, HR, HX, HB, HZ, HI⟩ := hrel;have hx0 : wr.cell? ⟨w.heap.size, 0, none⟩ = some (.slice A0_0 l0_0.length c0_0) := (blk_cell HX.out 0).trans rfl;by_cases hlt : kk < n
   ·have hltz : (kk : Int) < (n : Int) := by omega
    obtain ⟨ad, v, s, rfl, hs, hsm, hk, hcell⟩ := elem_one (d := Kd.slice 3 (Kd.int .i64)) rfl HR1.out HB.out kk (by rw [← HN.out]; exact hlt);obtain ⟨As, cs, e, hls, hC⟩ := hk;obtain rfl : v = .slice As s.length cs := by injection e
    have HI2 := Aside0.mk (by have := HI.out; rw [List.drop_eq_getElem_cons (by rw [← HN.out]; exact hlt), (List.getElem?_eq_some_iff.1 hs).2] at this; exact this : placeL l0_0 (s :: l1.drop (kk + 1)) out = (r1, r2));have HCC := Aside0.mk (place2 wr.heap.size As cs s hls A0_0 c0_0 l0_0 w _ (by exact blk_new wr (.cells #[.slice As s.length cs] 23 (0, 0))) (below_alloc2 HB.out HZ.out _) (Kd.C_below hC (below_alloc2 HB.out HZ.out _)) HR0.out (HL.out s hsm));clear e hls hC hs hsm;obtain ⟨z, hz⟩ : ∃ z, z = idxOf (withinB s) l0_0 0 := ⟨_, rfl⟩;rw [← hz] at HCC
    have HI3 := Aside0.mk (by have := HI2.out; unfold placeL at this; rw [← hz] at this; exact this : (if z < 0 then ([], 5) else placeL l0_0 (l1.drop (kk + 1)) (out ++ [z])) = (r1, r2));clear hz;have HB1 := Aside0.mk (below_alloc2 HB.out HZ.out (.cells #[.slice As s.length cs] 23 (0, 0)));have HX1 := Aside0.mk (blk_alloc HX.out (.cells #[.slice As s.length cs] 23 (0, 0)));have hx1 : (wr.alloc (.cells #[.slice As s.length cs] 23 (0, 0))).cell? ⟨w.heap.size, 0, none⟩ = some (.slice A0_0 l0_0.length c0_0) := (blk_cell HX1.out 0).trans rfl;have HR2 := Aside0.mk (Kd.R_alloc HR.out (.cells #[.slice As s.length cs] 23 (0, 0)));have HZ1 := Aside0.mk (show w.heap.size ≤ (wr.alloc (.cells #[.slice As s.length cs] 23 (0, 0))).heap.size by have := HZ.out; simp; omega);by_cases hneg : z < 0
    ·have hd : decide (z < 0) = true := decide_eq_true hneg;have HI4 := Aside0.mk (by have := HI3.out; rw [if_pos hneg] at this; exact this : (([] : List Int), (5 : Int)) = (r1, r2));clear hneg;go_wp2_with (go_at_call 52; refine HCC.out.mono ?_; rintro e w' ⟨rfl, hb⟩; have HB2 := Aside0.mk (below_then HB1.out HZ1.out hb); clear hb)
     go_ret2
     have e1 := congrArg Prod.fst HI4.out;have e2 := congrArg Prod.snd HI4.out;dsimp only at e1 e2
     subst e1 e2;exact ⟨_, rfl, Kd.R_nil _ _ _ _ _, HB2.out⟩
    ·have hd : decide (z < 0) = false := decide_eq_false hneg;have HI4 := Aside0.mk (by have := HI3.out; rw [if_neg hneg] at this; exact this : placeL l0_0 (l1.drop (kk + 1)) (out ++ [z]) = (r1, r2));clear hneg;go_wp2_with (first | (go_at_call 52; refine HCC.out.mono ?_; rintro e w' ⟨rfl, hb⟩; have HR3 := Aside0.mk (Kd.R_below HR2.out hb); have HX2 := Aside0.mk (blk_below HX1.out hb); have HZ2 := Aside0.mk (Nat.le_trans HZ1.out (below_size hb)); have HB2 := Aside0.mk (below_then HB1.out HZ1.out hb); clear hb) | (at_builtin; refine Kd.R_append (Kd.int .i64) (w0 := w) w.heap.size rfl (.tmp 22) (.tmp 24) 23 3 (.int .i64 0) 8 rfl Try.underlying23 info3 rfl (by decide) (by omega) _ out z [.int .i64 z] (fun _ => True) (fun _ => False) rfl rfl rfl (fun _ hk => hk.elim) (fun _ _ => trivial) HR3.out HB2.out HZ2.out (by have h1 := HO.out; have h2 := HLN.out; have h3 := HN.out; omega) ?_; intro v1 w1 ho hb hg hat; have HR4 := Aside0.mk ho; have HB3 := Aside0.mk hb; have HX3 := Aside0.mk (blk_grown HX2.out hg (Kd.R_ne HR3.out HX2.out (by decide))); have HZ3 := Aside0.mk (Nat.le_trans HZ2.out hg.size); clear ho hb hg hat))
     go_roundg (n - (kk + 1))
     case measure => have := HG.out; omega
     case rel => exact ⟨kk + 1, out ++ [z], by go_num, by omega, ⟨Nat.le_refl _⟩, ⟨by have := HO.out; simp; omega⟩, ⟨HR4.out⟩, ⟨HX3.out⟩, ⟨HB3.out⟩, ⟨HZ3.out⟩, HI4⟩
   ·have hltz : ¬ (kk : Int) < (n : Int) := by omega
    have hkn : kk = n := by omega
    have HI4 := Aside0.mk (by have := HI.out; rw [List.drop_eq_nil_of_le (by have := HN.out; omega)] at this; unfold placeL at this; exact this : (out, (0 : Int)) = (r1, r2));subst hkn;go_wp2
    go_ret2
    have e1 := congrArg Prod.fst HI4.out;have e2 := congrArg Prod.snd HI4.out;dsimp only at e1 e2
    subst e1 e2;exact ⟨_, rfl, HR.out, HB.out⟩
 ·cases h
end Go.Proofs.Ytpmfdggbccbfaaa.Pr
namespace Go.Proofs.Ytpmfdggbccbfaaa.Pr
open Go.RowKit Go.Proofs.YtpmfdggbccbfaaaW.PrintWords Go.Proofs.YtpmfdggbccbfaaaW.PrintLast Go.Proofs.YtpmfdggbccbfaaaW.PrintMore
attribute [local go_sem] max2_int min2_int max_two min_two max_three min_three max_four min_four
set_option linter.unusedVariables false
set_option linter.unusedSimpArgs false
/-! ### tuple_Meet: function 55 -/
def tuple_Meet.f (l0 : List Int) (l1 : List Int) : Option (List Int) := (tuple_merge.f l0 l1 false true false).bind fun t400 => (some t400)
set_option maxHeartbeats 8000000 in
set_option maxRecDepth 100000 in
theorem tuple_Meet.calls (A0 : Option Addr) (c0 : Nat) (l0 : List Int) (A1 : Option Addr) (c1 : Nat) (l1 : List Int) (r : List Int) (w : World) (hr0 : Kd.C (Kd.int .i64) w A0 l0.length l0) (hc0 : l0.length ≤ c0) (hr1 : Kd.C (Kd.int .i64) w A1 l1.length l1) (hc1 : l1.length ≤ c1) (h : tuple_Meet.f l0 l1 = some r) :
  Calls Try.prog 55 #[.slice A0 l0.length c0, .slice A1 l1.length c1] w fun e w' => ∃ v0_ : Value, e = .returned (v0_) ∧ Kd.R (Kd.int .i64) 3 w' w.heap.size (fun _ => True) v0_ r ∧ Below w.heap.size w w' := by
 have HR0 := Aside0.mk hr0;have HC0 := Aside0.mk hc0;clear hr0 hc0;have HR1 := Aside0.mk hr1;have HC1 := Aside0.mk hc1;clear hr1 hc1;have HB := Aside0.mk (Below.refl w.heap.size w);have H : ((tuple_merge.f l0 l1 false true false).bind fun t400 => (some t400)) = some r := h;clear h;replace H := Option.bind_eq_some_iff.mp H;obtain ⟨t400, A30, H⟩ := H;replace H : (some t400) = some r := H;have A3 := Aside0.mk A30;clear A30;obtain rfl := Option.some.inj H;go_enter Try.func55, Try.ntmps55
 go_wp2_with (first | ((with_reducible refine gate_callee (f := 70) rfl ?_); refine goesL_ (some 7) rfl rfl Try.func70 (by kernel_rfl) rfl #[.slice A0 l0.length c0, .slice A1 l1.length c1, .bool false, .bool true, .bool false] rfl qM ?_; (with_reducible refine (tuple_merge.calls _ _ l0 _ _ l1 false true false t400 _ ?side1 ?side2 ?side3 ?side4 A3.out).mono ?_); (case side1 => repeat (first | exact HR0.out | (with_reducible refine Kd.C_alloc ?_ _) | (with_reducible refine Kd.C_drewN ?_ _) | (with_reducible refine Kd.C_drew ?_))); (case side2 => exact HC0.out); (case side3 => repeat (first | exact HR1.out | (with_reducible refine Kd.C_alloc ?_ _) | (with_reducible refine Kd.C_drewN ?_ _) | (with_reducible refine Kd.C_drew ?_))); (case side4 => exact HC1.out); rintro e w4 ⟨v401, rfl, ho0, hb⟩; refine ⟨_, rfl, ?_⟩; have n0_ := Aside0.mk (Kd.R_lower ho0 (below_size (qB HB.out))); have n1_ := Aside0.mk (below_step (qB HB.out) hb); clear HB; have HO402 := n0_; have HB := n1_; clear n0_ n1_; (try clear hb); (try clear hb2); (try clear hk); (try clear hi); (try clear ho0)))
 go_ret
 exact ⟨_, by first | rfl | (simp [errW_none, errW_some] <;> rfl) | (simp [*, errW_none, errW_some] <;> rfl), by (with_reducible repeat (first | apply Kd.R_alloc | apply Kd.R_drewN | apply Kd.R_drew)); exact HO402.out, by repeat (first | (with_reducible first | exact HB.out | apply below_alloc | apply pw_below_drewN | apply below_drew1) | exact HB.out)⟩
end Go.Proofs.Ytpmfdggbccbfaaa.Pr
