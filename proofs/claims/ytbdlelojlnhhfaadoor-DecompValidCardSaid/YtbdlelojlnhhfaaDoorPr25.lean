-- Printed by wip/tools/pp.py over the kit's print.py, several texts in one (wip/tools/mergepr.py); Lean checks it.
import Derived.Test.YtbdlelojlnhhfaaDoorPr0
import Derived.Test.YtbdlelojlnhhfaaDoorPr1
import Derived.Test.YtbdlelojlnhhfaaDoorPr22
namespace Go.Proofs.YtbdlelojlnhhfaaDoor.Pr
open Go.RowKit Go.Proofs.YtbdlelojlnhhfaaDoorW.PrintWords Go.Proofs.YtbdlelojlnhhfaaDoorW.PrintLast Go.Proofs.YtbdlelojlnhhfaaDoorW.PrintMore
attribute [local go_sem] max2_int min2_int max_two min_two max_three min_three max_four min_four
set_option linter.unusedVariables false
set_option linter.unusedSimpArgs false
/-! ### tuple_merge: function 46 -/
def keepL (is : Bool) (n : Int) (l : List Int) : List Int := if is = true then n :: l else l
def mergeIn (f1 f2 f3 : Bool) (a : Int) (rest : List Int → List Int) : List Int → List Int
 | [] => keepL f1 a (rest [])
 | b :: m => if a < b then keepL f1 a (rest (b :: m)) else if b < a then keepL f3 b (mergeIn f1 f2 f3 a rest m) else keepL f2 a (rest m)
def mergeL (f1 f2 f3 : Bool) : List Int → List Int → List Int
 | [] => fun bs => if f3 = true then bs else []
 | a :: l => mergeIn f1 f2 f3 a (mergeL f1 f2 f3 l)
theorem mergeL_nn (f1 f2 f3 : Bool) : mergeL f1 f2 f3 [] [] = [] := by cases f3 <;> rfl
theorem mergeL_cn (f1 f2 f3 : Bool) (a : Int) (l : List Int) : mergeL f1 f2 f3 (a :: l) [] = keepL f1 a (mergeL f1 f2 f3 l []) := rfl
theorem mergeL_nc (f1 f2 f3 : Bool) (b : Int) (m : List Int) : mergeL f1 f2 f3 [] (b :: m) = keepL f3 b (mergeL f1 f2 f3 [] m) := by cases f3 <;> rfl
theorem mergeL_cc (f1 f2 f3 : Bool) (a b : Int) (l m : List Int) : mergeL f1 f2 f3 (a :: l) (b :: m) = if a < b then keepL f1 a (mergeL f1 f2 f3 l (b :: m)) else if b < a then keepL f3 b (mergeL f1 f2 f3 (a :: l) m) else keepL f2 a (mergeL f1 f2 f3 l m) := rfl
def tuple_merge.f (l0 l1 : List Int) (a2 a3 a4 : Bool) : Option (List Int) := if l0.length + l1.length < 17592186044416 then some (mergeL a2 a3 a4 l0 l1) else none
theorem keep_no (n : Int) (B : Nat) (w : World) : Calls Tryd.prog 59 #[.bool false, .int .i64 n, .pointer (some ⟨B, 0, none⟩)] w fun e w' => e = .returned (.tuple #[]) ∧ w = w' := by
 go_enter Tryd.func59, Tryd.ntmps59
 go_wp2
 go_end0
 exact ⟨rfl, rfl⟩
theorem keep_yes (n : Int) (B base : Nat) (w0 w : World) (v : Value) (xs : List Int) (hbox : w.heap[B]? = some (.cells #[v] 23 (0, 0))) (hR : Kd.R (Kd.int .i64) 3 w base (fun _ => True) v xs) (hB : Below base w0 w) (hle : base ≤ w.heap.size) (hBB : base ≤ B) (hlen : xs.length < 17592186044416) :
  Calls Tryd.prog 59 #[.bool true, .int .i64 n, .pointer (some ⟨B, 0, none⟩)] w fun e w' => e = .returned (.tuple #[]) ∧ ∃ v', w'.heap[B]? = some (.cells #[v'] 23 (0, 0)) ∧ Kd.R (Kd.int .i64) 3 w' base (fun _ => True) v' (xs ++ [n]) ∧ Below base w0 w' ∧ base ≤ w'.heap.size := by
 have HX := Aside0.mk hbox;have HR := Aside0.mk hR;have HB := Aside0.mk hB;have HL := Aside0.mk hle;have HBB := Aside0.mk hBB;have hc0 : w.cell? ⟨B, 0, none⟩ = some v := (blk_cell hbox 0).trans rfl;have hf0 := blk_frozen hbox 0;clear hbox hR hB hle hBB;go_enter Tryd.func59, Tryd.ntmps59
 go_wp2_with (first | (at_builtin; refine Kd.R_append (Kd.int .i64) (w0 := w0) base rfl (.tmp 6) (.tmp 8) 23 3 (.int .i64 0) 8 rfl Tryd.underlying23 info3 rfl (by decide) (by omega) v xs n [.int .i64 n] (fun _ => True) (fun _ => False) rfl rfl rfl (fun _ hk => hk.elim) (fun _ _ => trivial) HR.out HB.out HL.out (by omega) ?_; intro v1 w1 ho hb hg hat; have HO := Aside0.mk ho; have HB1 := Aside0.mk hb; have HX1 := Aside0.mk (blk_grown HX.out hg (Kd.R_ne HR.out HX.out (by decide))); have HL1 := Aside0.mk (Nat.le_trans HL.out hg.size); clear ho hb hg hat; obtain ⟨A1, c1, hv1⟩ := Kd.R_slice HO.out; subst hv1; simp only [List.length_append, List.length_cons, List.length_nil, Nat.zero_add] at HO; have hc1 : w1.cell? ⟨B, 0, none⟩ = some v := (blk_cell HX1.out 0).trans rfl; have hf1 := blk_frozen HX1.out 0))
 go_end0
 exact ⟨rfl, _, blk_put HX1.out 0 _ rfl, Kd.R_set HO.out HX1.out (by decide) _ _, HB1.out.setCell HBB.out _, by simpa using HL1.out⟩
theorem head_facts (W : World) (A : Option Addr) (c : Nat) (a : Int) (l : List Int) (h : (Kd.int .i64).C W A (l.length + 1) (a :: l)) (hc : l.length + 1 ≤ c) :
  ∃ (ad : Addr) (A' : Option Addr), A = some ad ∧ (∀ W', Below W.heap.size W W' → W'.cell? ad = some (.int .i64 a)) ∧ (∀ W' : World, (Instr.slice 23 (.slice (some ad) (l.length + 1) c) (some (.int .i64 1)) none none).run Tryd.prog W' = .ok (.slice A' l.length (c - 1)) W') ∧
   (Kd.int .i64).C W A' l.length l ∧ l.length ≤ c - 1 := by
 obtain ⟨i0, hi, hii⟩ := Option.map_eq_some_iff.1 info3;obtain ⟨ad, e, hcell⟩ := Kd.at_int h 0 (by omega) (by omega);subst e;obtain ⟨A', h1, h2, h3⟩ := print_drop_of (P := Tryd.prog) (Value.int .i64) (0 : Int) 23 3 .i64 Tryd.underlying23 hi (by simp at hii; exact hii.2.1) (some ad) c (a :: l) 1 (by omega) (by simp; omega) (by simpa using hc);refine ⟨ad, A', rfl, fun W' hb => ?_, ?_, ?_, ?_⟩
 ·have := pw_cell_below hb hcell;simpa [rd, Addr.add] using this
 ·simpa using h1
 ·have := h2 W (Kd.reads_of_C (d := (0 : Int)) h);exact Kd.C_of_reads (d := (0 : Int)) (h1 := fun _ => rfl) (by simpa using this)
 ·simpa using h3
theorem mergeL_len (f1 f2 f3 : Bool) : ∀ n a b, a.length + b.length = n → (mergeL f1 f2 f3 a b).length ≤ a.length + b.length := by
 intro n
 induction n using Nat.strongRecOn with
 | _ n ih =>
  intro a b h
  have hk : ∀ is x (l : List Int) , (keepL is x l).length ≤ l.length + 1 := by
   intro is x l; unfold keepL; split <;> simp
  match a, b with
  | [], [] => simp [mergeL_nn]
  | x :: l, [] =>
   rw [mergeL_cn]
   have := ih (l.length) (by simp at h; omega) l [] (by simp);have := hk f1 x (mergeL f1 f2 f3 l []);simp at *; omega
  | [], y :: m =>
   rw [mergeL_nc]
   have := ih (m.length) (by simp at h; omega) [] m (by simp);have := hk f3 y (mergeL f1 f2 f3 [] m);simp at *; omega
  | x :: l, y :: m =>
   rw [mergeL_cc]
   have h1 := ih (l.length + (m.length + 1)) (by simp at h; omega) l (y :: m) (by simp);have h2 := ih (l.length + 1 + m.length) (by simp at h; omega) (x :: l) m (by simp);have h3 := ih (l.length + m.length) (by simp at h; omega) l m rfl;have k1 := hk f1 x (mergeL f1 f2 f3 l (y :: m));have k2 := hk f3 y (mergeL f1 f2 f3 (x :: l) m);have k3 := hk f2 x (mergeL f1 f2 f3 l m);split
   ·simp at *; omega
   ·split <;> (simp at *; omega)
set_option maxHeartbeats 8000000 in
theorem tuple_merge.calls (A0 : Option Addr) (c0 : Nat) (l0 : List Int) (A1 : Option Addr) (c1 : Nat) (l1 : List Int) (a2 a3 a4 : Bool) (r : List Int) (w : World) (hr0 : Kd.C (Kd.int .i64) w A0 l0.length l0) (hc0 : l0.length ≤ c0) (hr1 : Kd.C (Kd.int .i64) w A1 l1.length l1) (hc1 : l1.length ≤ c1) (h : tuple_merge.f l0 l1 a2 a3 a4 = some r) :
  Calls Tryd.prog 46 #[.slice A0 l0.length c0, .slice A1 l1.length c1, .bool a2, .bool a3, .bool a4] w fun e w' => ∃ v0_ : Value, e = .returned (v0_) ∧ Kd.R (Kd.int .i64) 3 w' w.heap.size (fun _ => True) v0_ r ∧ Below w.heap.size w w' := by
 unfold tuple_merge.f at h
 by_cases hl : l0.length + l1.length < 17592186044416
 ·rw [if_pos hl] at h
  have Hr := Aside0.mk (Option.some.inj h);have HR0 := Aside0.mk hr0;have HR1 := Aside0.mk hr1;have HC0 := Aside0.mk hc0;have HC1 := Aside0.mk hc1;have HLL := Aside0.mk hl;clear hr0 h hr1 hc0 hc1 hl;go_enter Tryd.func46, Tryd.ntmps46
  go_wp2
  go_loopg [0, 1] (l0.length + l1.length) (fun kq va vb w' => ∃ (la lb : List Int) (A B : Option Addr) (ca cb : Nat) (v : Value) (xs : List Int), va = .slice A la.length ca ∧ vb = .slice B lb.length cb ∧ Aside0 ((Kd.int .i64).C w A la.length la) ∧ Aside0 (la.length ≤ ca) ∧ Aside0 ((Kd.int .i64).C w B lb.length lb) ∧ Aside0 (lb.length ≤ cb) ∧ Aside0 (w'.heap[w.heap.size]? = some (.cells #[v] 23 (0, 0))) ∧ Aside0 ((Kd.int .i64).R 3 w' w.heap.size (fun _ => True) v xs) ∧ Aside0 (Below w.heap.size w w') ∧ Aside0 (w.heap.size ≤ w'.heap.size) ∧ Aside0 (xs ++ mergeL a2 a3 a4 la lb = r) ∧ Aside0 (kq = la.length + lb.length) ∧ Aside0 (xs.length + kq ≤ l0.length + l1.length))
  case atStart => exact ⟨l0, l1, A0, A1, c0, c1, .slice none 0 0, [], rfl, rfl, HR0, HC0, HR1, HC1, ⟨blk_new _ _⟩, ⟨Kd.R_nil _ _ _ _ _⟩, ⟨below_alloc (Below.refl _ _) _⟩, ⟨by simp⟩, ⟨by rw [List.nil_append]; exact Hr.out⟩, ⟨rfl⟩, ⟨by simp⟩⟩
  case round =>
   obtain ⟨la, lb, A, B, ca, cb, v, xs, rfl, rfl, HA, HCA, HBB, HCB, HX, HO, HW, HZ, HE, HK, HM⟩ := hrel;match la, lb with
   | [], [] =>
    have e : xs = r := by have := HE.out; simpa [mergeL_nn] using this
    subst e;have hc1 : wr.cell? ⟨w.heap.size, 0, none⟩ = some v := (blk_cell HX.out 0).trans rfl;have hf1 := blk_frozen HX.out 0;obtain ⟨Av, cv, hv1⟩ := Kd.R_slice HO.out;subst hv1;go_wp2
    have hc2 := (blk_cell (blk_put HX.out 0 (.slice Av xs.length cv) rfl) 0).trans rfl;refine bodyPost_ret (v := .slice Av xs.length cv) ?_ rfl ⟨_, rfl, Kd.R_set HO.out HX.out (by decide) _ _, HW.out.setCell (Nat.le_refl _) _⟩;simp only [results, show Tryd.f46.results = #[.cell 10 23] from rfl]
    go_simp
   | a :: l, [] =>
    obtain ⟨ad, A', rfl, h1, h2, h3, h4⟩ := head_facts w A ca a l (by simpa using HA.out) (by simpa using HCA.out);have H1 := Aside0.mk h1;have H3 := Aside0.mk h3;have H4 := Aside0.mk h4;have ha0 := H1.out wr HW.out;clear h1 h3 h4;cases a2 with
    | false =>
     have HE2 := Aside0.mk (by have := HE.out; (first | rw [mergeL_cc] at this | rw [mergeL_cn] at this | rw [mergeL_nc] at this); skip; simpa [keepL] using this : xs ++ mergeL false a3 a4 l [] = r);have HM2 := Aside0.mk (by have h1 := HM.out; have h2 := HK.out; have h3 := HLL.out; simp at h2 ⊢; omega : xs.length + 1 ≤ l0.length + l1.length ∧ xs.length < 17592186044416);go_wp2
     go_quiet (fail)
     go_wp2_with (go_at_call 59; refine (keep_no a w.heap.size _).mono ?_; rintro e w1 ⟨rfl, rfl⟩)
     go_roundg ((l : List Int).length + ([] : List Int).length)
     case measure => have := HK.out; simp at this ⊢; omega
     case rel => exact ⟨l, [], A', B, (ca - 1), cb, v, xs, by first | rfl | (simp; done), by first | rfl | (simp; done), ⟨by simpa using H3.out⟩, ⟨by simpa using H4.out⟩, HBB, HCB, ⟨(by (with_reducible repeat (first | refine blk_drewN ?_ _ | refine blk_drew ?_)); exact HX.out)⟩, ⟨(by (with_reducible repeat (first | apply Kd.R_drewN | apply Kd.R_drew)); exact HO.out)⟩, ⟨(by repeat (first | (with_reducible first | exact HW.out | apply pw_below_drewN | apply below_drew1) | exact HW.out))⟩, ⟨by simpa using HZ.out⟩, HE2, ⟨by first | rfl | (simp; done)⟩, ⟨by have h1 := HM.out; have h2 := HK.out; simp at h2 ⊢; omega⟩⟩
    | true =>
     have HE2 := Aside0.mk (by have := HE.out; (first | rw [mergeL_cc] at this | rw [mergeL_cn] at this | rw [mergeL_nc] at this); skip; simpa [keepL] using this : (xs ++ [a]) ++ mergeL true a3 a4 l [] = r);have HM2 := Aside0.mk (by have h1 := HM.out; have h2 := HK.out; have h3 := HLL.out; simp at h2 ⊢; omega : xs.length + 1 ≤ l0.length + l1.length ∧ xs.length < 17592186044416);go_wp2
     go_quiet (fail)
     go_wp2_with (go_at_call 59; refine (keep_yes a w.heap.size w.heap.size w _ v xs (by (with_reducible repeat (first | refine blk_drewN ?_ _ | refine blk_drew ?_)); exact HX.out) (by (with_reducible repeat (first | apply Kd.R_drewN | apply Kd.R_drew)); exact HO.out) (by repeat (first | (with_reducible first | exact HW.out | apply pw_below_drewN | apply below_drew1) | exact HW.out)) (by simpa using HZ.out) (Nat.le_refl _) HM2.out.2).mono ?_; rintro e w1 ⟨rfl, v1, hx1, ho1, hb1, hz1⟩; have HX1 := Aside0.mk hx1; have HO1 := Aside0.mk ho1; have HB1 := Aside0.mk hb1; have HZ1 := Aside0.mk hz1; clear hx1 ho1 hb1 hz1)
     go_roundg ((l : List Int).length + ([] : List Int).length)
     case measure => have := HK.out; simp at this ⊢; omega
     case rel => exact ⟨l, [], A', B, (ca - 1), cb, v1, (xs ++ [a]), by first | rfl | (simp; done), by first | rfl | (simp; done), ⟨by simpa using H3.out⟩, ⟨by simpa using H4.out⟩, HBB, HCB, ⟨(by (with_reducible repeat (first | refine blk_drewN ?_ _ | refine blk_drew ?_)); exact HX1.out)⟩, ⟨(by (with_reducible repeat (first | apply Kd.R_drewN | apply Kd.R_drew)); exact HO1.out)⟩, ⟨(by repeat (first | (with_reducible first | exact HB1.out | apply pw_below_drewN | apply below_drew1) | exact HB1.out))⟩, ⟨by simpa using HZ1.out⟩, HE2, ⟨by first | rfl | (simp; done)⟩, ⟨by have h1 := HM.out; have h2 := HK.out; simp at h2 ⊢; omega⟩⟩
   | [], b :: m =>
    obtain ⟨bd, B', rfl, k1, k2, k3, k4⟩ := head_facts w B cb b m (by simpa using HBB.out) (by simpa using HCB.out);have K1 := Aside0.mk k1;have K3 := Aside0.mk k3;have K4 := Aside0.mk k4;have hb0 := K1.out wr HW.out;clear k1 k3 k4;have hm0 : (((m.length : Int) + 1) == 0) = false := by simp; omega
    cases a4 with
    | false =>
     have HE2 := Aside0.mk (by have := HE.out; (first | rw [mergeL_cc] at this | rw [mergeL_cn] at this | rw [mergeL_nc] at this); skip; simpa [keepL] using this : xs ++ mergeL a2 a3 false [] m = r);have HM2 := Aside0.mk (by have h1 := HM.out; have h2 := HK.out; have h3 := HLL.out; simp at h2 ⊢; omega : xs.length + 1 ≤ l0.length + l1.length ∧ xs.length < 17592186044416);go_wp2
     go_quiet (fail)
     go_wp2
     go_quiet (fail)
     go_wp2_with (go_at_call 59; refine (keep_no b w.heap.size _).mono ?_; rintro e w1 ⟨rfl, rfl⟩)
     go_roundg (([] : List Int).length + (m : List Int).length)
     case measure => have := HK.out; simp at this ⊢; omega
     case rel => exact ⟨[], m, A, B', ca, (cb - 1), v, xs, by first | rfl | (simp; done), by first | rfl | (simp; done), HA, HCA, ⟨by simpa using K3.out⟩, ⟨by simpa using K4.out⟩, ⟨(by (with_reducible repeat (first | refine blk_drewN ?_ _ | refine blk_drew ?_)); exact HX.out)⟩, ⟨(by (with_reducible repeat (first | apply Kd.R_drewN | apply Kd.R_drew)); exact HO.out)⟩, ⟨(by repeat (first | (with_reducible first | exact HW.out | apply pw_below_drewN | apply below_drew1) | exact HW.out))⟩, ⟨by simpa using HZ.out⟩, HE2, ⟨by first | rfl | (simp; done)⟩, ⟨by have h1 := HM.out; have h2 := HK.out; simp at h2 ⊢; omega⟩⟩
    | true =>
     have HE2 := Aside0.mk (by have := HE.out; (first | rw [mergeL_cc] at this | rw [mergeL_cn] at this | rw [mergeL_nc] at this); skip; simpa [keepL] using this : (xs ++ [b]) ++ mergeL a2 a3 true [] m = r);have HM2 := Aside0.mk (by have h1 := HM.out; have h2 := HK.out; have h3 := HLL.out; simp at h2 ⊢; omega : xs.length + 1 ≤ l0.length + l1.length ∧ xs.length < 17592186044416);go_wp2
     go_quiet (fail)
     go_wp2
     go_quiet (fail)
     go_wp2_with (go_at_call 59; refine (keep_yes b w.heap.size w.heap.size w _ v xs (by (with_reducible repeat (first | refine blk_drewN ?_ _ | refine blk_drew ?_)); exact HX.out) (by (with_reducible repeat (first | apply Kd.R_drewN | apply Kd.R_drew)); exact HO.out) (by repeat (first | (with_reducible first | exact HW.out | apply pw_below_drewN | apply below_drew1) | exact HW.out)) (by simpa using HZ.out) (Nat.le_refl _) HM2.out.2).mono ?_; rintro e w1 ⟨rfl, v1, hx1, ho1, hb1, hz1⟩; have HX1 := Aside0.mk hx1; have HO1 := Aside0.mk ho1; have HB1 := Aside0.mk hb1; have HZ1 := Aside0.mk hz1; clear hx1 ho1 hb1 hz1)
     go_roundg (([] : List Int).length + (m : List Int).length)
     case measure => have := HK.out; simp at this ⊢; omega
     case rel => exact ⟨[], m, A, B', ca, (cb - 1), v1, (xs ++ [b]), by first | rfl | (simp; done), by first | rfl | (simp; done), HA, HCA, ⟨by simpa using K3.out⟩, ⟨by simpa using K4.out⟩, ⟨(by (with_reducible repeat (first | refine blk_drewN ?_ _ | refine blk_drew ?_)); exact HX1.out)⟩, ⟨(by (with_reducible repeat (first | apply Kd.R_drewN | apply Kd.R_drew)); exact HO1.out)⟩, ⟨(by repeat (first | (with_reducible first | exact HB1.out | apply pw_below_drewN | apply below_drew1) | exact HB1.out))⟩, ⟨by simpa using HZ1.out⟩, HE2, ⟨by first | rfl | (simp; done)⟩, ⟨by have h1 := HM.out; have h2 := HK.out; simp at h2 ⊢; omega⟩⟩
   | a :: l, b :: m =>
    obtain ⟨ad, A', rfl, h1, h2, h3, h4⟩ := head_facts w A ca a l (by simpa using HA.out) (by simpa using HCA.out);have H1 := Aside0.mk h1;have H3 := Aside0.mk h3;have H4 := Aside0.mk h4;have ha0 := H1.out wr HW.out;clear h1 h3 h4;obtain ⟨bd, B', rfl, k1, k2, k3, k4⟩ := head_facts w B cb b m (by simpa using HBB.out) (by simpa using HCB.out);have K1 := Aside0.mk k1;have K3 := Aside0.mk k3;have K4 := Aside0.mk k4;have hb0 := K1.out wr HW.out;clear k1 k3 k4;have hm0 : (((m.length : Int) + 1) == 0) = false := by simp; omega
    have hl0 : (((l.length : Int) + 1) == 0) = false := by simp; omega
    by_cases hlt : a < b
    ·have hd : decide (a < b) = true := decide_eq_true hlt;cases a2 with
     | false =>
      have HE2 := Aside0.mk (by have := HE.out; (first | rw [mergeL_cc] at this | rw [mergeL_cn] at this | rw [mergeL_nc] at this); rw [if_pos hlt] at this; simpa [keepL] using this : xs ++ mergeL false a3 a4 l (b :: m) = r);have HM2 := Aside0.mk (by have h1 := HM.out; have h2 := HK.out; have h3 := HLL.out; simp at h2 ⊢; omega : xs.length + 1 ≤ l0.length + l1.length ∧ xs.length < 17592186044416);go_wp2
      go_quiet (fail)
      go_wp2_with (go_at_call 59; refine (keep_no a w.heap.size _).mono ?_; rintro e w1 ⟨rfl, rfl⟩)
      go_roundg ((l : List Int).length + ((b :: m) : List Int).length)
      case measure => have := HK.out; simp at this ⊢; omega
      case rel => exact ⟨l, (b :: m), A', (some bd), (ca - 1), cb, v, xs, by first | rfl | (simp; done), by first | rfl | (simp; done), ⟨by simpa using H3.out⟩, ⟨by simpa using H4.out⟩, HBB, HCB, ⟨(by (with_reducible repeat (first | refine blk_drewN ?_ _ | refine blk_drew ?_)); exact HX.out)⟩, ⟨(by (with_reducible repeat (first | apply Kd.R_drewN | apply Kd.R_drew)); exact HO.out)⟩, ⟨(by repeat (first | (with_reducible first | exact HW.out | apply pw_below_drewN | apply below_drew1) | exact HW.out))⟩, ⟨by simpa using HZ.out⟩, HE2, ⟨by first | rfl | (simp; done)⟩, ⟨by have h1 := HM.out; have h2 := HK.out; simp at h2 ⊢; omega⟩⟩
     | true =>
      have HE2 := Aside0.mk (by have := HE.out; (first | rw [mergeL_cc] at this | rw [mergeL_cn] at this | rw [mergeL_nc] at this); rw [if_pos hlt] at this; simpa [keepL] using this : (xs ++ [a]) ++ mergeL true a3 a4 l (b :: m) = r);have HM2 := Aside0.mk (by have h1 := HM.out; have h2 := HK.out; have h3 := HLL.out; simp at h2 ⊢; omega : xs.length + 1 ≤ l0.length + l1.length ∧ xs.length < 17592186044416);go_wp2
      go_quiet (fail)
      go_wp2_with (go_at_call 59; refine (keep_yes a w.heap.size w.heap.size w _ v xs (by (with_reducible repeat (first | refine blk_drewN ?_ _ | refine blk_drew ?_)); exact HX.out) (by (with_reducible repeat (first | apply Kd.R_drewN | apply Kd.R_drew)); exact HO.out) (by repeat (first | (with_reducible first | exact HW.out | apply pw_below_drewN | apply below_drew1) | exact HW.out)) (by simpa using HZ.out) (Nat.le_refl _) HM2.out.2).mono ?_; rintro e w1 ⟨rfl, v1, hx1, ho1, hb1, hz1⟩; have HX1 := Aside0.mk hx1; have HO1 := Aside0.mk ho1; have HB1 := Aside0.mk hb1; have HZ1 := Aside0.mk hz1; clear hx1 ho1 hb1 hz1)
      go_roundg ((l : List Int).length + ((b :: m) : List Int).length)
      case measure => have := HK.out; simp at this ⊢; omega
      case rel => exact ⟨l, (b :: m), A', (some bd), (ca - 1), cb, v1, (xs ++ [a]), by first | rfl | (simp; done), by first | rfl | (simp; done), ⟨by simpa using H3.out⟩, ⟨by simpa using H4.out⟩, HBB, HCB, ⟨(by (with_reducible repeat (first | refine blk_drewN ?_ _ | refine blk_drew ?_)); exact HX1.out)⟩, ⟨(by (with_reducible repeat (first | apply Kd.R_drewN | apply Kd.R_drew)); exact HO1.out)⟩, ⟨(by repeat (first | (with_reducible first | exact HB1.out | apply pw_below_drewN | apply below_drew1) | exact HB1.out))⟩, ⟨by simpa using HZ1.out⟩, HE2, ⟨by first | rfl | (simp; done)⟩, ⟨by have h1 := HM.out; have h2 := HK.out; simp at h2 ⊢; omega⟩⟩
    ·have hd : decide (a < b) = false := decide_eq_false hlt;by_cases hgt : b < a
     ·have hd2 : decide (b < a) = true := decide_eq_true hgt;cases a4 with
      | false =>
       have HE2 := Aside0.mk (by have := HE.out; (first | rw [mergeL_cc] at this | rw [mergeL_cn] at this | rw [mergeL_nc] at this); rw [if_neg hlt, if_pos hgt] at this; simpa [keepL] using this : xs ++ mergeL a2 a3 false (a :: l) m = r);have HM2 := Aside0.mk (by have h1 := HM.out; have h2 := HK.out; have h3 := HLL.out; simp at h2 ⊢; omega : xs.length + 1 ≤ l0.length + l1.length ∧ xs.length < 17592186044416);go_wp2
       go_quiet (fail)
       go_wp2
       go_quiet (fail)
       go_wp2_with (go_at_call 59; refine (keep_no b w.heap.size _).mono ?_; rintro e w1 ⟨rfl, rfl⟩)
       go_roundg (((a :: l) : List Int).length + (m : List Int).length)
       case measure => have := HK.out; simp at this ⊢; omega
       case rel => exact ⟨(a :: l), m, (some ad), B', ca, (cb - 1), v, xs, by first | rfl | (simp; done), by first | rfl | (simp; done), HA, HCA, ⟨by simpa using K3.out⟩, ⟨by simpa using K4.out⟩, ⟨(by (with_reducible repeat (first | refine blk_drewN ?_ _ | refine blk_drew ?_)); exact HX.out)⟩, ⟨(by (with_reducible repeat (first | apply Kd.R_drewN | apply Kd.R_drew)); exact HO.out)⟩, ⟨(by repeat (first | (with_reducible first | exact HW.out | apply pw_below_drewN | apply below_drew1) | exact HW.out))⟩, ⟨by simpa using HZ.out⟩, HE2, ⟨by first | rfl | (simp; done)⟩, ⟨by have h1 := HM.out; have h2 := HK.out; simp at h2 ⊢; omega⟩⟩
      | true =>
       have HE2 := Aside0.mk (by have := HE.out; (first | rw [mergeL_cc] at this | rw [mergeL_cn] at this | rw [mergeL_nc] at this); rw [if_neg hlt, if_pos hgt] at this; simpa [keepL] using this : (xs ++ [b]) ++ mergeL a2 a3 true (a :: l) m = r);have HM2 := Aside0.mk (by have h1 := HM.out; have h2 := HK.out; have h3 := HLL.out; simp at h2 ⊢; omega : xs.length + 1 ≤ l0.length + l1.length ∧ xs.length < 17592186044416);go_wp2
       go_quiet (fail)
       go_wp2
       go_quiet (fail)
       go_wp2_with (go_at_call 59; refine (keep_yes b w.heap.size w.heap.size w _ v xs (by (with_reducible repeat (first | refine blk_drewN ?_ _ | refine blk_drew ?_)); exact HX.out) (by (with_reducible repeat (first | apply Kd.R_drewN | apply Kd.R_drew)); exact HO.out) (by repeat (first | (with_reducible first | exact HW.out | apply pw_below_drewN | apply below_drew1) | exact HW.out)) (by simpa using HZ.out) (Nat.le_refl _) HM2.out.2).mono ?_; rintro e w1 ⟨rfl, v1, hx1, ho1, hb1, hz1⟩; have HX1 := Aside0.mk hx1; have HO1 := Aside0.mk ho1; have HB1 := Aside0.mk hb1; have HZ1 := Aside0.mk hz1; clear hx1 ho1 hb1 hz1)
       go_roundg (((a :: l) : List Int).length + (m : List Int).length)
       case measure => have := HK.out; simp at this ⊢; omega
       case rel => exact ⟨(a :: l), m, (some ad), B', ca, (cb - 1), v1, (xs ++ [b]), by first | rfl | (simp; done), by first | rfl | (simp; done), HA, HCA, ⟨by simpa using K3.out⟩, ⟨by simpa using K4.out⟩, ⟨(by (with_reducible repeat (first | refine blk_drewN ?_ _ | refine blk_drew ?_)); exact HX1.out)⟩, ⟨(by (with_reducible repeat (first | apply Kd.R_drewN | apply Kd.R_drew)); exact HO1.out)⟩, ⟨(by repeat (first | (with_reducible first | exact HB1.out | apply pw_below_drewN | apply below_drew1) | exact HB1.out))⟩, ⟨by simpa using HZ1.out⟩, HE2, ⟨by first | rfl | (simp; done)⟩, ⟨by have h1 := HM.out; have h2 := HK.out; simp at h2 ⊢; omega⟩⟩
     ·have hd2 : decide (b < a) = false := decide_eq_false hgt;cases a3 with
      | false =>
       have HE2 := Aside0.mk (by have := HE.out; (first | rw [mergeL_cc] at this | rw [mergeL_cn] at this | rw [mergeL_nc] at this); rw [if_neg hlt, if_neg hgt] at this; simpa [keepL] using this : xs ++ mergeL a2 false a4 l m = r);have HM2 := Aside0.mk (by have h1 := HM.out; have h2 := HK.out; have h3 := HLL.out; simp at h2 ⊢; omega : xs.length + 1 ≤ l0.length + l1.length ∧ xs.length < 17592186044416);go_wp2
       go_quiet (fail)
       go_wp2
       go_quiet (fail)
       go_wp2_with (go_at_call 59; refine (keep_no a w.heap.size _).mono ?_; rintro e w1 ⟨rfl, rfl⟩)
       go_quiet (fail)
       go_wp2
       go_roundg ((l : List Int).length + (m : List Int).length)
       case measure => have := HK.out; simp at this ⊢; omega
       case rel => exact ⟨l, m, A', B', (ca - 1), (cb - 1), v, xs, by first | rfl | (simp; done), by first | rfl | (simp; done), ⟨by simpa using H3.out⟩, ⟨by simpa using H4.out⟩, ⟨by simpa using K3.out⟩, ⟨by simpa using K4.out⟩, ⟨(by (with_reducible repeat (first | refine blk_drewN ?_ _ | refine blk_drew ?_)); exact HX.out)⟩, ⟨(by (with_reducible repeat (first | apply Kd.R_drewN | apply Kd.R_drew)); exact HO.out)⟩, ⟨(by repeat (first | (with_reducible first | exact HW.out | apply pw_below_drewN | apply below_drew1) | exact HW.out))⟩, ⟨by simpa using HZ.out⟩, HE2, ⟨by first | rfl | (simp; done)⟩, ⟨by have h1 := HM.out; have h2 := HK.out; simp at h2 ⊢; omega⟩⟩
      | true =>
       have HE2 := Aside0.mk (by have := HE.out; (first | rw [mergeL_cc] at this | rw [mergeL_cn] at this | rw [mergeL_nc] at this); rw [if_neg hlt, if_neg hgt] at this; simpa [keepL] using this : (xs ++ [a]) ++ mergeL a2 true a4 l m = r);have HM2 := Aside0.mk (by have h1 := HM.out; have h2 := HK.out; have h3 := HLL.out; simp at h2 ⊢; omega : xs.length + 1 ≤ l0.length + l1.length ∧ xs.length < 17592186044416);go_wp2
       go_quiet (fail)
       go_wp2
       go_quiet (fail)
       go_wp2_with (go_at_call 59; refine (keep_yes a w.heap.size w.heap.size w _ v xs (by (with_reducible repeat (first | refine blk_drewN ?_ _ | refine blk_drew ?_)); exact HX.out) (by (with_reducible repeat (first | apply Kd.R_drewN | apply Kd.R_drew)); exact HO.out) (by repeat (first | (with_reducible first | exact HW.out | apply pw_below_drewN | apply below_drew1) | exact HW.out)) (by simpa using HZ.out) (Nat.le_refl _) HM2.out.2).mono ?_; rintro e w1 ⟨rfl, v1, hx1, ho1, hb1, hz1⟩; have HX1 := Aside0.mk hx1; have HO1 := Aside0.mk ho1; have HB1 := Aside0.mk hb1; have HZ1 := Aside0.mk hz1; clear hx1 ho1 hb1 hz1)
       go_quiet (fail)
       go_wp2
       go_roundg ((l : List Int).length + (m : List Int).length)
       case measure => have := HK.out; simp at this ⊢; omega
       case rel => exact ⟨l, m, A', B', (ca - 1), (cb - 1), v1, (xs ++ [a]), by first | rfl | (simp; done), by first | rfl | (simp; done), ⟨by simpa using H3.out⟩, ⟨by simpa using H4.out⟩, ⟨by simpa using K3.out⟩, ⟨by simpa using K4.out⟩, ⟨(by (with_reducible repeat (first | refine blk_drewN ?_ _ | refine blk_drew ?_)); exact HX1.out)⟩, ⟨(by (with_reducible repeat (first | apply Kd.R_drewN | apply Kd.R_drew)); exact HO1.out)⟩, ⟨(by repeat (first | (with_reducible first | exact HB1.out | apply pw_below_drewN | apply below_drew1) | exact HB1.out))⟩, ⟨by simpa using HZ1.out⟩, HE2, ⟨by first | rfl | (simp; done)⟩, ⟨by have h1 := HM.out; have h2 := HK.out; simp at h2 ⊢; omega⟩⟩
 ·rw [if_neg hl] at h
  cases h
end Go.Proofs.YtbdlelojlnhhfaaDoor.Pr
namespace Go.Proofs.YtbdlelojlnhhfaaDoor.Pr
open Go.RowKit Go.Proofs.YtbdlelojlnhhfaaDoorW.PrintWords Go.Proofs.YtbdlelojlnhhfaaDoorW.PrintLast Go.Proofs.YtbdlelojlnhhfaaDoorW.PrintMore
attribute [local go_sem] max2_int min2_int max_two min_two max_three min_three max_four min_four
set_option linter.unusedVariables false
set_option linter.unusedSimpArgs false
/-! ### tuple_Without: function 56 -/
def tuple_Without.f (l0 : List Int) (l1 : List Int) : Option (List Int) := (tuple_merge.f l0 l1 true false false).bind fun t239 => (some t239)
set_option maxHeartbeats 8000000 in
set_option maxRecDepth 100000 in
theorem tuple_Without.calls (A0 : Option Addr) (c0 : Nat) (l0 : List Int) (A1 : Option Addr) (c1 : Nat) (l1 : List Int) (r : List Int) (w : World) (hr0 : Kd.C (Kd.int .i64) w A0 l0.length l0) (hc0 : l0.length ≤ c0) (hr1 : Kd.C (Kd.int .i64) w A1 l1.length l1) (hc1 : l1.length ≤ c1) (h : tuple_Without.f l0 l1 = some r) :
  Calls Tryd.prog 56 #[.slice A0 l0.length c0, .slice A1 l1.length c1] w fun e w' => ∃ v0_ : Value, e = .returned (v0_) ∧ Kd.R (Kd.int .i64) 3 w' w.heap.size (fun _ => True) v0_ r ∧ Below w.heap.size w w' := by
 have HR0 := Aside0.mk hr0;have HC0 := Aside0.mk hc0;clear hr0 hc0;have HR1 := Aside0.mk hr1;have HC1 := Aside0.mk hc1;clear hr1 hc1;have HB := Aside0.mk (Below.refl w.heap.size w);have H : ((tuple_merge.f l0 l1 true false false).bind fun t239 => (some t239)) = some r := h;clear h;replace H := Option.bind_eq_some_iff.mp H;obtain ⟨t239, A30, H⟩ := H;replace H : (some t239) = some r := H;have A3 := Aside0.mk A30;clear A30;obtain rfl := Option.some.inj H;go_enter Tryd.func56, Tryd.ntmps56
 go_wp2_with (first | ((with_reducible refine gate_callee (f := 46) rfl ?_); refine goesL_ (some 7) rfl rfl Tryd.func46 (by kernel_rfl) rfl #[.slice A0 l0.length c0, .slice A1 l1.length c1, .bool true, .bool false, .bool false] rfl qM ?_; (with_reducible refine (tuple_merge.calls _ _ l0 _ _ l1 true false false t239 _ ?side1 ?side2 ?side3 ?side4 A3.out).mono ?_); (case side1 => repeat (first | exact HR0.out | (with_reducible refine Kd.C_alloc ?_ _) | (with_reducible refine Kd.C_drewN ?_ _) | (with_reducible refine Kd.C_drew ?_))); (case side2 => exact HC0.out); (case side3 => repeat (first | exact HR1.out | (with_reducible refine Kd.C_alloc ?_ _) | (with_reducible refine Kd.C_drewN ?_ _) | (with_reducible refine Kd.C_drew ?_))); (case side4 => exact HC1.out); rintro e w4 ⟨v240, rfl, ho0, hb⟩; refine ⟨_, rfl, ?_⟩; have n0_ := Aside0.mk (Kd.R_lower ho0 (below_size (qB HB.out))); have n1_ := Aside0.mk (below_step (qB HB.out) hb); clear HB; have HO241 := n0_; have HB := n1_; clear n0_ n1_; (try clear hb); (try clear hb2); (try clear hk); (try clear hi); (try clear ho0)))
 go_ret
 exact ⟨_, by first | rfl | (simp [errW_none, errW_some] <;> rfl) | (simp [*, errW_none, errW_some] <;> rfl), by (with_reducible repeat (first | apply Kd.R_alloc | apply Kd.R_drewN | apply Kd.R_drew)); exact HO241.out, by repeat (first | (with_reducible first | exact HB.out | apply below_alloc | apply pw_below_drewN | apply below_drew1) | exact HB.out)⟩
/-! ### tuple_Within: function 44 -/
def tuple_Within.f (l0 : List Int) (l1 : List Int) : Option (Bool) := (tuple_Without.f l0 l1).bind fun t242 => (some ((t242.length : Int) == 0))
set_option maxHeartbeats 8000000 in
set_option maxRecDepth 100000 in
theorem tuple_Within.calls (A0 : Option Addr) (c0 : Nat) (l0 : List Int) (A1 : Option Addr) (c1 : Nat) (l1 : List Int) (r : Bool) (w : World) (hr0 : Kd.C (Kd.int .i64) w A0 l0.length l0) (hc0 : l0.length ≤ c0) (hr1 : Kd.C (Kd.int .i64) w A1 l1.length l1) (hc1 : l1.length ≤ c1) (h : tuple_Within.f l0 l1 = some r) :
  Calls Tryd.prog 44 #[.slice A0 l0.length c0, .slice A1 l1.length c1] w fun e w' => e = .returned (.bool r) ∧ Below w.heap.size w w' := by
 have HR0 := Aside0.mk hr0;have HC0 := Aside0.mk hc0;clear hr0 hc0;have HR1 := Aside0.mk hr1;have HC1 := Aside0.mk hc1;clear hr1 hc1;have HB := Aside0.mk (Below.refl w.heap.size w);have H : ((tuple_Without.f l0 l1).bind fun t242 => (some ((t242.length : Int) == 0))) = some r := h;clear h;replace H := Option.bind_eq_some_iff.mp H;obtain ⟨t242, A30, H⟩ := H;(try dsimp only at H);have A3 := Aside0.mk A30;clear A30;obtain rfl := Option.some.inj H;go_enter Tryd.func44, Tryd.ntmps44
 go_wp2_with (first | ((with_reducible refine gate_callee (f := 56) rfl ?_); refine goesL_ (some 7) rfl rfl Tryd.func56 (by kernel_rfl) rfl #[.slice A0 l0.length c0, .slice A1 l1.length c1] rfl qM ?_; (with_reducible refine (tuple_Without.calls _ _ l0 _ _ l1 t242 _ ?side1 ?side2 ?side3 ?side4 A3.out).mono ?_); (case side1 => repeat (first | exact HR0.out | (with_reducible refine Kd.C_alloc ?_ _) | (with_reducible refine Kd.C_drewN ?_ _) | (with_reducible refine Kd.C_drew ?_))); (case side2 => exact HC0.out); (case side3 => repeat (first | exact HR1.out | (with_reducible refine Kd.C_alloc ?_ _) | (with_reducible refine Kd.C_drewN ?_ _) | (with_reducible refine Kd.C_drew ?_))); (case side4 => exact HC1.out); rintro e w4 ⟨v243, rfl, ho0, hb⟩; refine ⟨_, rfl, ?_⟩; have n0_ := Aside0.mk (Kd.R_lower ho0 (below_size (qB HB.out))); have n1_ := Aside0.mk (below_step (qB HB.out) hb); clear HB; have HO244 := n0_; have HB := n1_; clear n0_ n1_; (try clear hb); (try clear hb2); (try clear hk); (try clear hi); (try clear ho0); obtain ⟨Ao5, co5, eo5⟩ := Kd.R_slice HO244.out; subst eo5))
 go_ret
 exact ⟨by first | rfl | (simp [errW_none, errW_some] <;> rfl) | (simp [*, errW_none, errW_some] <;> rfl), by repeat (first | (with_reducible first | exact HB.out | apply below_alloc | apply pw_below_drewN | apply below_drew1) | exact HB.out)⟩
end Go.Proofs.YtbdlelojlnhhfaaDoor.Pr
namespace Go.Proofs.YtbdlelojlnhhfaaDoor.Pr
open Go.RowKit Go.Proofs.YtbdlelojlnhhfaaDoorW.PrintWords Go.Proofs.YtbdlelojlnhhfaaDoorW.PrintLast Go.Proofs.YtbdlelojlnhhfaaDoorW.PrintMore
attribute [local go_sem] max2_int min2_int max_two min_two max_three min_three max_four min_four
set_option linter.unusedVariables false
set_option linter.unusedSimpArgs false
/-! ### decomp_own: function 30 -/
def withinB (s b : List Int) : Bool := ((mergeL true false false s b).length : Int) == 0
theorem within_some (s b : List Int) (h : s.length + b.length < 17592186044416) : tuple_Within.f s b = some (withinB s b) := by
 simp only [tuple_Within.f, tuple_Without.f, tuple_merge.f, if_pos h, Option.bind_some, withinB]
def ownL : List (List Int) → List (List Int) → List (List Int)
 | _, [] => []
 | seen, b :: r => if seen.any (withinB b) = true then ownL (seen ++ [b]) r else b :: ownL (seen ++ [b]) r
theorem own1 (S : Nat) (As : Option Addr) (cs : Nat) (s : List Int) (hcs : s.length ≤ cs) (A : Option Addr) (c : Nat) (b : List Int) (hc : b.length ≤ c) (W : World) (hbox : W.heap[S]? = some (.cells #[.slice As s.length cs] 23 (0, 0))) (hs : (Kd.int .i64).C W As s.length s) (hr : (Kd.int .i64).C W A b.length b) (hl : s.length + b.length < 17592186044416) :
  Calls Tryd.prog 43 #[.slice A b.length c, .pointer (some ⟨S, 0, none⟩)] W fun e W' => e = .returned (.bool (withinB s b)) ∧ Below W.heap.size W W' := by
 have hcell : W.cell? ⟨S, 0, none⟩ = some (.slice As s.length cs) := (blk_cell hbox 0).trans rfl;have HC := Aside0.mk (tuple_Within.calls As cs s A c b _ W hs hcs hr hc (within_some s b hl));clear hr hc hbox hs hcs hl;obtain ⟨z, hz⟩ : ∃ z, z = withinB s b := ⟨_, rfl⟩;rw [← hz] at HC ⊢
 clear hz;go_enter Tryd.func43, Tryd.ntmps43
 go_wp2_with (go_at_call 44; refine HC.out.mono ?_; rintro e w' ⟨rfl, hb⟩; have HB2 := Aside0.mk hb; clear hb)
 go_ret
 exact ⟨rfl, HB2.out⟩
theorem own2 (S : Nat) (As : Option Addr) (cs : Nat) (s : List Int) (hcs : s.length ≤ cs) (A : Option Addr) (n c : Nat) (bags : List (List Int)) (hn : n = bags.length) (W : World) (hbox : W.heap[S]? = some (.cells #[.slice As s.length cs] 23 (0, 0))) (hs : (Kd.int .i64).C W As s.length s) (hr : (Kd.slice 3 (Kd.int .i64)).C W A bags.length bags) (hl : ∀ b ∈ bags, s.length + b.length < 17592186044416) :
  Calls Tryd.prog 42 #[.slice A n c, .func (.func 43) #[] #[.pointer (some ⟨S, 0, none⟩)]] W fun e W' => e = .returned (.bool (bags.any (withinB s))) ∧ Below W.heap.size W W' := by
 subst hn
 exact slices_ContainsFunc_int_int.callsP (Kd.slice 3 (Kd.int .i64)) rfl (withinB s) 43 #[.pointer (some ⟨S, 0, none⟩)] (enters_of Tryd.func43 (by kernel_rfl) rfl) A c bags W
  (fun x hx W' v hb' hv => by
   obtain ⟨A', c', e, hl', hC⟩ := hv;obtain rfl : v = .slice A' x.length c' := by injection e
   exact own1 S As cs s hcs A' c' x hl' W' (blk_below hbox hb') (Kd.C_below hs hb') hC (hl x hx)) hr
theorem odrop_at {α : Type} (l : List α) (i : Nat) (h : i < l.length) : l.drop i = l[i] :: l.drop (i + 1) := List.drop_eq_getElem_cons h
theorem own_grown {w W w1 : World} {row : Option Nat} (h : Below w.heap.size w W) (hg : W.grownBy w1 row) (hr : ∀ j, row = some j → w.heap.size ≤ j) : Below w.heap.size w w1 := h.grown hg h.size hr
theorem own_hat {v v1 : Value} {B W : Nat} (hW : ∀ k, v.ownBlock = some k → B ≤ k) (hat : v1.ownBlock = v.ownBlock ∨ ∃ b, v1.ownBlock = some b ∧ W ≤ b) (hBW : B ≤ W) : ∀ k, v1.ownBlock = some k → B ≤ k := fun k hk => by
 rcases hat with h | ⟨b, h, h2⟩
 ·exact hW k (h ▸ hk)
 ·rw [h] at hk
  obtain rfl : b = k := Option.some.inj hk;exact Nat.le_trans hBW h2
set_option maxHeartbeats 8000000 in
theorem own_walk (base : Nat) (A : Option Addr) (c : Nat) (xs : List (List Int)) (w : World) (hS : Kd.S (Kd.slice 3 (Kd.int .i64)) 23 w base (fun _ => True) (.slice A xs.length c) xs) (hbase : base ≤ w.heap.size) (hl : xs.length ≤ 100000) (hbl : ∀ b ∈ xs, b.length ≤ 100000) :
  Calls Tryd.prog 30 #[.slice A xs.length c] w fun e w' => ∃ v', e = .returned v' ∧ Kd.S (Kd.slice 3 (Kd.int .i64)) 23 w' base (fun _ => True) v' (ownL [] xs) ∧ Below w.heap.size w w' := by
 have HC := Aside0.mk (Kd.S_reads' hS).2.2;have hcc := (Kd.S_reads' hS).2.1;obtain ⟨f, hf⟩ := hS;have HF := Aside0.mk (Kd.R_mono (Kd.R_bound hf) (fun k hk => hk.2.2.1) : Kd.R _ 23 w base (fun k => k < w.heap.size) _ _);obtain ⟨n, hn⟩ : ∃ n, n = xs.length := ⟨_, rfl⟩;rw [← hn] at HF hcc hl ⊢
 have HN := Aside0.mk hn;have HBS := Aside0.mk hbase;have HBL := Aside0.mk hbl;clear hf hn hbase hbl;go_enter Tryd.func30, Tryd.ntmps30
 go_wp2
 go_loopg [2, 7] n (fun gg s2 s7 wr => ∃ (kk : Nat) (out : List (List Int)), s7 = .int .i64 kk ∧ kk ≤ n ∧ Aside0 (n - kk ≤ gg) ∧ Aside0 (out.length ≤ kk) ∧ Aside0 (Kd.S (Kd.slice 3 (Kd.int .i64)) 23 wr base (fun k => w.heap.size ≤ k ∨ (k < w.heap.size ∧ f k < kk)) s2 out) ∧ Aside0 (∀ k, s2.ownBlock = some k → w.heap.size ≤ k) ∧ Aside0 (Below w.heap.size w wr) ∧ Aside0 (out ++ ownL (xs.take kk) (xs.drop kk) = ownL [] xs))
 case atStart => exact ⟨0, [], rfl, Nat.zero_le _, ⟨Nat.le_refl _⟩, ⟨Nat.zero_le _⟩, ⟨Kd.S_nil _ _ _ _ _⟩, ⟨fun k hk => by simp [Value.ownBlock] at hk⟩, ⟨Below.refl _ _⟩, ⟨rfl⟩⟩
 case round =>
  obtain ⟨kk, out, rfl, hkk, HG, HO, HR, HW, HB, HI⟩ := hrel;by_cases hlt : kk < n
  ·have hltz : (kk : Int) < (n : Int) := by omega
   have hkc : (kk : Int) ≤ (c : Int) := by omega
   have hkx : kk < xs.length := by rw [← HN.out]; exact hlt
   obtain ⟨ad, rfl⟩ : ∃ ad, A = some ad := by
    obtain ⟨ad, _, _, e, _⟩ := elem_one (d := Kd.slice 3 (Kd.int .i64)) rfl HC.out HB.out kk hkx;exact ⟨ad, e⟩
   have hf2 := Kd.R_below HF.out HB.out;obtain ⟨cs0, hcl, hM, hcell0⟩ := Kd.R_getA hf2 ([], 0) (kk : Int) (by omega) hltz
   have hz : xs.zipIdx.getD (kk : Int).toNat ([], 0) = (xs[kk], kk) := by
    rw [Int.toNat_natCast, List.getD_eq_getElem?_getD, List.getElem?_zipIdx, List.getElem?_eq_getElem hkx]
    simp
   rw [hz] at hM
   obtain ⟨v, rfl, hRv⟩ := hM;have hcell := hcell0 0 v rfl;rw [Nat.add_zero, show (Kd.tag f (Kd.slice 3 (Kd.int .i64))).sz = 1 from rfl, Nat.mul_one, Int.toNat_natCast] at hcell
   obtain ⟨s, hs⟩ : ∃ s, s = xs[kk] := ⟨_, rfl⟩;rw [← hs] at hRv
   have HRV := Aside0.mk (show Kd.R (Kd.int .i64) 3 wr base (fun k => k < w.heap.size ∧ f k = kk) v s from Kd.R_mono hRv (fun k hk => ⟨hk.1.1, hk.2⟩));obtain ⟨As, cs, ev⟩ := Kd.R_slice HRV.out;subst ev;have hsm : s ∈ xs := by rw [hs]; exact List.getElem_mem hkx
   have hsl := HBL.out s hsm;have hst := (Kd.R_reads' HRV.out)
   have HI2 := Aside0.mk (show out ++ (if (xs.take kk).any (withinB s) = true then ownL (xs.take (kk + 1)) (xs.drop (kk + 1)) else s :: ownL (xs.take (kk + 1)) (xs.drop (kk + 1))) = ownL [] xs by
    have := HI.out;rw [odrop_at xs kk hkx, ← hs, ownL] at this
    rw [List.take_succ_eq_append_getElem hkx, ← hs]
    exact this)
   have HZ := Aside0.mk HB.out.size
   have HCC := Aside0.mk (own2 wr.heap.size As cs s hst.2.1 (some ad) kk c (xs.take kk) (by rw [List.length_take]; omega) (wr.alloc (.cells #[.slice As s.length cs] 23 (0, 0))) (blk_new wr _) (Kd.C_alloc hst.2.2 _) (by
    have h1 := Kd.C_alloc (Kd.C_below HC.out HB.out) (.cells #[.slice As s.length cs] 23 (0, 0));exact Kd.C_take (m := kk) h1 (by omega)) (fun b hb => by
    have := HBL.out b (List.mem_of_mem_take hb);omega))
   obtain ⟨z, hz2⟩ : ∃ z, z = (xs.take kk).any (withinB s) := ⟨_, rfl⟩;rw [← hz2] at HCC HI2
   have HB1 := Aside0.mk (below_alloc2 HB.out HZ.out (.cells #[.slice As s.length cs] 23 (0, 0)));have HR1 := Aside0.mk (Kd.S_alloc HR.out (.cells #[.slice As s.length cs] 23 (0, 0)));have HV1 := Aside0.mk (Kd.R_alloc HRV.out (.cells #[.slice As s.length cs] 23 (0, 0)));have HX1 := Aside0.mk (blk_new wr (.cells #[.slice As s.length cs] 23 (0, 0)));have HZ1 := Aside0.mk (show wr.heap.size < (wr.alloc (.cells #[.slice As s.length cs] 23 (0, 0))).heap.size by simp);clear hRv hcell0 hcl hf2 hz hst hz2 hsm hs;cases z with
   | true =>
    have HI3 := Aside0.mk (show out ++ ownL (xs.take (kk + 1)) (xs.drop (kk + 1)) = ownL [] xs by have := HI2.out; rw [if_pos rfl] at this; exact this);go_wp2_with (go_at_call 42; refine HCC.out.mono ?_; rintro e w' ⟨rfl, hb⟩; have HR2 := Aside0.mk (Kd.S_below HR1.out hb); have HB2 := Aside0.mk (below_then HB1.out (Nat.le_trans HZ.out (Nat.le_of_lt HZ1.out)) hb); clear hb)
    go_roundg (n - (kk + 1))
    case measure => have := HG.out; omega
    case rel => exact ⟨kk + 1, out, by go_num, by omega, ⟨Nat.le_refl _⟩, ⟨by have := HO.out; omega⟩, ⟨Kd.S_mono HR2.out (fun k hk => hk.imp id (fun h => ⟨h.1, by omega⟩))⟩, ⟨HW.out⟩, ⟨HB2.out⟩, HI3⟩
   | false =>
    have HI3 := Aside0.mk (show (out ++ [s]) ++ ownL (xs.take (kk + 1)) (xs.drop (kk + 1)) = ownL [] xs by have := HI2.out; rw [if_neg (by decide)] at this; rw [List.append_assoc]; exact this);go_wp2_with (first | (go_at_call 42; refine HCC.out.mono ?_; rintro e w' ⟨rfl, hb⟩; have HR2 := Aside0.mk (Kd.S_below HR1.out hb); have HV2 := Aside0.mk (Kd.R_below HV1.out hb); have HB2 := Aside0.mk (below_then HB1.out (Nat.le_trans HZ.out (Nat.le_of_lt HZ1.out)) hb); have HX2 := Aside0.mk ((hb.block _ HZ1.out).trans HX1.out); have hc2 : w'.cell? ⟨wr.heap.size, 0, none⟩ = some (.slice As s.length cs) := (blk_cell HX2.out 0).trans rfl; clear hb) | (at_builtin; refine Kd.S_append (Kd.slice 3 (Kd.int .i64)) (w0 := w') base rfl (.tmp 18) (.tmp 20) 22 23 (.slice none 0 0) 24 rfl Tryd.underlying22 info23 rfl (by decide) (by omega) _ out s [.slice As s.length cs] (fun k => w.heap.size ≤ k ∨ (k < w.heap.size ∧ f k < kk + 1)) (fun k => k < w.heap.size ∧ f k = kk) rfl rfl (Kd.M_row HV2.out) (fun k hk => ⟨.inr ⟨hk.1, by omega⟩, fun e => by have := HW.out k e.symm; omega⟩) (fun k hk => .inl (Nat.le_trans HB2.out.size hk)) (Kd.S_mono HR2.out (fun k hk => ⟨hk.imp id (fun h => ⟨h.1, by omega⟩), fun h => by omega⟩)) (Below.refl _ _) (Nat.le_trans HBS.out HB2.out.size) (by have h1 := HO.out; omega) ?_; intro v1 w1 ho hb hg hat; have HR3 := Aside0.mk ho; have HB3 := Aside0.mk (own_grown HB2.out hg (fun j hj => HW.out j hj)); have HW3 := Aside0.mk (own_hat HW.out hat HB2.out.size); clear ho hb hg hat))
    go_roundg (n - (kk + 1))
    case measure => have := HG.out; omega
    case rel => exact ⟨kk + 1, out ++ [s], by go_num, by omega, ⟨Nat.le_refl _⟩, ⟨by have := HO.out; simp; omega⟩, ⟨HR3.out⟩, ⟨HW3.out⟩, ⟨HB3.out⟩, HI3⟩
  ·have hltz : ¬ (kk : Int) < (n : Int) := by omega
   have hkn : kk = n := by omega
   have HI4 := Aside0.mk (show out = ownL [] xs by have := HI.out; rw [List.drop_eq_nil_of_le (by have := HN.out; omega), ownL, List.append_nil] at this; exact this);subst hkn;go_wp2
   go_ret
   rw [← HI4.out]
   exact ⟨_, rfl, Kd.S_mono HR.out (fun _ _ => trivial), HB.out⟩
end Go.Proofs.YtbdlelojlnhhfaaDoor.Pr
namespace Go.Proofs.YtbdlelojlnhhfaaDoor.Pr
open Go.RowKit Go.Proofs.YtbdlelojlnhhfaaDoorW.PrintWords Go.Proofs.YtbdlelojlnhhfaaDoorW.PrintLast Go.Proofs.YtbdlelojlnhhfaaDoorW.PrintMore
attribute [local go_sem] max2_int min2_int max_two min_two max_three min_three max_four min_four
set_option linter.unusedVariables false
set_option linter.unusedSimpArgs false
/-! ### bits_Mul32: function 57 -/
def bits_Mul32.f (a0 : Int) (a1 : Int) : Option (Int × Int) := some (((IntKind.u64.wrap ((IntKind.u64.wrap (a0)) * (IntKind.u64.wrap (a1)))) / 4294967296) % 4294967296, (IntKind.u64.wrap ((IntKind.u64.wrap (a0)) * (IntKind.u64.wrap (a1)))) % 4294967296)
set_option maxHeartbeats 8000000 in
set_option maxRecDepth 100000 in
theorem bits_Mul32.calls (a0 : Int) (a1 : Int) (r1 : Int) (r2 : Int) (w : World) (h : bits_Mul32.f a0 a1 = some (r1, r2)) :
  Calls Tryd.prog 57 #[.int .u32 a0, .int .u32 a1] w fun e w' => e = .returned (.tuple #[.int .u32 r1, .int .u32 r2]) ∧ Drawn0 w w' := by
 have H : (some (((IntKind.u64.wrap ((IntKind.u64.wrap (a0)) * (IntKind.u64.wrap (a1)))) / 4294967296) % 4294967296, (IntKind.u64.wrap ((IntKind.u64.wrap (a0)) * (IntKind.u64.wrap (a1)))) % 4294967296)) = some (r1, r2) := h;clear h;simp only [Option.some.injEq, Prod.mk.injEq] at H
 obtain ⟨rfl, rfl⟩ := H;go_enter Tryd.func57, Tryd.ntmps57
 go_wp2
 go_ret2
 exact ⟨by first | rfl | (simp; done) | (simp [*]; done), by repeat (first | exact Drawn0.refl _ | apply Drawn0.step)⟩
/-! ### bits_Mul64: function 58 -/
def bits_Mul64.f (a0 : Int) (a1 : Int) : Option (Int × Int) := some (IntKind.u64.wrap ((IntKind.u64.wrap ((IntKind.u64.wrap ((a0 / 4294967296) * (a1 / 4294967296))) + ((IntKind.u64.wrap ((IntKind.u64.wrap ((a0 / 4294967296) * (Go.bits .and .u64 a1 4294967295))) + ((IntKind.u64.wrap ((Go.bits .and .u64 a0 4294967295) * (Go.bits .and .u64 a1 4294967295))) / 4294967296))) / 4294967296))) + ((IntKind.u64.wrap ((Go.bits .and .u64 (IntKind.u64.wrap ((IntKind.u64.wrap ((a0 / 4294967296) * (Go.bits .and .u64 a1 4294967295))) + ((IntKind.u64.wrap ((Go.bits .and .u64 a0 4294967295) * (Go.bits .and .u64 a1 4294967295))) / 4294967296))) 4294967295) + (IntKind.u64.wrap ((Go.bits .and .u64 a0 4294967295) * (a1 / 4294967296))))) / 4294967296)), IntKind.u64.wrap (a0 * a1))
set_option maxHeartbeats 8000000 in
set_option maxRecDepth 100000 in
theorem bits_Mul64.calls (a0 : Int) (a1 : Int) (r1 : Int) (r2 : Int) (w : World) (h : bits_Mul64.f a0 a1 = some (r1, r2)) :
  Calls Tryd.prog 58 #[.int .u64 a0, .int .u64 a1] w fun e w' => e = .returned (.tuple #[.int .u64 r1, .int .u64 r2]) ∧ Drawn0 w w' := by
 have H : (some (IntKind.u64.wrap ((IntKind.u64.wrap ((IntKind.u64.wrap ((a0 / 4294967296) * (a1 / 4294967296))) + ((IntKind.u64.wrap ((IntKind.u64.wrap ((a0 / 4294967296) * (Go.bits .and .u64 a1 4294967295))) + ((IntKind.u64.wrap ((Go.bits .and .u64 a0 4294967295) * (Go.bits .and .u64 a1 4294967295))) / 4294967296))) / 4294967296))) + ((IntKind.u64.wrap ((Go.bits .and .u64 (IntKind.u64.wrap ((IntKind.u64.wrap ((a0 / 4294967296) * (Go.bits .and .u64 a1 4294967295))) + ((IntKind.u64.wrap ((Go.bits .and .u64 a0 4294967295) * (Go.bits .and .u64 a1 4294967295))) / 4294967296))) 4294967295) + (IntKind.u64.wrap ((Go.bits .and .u64 a0 4294967295) * (a1 / 4294967296))))) / 4294967296)), IntKind.u64.wrap (a0 * a1))) = some (r1, r2) := h;clear h;simp only [Option.some.injEq, Prod.mk.injEq] at H
 obtain ⟨rfl, rfl⟩ := H;go_enter Tryd.func58, Tryd.ntmps58
 go_wp2
 go_ret2
 exact ⟨by first | rfl | (simp; done) | (simp [*]; done), by repeat (first | exact Drawn0.refl _ | apply Drawn0.step)⟩
/-! ### bits_Mul: function 45 -/
def bits_Mul.f (a0 : Int) (a1 : Int) : Option (Int × Int) := (bits_Mul64.f a0 a1).bind fun bt245 => (some (bt245.1, bt245.2))
set_option maxHeartbeats 8000000 in
set_option maxRecDepth 100000 in
theorem bits_Mul.calls (a0 : Int) (a1 : Int) (r1 : Int) (r2 : Int) (w : World) (h : bits_Mul.f a0 a1 = some (r1, r2)) :
  Calls Tryd.prog 45 #[.int .u64 a0, .int .u64 a1] w fun e w' => e = .returned (.tuple #[.int .u64 r1, .int .u64 r2]) ∧ Drawn0 w w' := by
 have H : ((bits_Mul64.f a0 a1).bind fun bt245 => (some (bt245.1, bt245.2))) = some (r1, r2) := h;clear h;replace H := Option.bind_eq_some_iff.mp H;obtain ⟨⟨t245, t246⟩, A30, H⟩ := H;replace H : (some (t245, t246)) = some (r1, r2) := H;have A3 := Aside0.mk A30;clear A30;simp only [Option.some.injEq, Prod.mk.injEq] at H
 obtain ⟨rfl, rfl⟩ := H;go_enter Tryd.func45, Tryd.ntmps45
 go_wp2_with (first | ((with_reducible refine gate_callee (f := 58) rfl ?_); refine goesL_ (some 25) rfl rfl Tryd.func58 (by kernel_rfl) rfl #[.int .u64 a0, .int .u64 a1] rfl qM ?_; (with_reducible refine (bits_Mul64.calls a0 a1 t245 t246 _ A3.out).mono ?_); rintro e w' ⟨rfl, ⟨nd, rfl⟩⟩; refine ⟨_, rfl, ?_⟩))
 go_ret2
 exact ⟨by first | rfl | (simp; done) | (simp [*]; done), by repeat (first | exact Drawn0.refl _ | apply Drawn0.step)⟩
end Go.Proofs.YtbdlelojlnhhfaaDoor.Pr
