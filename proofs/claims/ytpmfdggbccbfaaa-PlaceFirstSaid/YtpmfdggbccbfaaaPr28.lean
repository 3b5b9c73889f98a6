-- Printed by a program of this session's own (wip/tools/pp.py) over the kit's print.py; Lean checks it.
import Derived.Test.YtpmfdggbccbfaaaPr0
import Derived.Test.YtpmfdggbccbfaaaPr1
namespace Go.Proofs.Ytpmfdggbccbfaaa.Pr
open Go.RowKit Go.Proofs.YtpmfdggbccbfaaaW.PrintWords Go.Proofs.YtpmfdggbccbfaaaW.PrintLast Go.Proofs.YtpmfdggbccbfaaaW.PrintMore
attribute [local go_sem] max2_int min2_int max_two min_two max_three min_three max_four min_four   -- for this text's walks alone
set_option linter.unusedVariables false
set_option linter.unusedSimpArgs false

-- given by hand
/-! ### tuple_merge: function 70 -/
def keepL (is : Bool) (n : Int) (l : List Int) : List Int := if is = true then n :: l else l
def mergeIn (f1 f2 f3 : Bool) (a : Int) (rest : List Int → List Int) : List Int → List Int
  | [] => keepL f1 a (rest [])
  | b :: m => if a < b then keepL f1 a (rest (b :: m)) else if b < a then keepL f3 b (mergeIn f1 f2 f3 a rest m) else keepL f2 a (rest m)
def mergeL (f1 f2 f3 : Bool) : List Int → List Int → List Int
  | [] => fun bs => if f3 = true then bs else []
  | a :: l => mergeIn f1 f2 f3 a (mergeL f1 f2 f3 l)
theorem mergeL_nn (f1 f2 f3 : Bool) : mergeL f1 f2 f3 [] [] = [] := by cases f3 <;> rfl
theorem mergeL_cn (f1 f2 f3 : Bool) (a : Int) (l : List Int) : mergeL f1 f2 f3 (a :: l) [] = keepL f1 a (mergeL f1 f2 f3 l []) := rfl
theorem mergeL_nc (f1 f2 f3 : Bool) (b : Int) (m : List Int) : mergeL f1 f2 f3 [] (b :: m) = keepL f3 b (mergeL f1 f2 f3 [] m) := by cases f3 <;> rfl
theorem mergeL_cc (f1 f2 f3 : Bool) (a b : Int) (l m : List Int) : mergeL f1 f2 f3 (a :: l) (b :: m) = if a < b then keepL f1 a (mergeL f1 f2 f3 l (b :: m)) else if b < a then keepL f3 b (mergeL f1 f2 f3 (a :: l) m) else keepL f2 a (mergeL f1 f2 f3 l m) := rfl
def tuple_merge.f (l0 l1 : List Int) (a2 a3 a4 : Bool) : Option (List Int) := if l0.length + l1.length < 17592186044416 then some (mergeL a2 a3 a4 l0 l1) else none
theorem keep_no (n : Int) (B : Nat) (w : World) : Calls Try.prog 78 #[.bool false, .int .i64 n, .pointer (some ⟨B, 0, none⟩)] w fun e w' => e = .returned (.tuple #[]) ∧ w = w' := by
  go_enter Try.func78, Try.ntmps78
  go_wp2
  go_end0
  exact ⟨rfl, rfl⟩
theorem keep_yes (n : Int) (B base : Nat) (w0 w : World) (v : Value) (xs : List Int) (hbox : w.heap[B]? = some (.cells #[v] 23 (0, 0))) (hR : Kd.R (Kd.int .i64) 3 w base (fun _ => True) v xs) (hB : Below base w0 w) (hle : base ≤ w.heap.size) (hBB : base ≤ B) (hlen : xs.length < 17592186044416) :
    Calls Try.prog 78 #[.bool true, .int .i64 n, .pointer (some ⟨B, 0, none⟩)] w fun e w' => e = .returned (.tuple #[]) ∧ ∃ v', w'.heap[B]? = some (.cells #[v'] 23 (0, 0)) ∧ Kd.R (Kd.int .i64) 3 w' base (fun _ => True) v' (xs ++ [n]) ∧ Below base w0 w' ∧ base ≤ w'.heap.size := by
  have HX := Aside0.mk hbox
  have HR := Aside0.mk hR
  have HB := Aside0.mk hB
  have HL := Aside0.mk hle
  have HBB := Aside0.mk hBB
  have hc0 : w.cell? ⟨B, 0, none⟩ = some v := (blk_cell hbox 0).trans rfl
  have hf0 := blk_frozen hbox 0
  clear hbox hR hB hle hBB
  go_enter Try.func78, Try.ntmps78
  go_wp2_with (first | (at_builtin; refine Kd.R_append (Kd.int .i64) (w0 := w0) base rfl (.tmp 6) (.tmp 8) 23 3 (.int .i64 0) 8 rfl Try.underlying23 info3 rfl (by decide) (by omega) v xs n [.int .i64 n] (fun _ => True) (fun _ => False) rfl rfl rfl (fun _ hk => hk.elim) (fun _ _ => trivial) HR.out HB.out HL.out (by omega) ?_; intro v1 w1 ho hb hg hat; have HO := Aside0.mk ho; have HB1 := Aside0.mk hb; have HX1 := Aside0.mk (blk_grown HX.out hg (Kd.R_ne HR.out HX.out (by decide))); have HL1 := Aside0.mk (Nat.le_trans HL.out hg.size); clear ho hb hg hat; obtain ⟨A1, c1, hv1⟩ := Kd.R_slice HO.out; subst hv1; simp only [List.length_append, List.length_cons, List.length_nil, Nat.zero_add] at HO; have hc1 : w1.cell? ⟨B, 0, none⟩ = some v := (blk_cell HX1.out 0).trans rfl; have hf1 := blk_frozen HX1.out 0))
  go_end0
  exact ⟨rfl, _, blk_put HX1.out 0 _ rfl, Kd.R_set HO.out HX1.out (by decide) _ _, HB1.out.setCell HBB.out _, by simpa using HL1.out⟩
theorem head_facts (W : World) (A : Option Addr) (c : Nat) (a : Int) (l : List Int) (h : (Kd.int .i64).C W A (l.length + 1) (a :: l)) (hc : l.length + 1 ≤ c) :
    ∃ (ad : Addr) (A' : Option Addr), A = some ad ∧ (∀ W', Below W.heap.size W W' → W'.cell? ad = some (.int .i64 a)) ∧ (∀ W' : World, (Instr.slice 23 (.slice (some ad) (l.length + 1) c) (some (.int .i64 1)) none none).run Try.prog W' = .ok (.slice A' l.length (c - 1)) W') ∧
      (Kd.int .i64).C W A' l.length l ∧ l.length ≤ c - 1 := by
  obtain ⟨i0, hi, hii⟩ := Option.map_eq_some_iff.1 info3
  obtain ⟨ad, e, hcell⟩ := Kd.at_int h 0 (by omega) (by omega)
  subst e
  obtain ⟨A', h1, h2, h3⟩ := print_drop_of (P := Try.prog) (Value.int .i64) (0 : Int) 23 3 .i64 Try.underlying23 hi (by simp at hii; exact hii.2.1) (some ad) c (a :: l) 1 (by omega) (by simp; omega) (by simpa using hc)
  refine ⟨ad, A', rfl, fun W' hb => ?_, ?_, ?_, ?_⟩
  · have := pw_cell_below hb hcell
    simpa [rd, Addr.add] using this
  · simpa using h1
  · have := h2 W (Kd.reads_of_C (d := (0 : Int)) h)
    exact Kd.C_of_reads (d := (0 : Int)) (h1 := fun _ => rfl) (by simpa using this)
  · simpa using h3
theorem mergeL_len (f1 f2 f3 : Bool) : ∀ n a b, a.length + b.length = n → (mergeL f1 f2 f3 a b).length ≤ a.length + b.length := by
  intro n
  induction n using Nat.strongRecOn with
  | _ n ih =>
    intro a b h
    have hk : ∀ is x (l : List Int) , (keepL is x l).length ≤ l.length + 1 := by
      intro is x l; unfold keepL; split <;> simp
    match a, b with
    | [], [] => simp [mergeL_nn]
    | x :: l, [] =>
      rw [mergeL_cn]
      have := ih (l.length) (by simp at h; omega) l [] (by simp)
      have := hk f1 x (mergeL f1 f2 f3 l [])
      simp at *; omega
    | [], y :: m =>
      rw [mergeL_nc]
      have := ih (m.length) (by simp at h; omega) [] m (by simp)
      have := hk f3 y (mergeL f1 f2 f3 [] m)
      simp at *; omega
    | x :: l, y :: m =>
      rw [mergeL_cc]
      have h1 := ih (l.length + (m.length + 1)) (by simp at h; omega) l (y :: m) (by simp)
      have h2 := ih (l.length + 1 + m.length) (by simp at h; omega) (x :: l) m (by simp)
      have h3 := ih (l.length + m.length) (by simp at h; omega) l m rfl
      have k1 := hk f1 x (mergeL f1 f2 f3 l (y :: m))
      have k2 := hk f3 y (mergeL f1 f2 f3 (x :: l) m)
      have k3 := hk f2 x (mergeL f1 f2 f3 l m)
      split
      · simp at *; omega
      · split <;> (simp at *; omega)
set_option maxHeartbeats 8000000 in
theorem tuple_merge.calls (A0 : Option Addr) (c0 : Nat) (l0 : List Int) (A1 : Option Addr) (c1 : Nat) (l1 : List Int) (a2 a3 a4 : Bool) (r : List Int) (w : World) (hr0 : Kd.C (Kd.int .i64) w A0 l0.length l0) (hc0 : l0.length ≤ c0) (hr1 : Kd.C (Kd.int .i64) w A1 l1.length l1) (hc1 : l1.length ≤ c1) (h : tuple_merge.f l0 l1 a2 a3 a4 = some r) :
    Calls Try.prog 70 #[.slice A0 l0.length c0, .slice A1 l1.length c1, .bool a2, .bool a3, .bool a4] w fun e w' => ∃ v0_ : Value, e = .returned (v0_) ∧ Kd.R (Kd.int .i64) 3 w' w.heap.size (fun _ => True) v0_ r ∧ Below w.heap.size w w' := by
  unfold tuple_merge.f at h
  by_cases hl : l0.length + l1.length < 17592186044416
  · rw [if_pos hl] at h
    have Hr := Aside0.mk (Option.some.inj h)
    have HR0 := Aside0.mk hr0
    have HR1 := Aside0.mk hr1
    have HC0 := Aside0.mk hc0
    have HC1 := Aside0.mk hc1
    have HLL := Aside0.mk hl
    clear hr0 h hr1 hc0 hc1 hl
    go_enter Try.func70, Try.ntmps70
    go_wp2
    go_loopg [0, 1] (l0.length + l1.length) (fun kq va vb w' => ∃ (la lb : List Int) (A B : Option Addr) (ca cb : Nat) (v : Value) (xs : List Int), va = .slice A la.length ca ∧ vb = .slice B lb.length cb ∧ Aside0 ((Kd.int .i64).C w A la.length la) ∧ Aside0 (la.length ≤ ca) ∧ Aside0 ((Kd.int .i64).C w B lb.length lb) ∧ Aside0 (lb.length ≤ cb) ∧ Aside0 (w'.heap[w.heap.size]? = some (.cells #[v] 23 (0, 0))) ∧ Aside0 ((Kd.int .i64).R 3 w' w.heap.size (fun _ => True) v xs) ∧ Aside0 (Below w.heap.size w w') ∧ Aside0 (w.heap.size ≤ w'.heap.size) ∧ Aside0 (xs ++ mergeL a2 a3 a4 la lb = r) ∧ Aside0 (kq = la.length + lb.length) ∧ Aside0 (xs.length + kq ≤ l0.length + l1.length))
    case atStart => exact ⟨l0, l1, A0, A1, c0, c1, .slice none 0 0, [], rfl, rfl, HR0, HC0, HR1, HC1, ⟨blk_new _ _⟩, ⟨Kd.R_nil _ _ _ _ _⟩, ⟨below_alloc (Below.refl _ _) _⟩, ⟨by simp⟩, ⟨by rw [List.nil_append]; exact Hr.out⟩, ⟨rfl⟩, ⟨by simp⟩⟩
    case round =>
      obtain ⟨la, lb, A, B, ca, cb, v, xs, rfl, rfl, HA, HCA, HBB, HCB, HX, HO, HW, HZ, HE, HK, HM⟩ := hrel
      match la, lb with
      | [], [] =>
        have e : xs = r := by have := HE.out; simpa [mergeL_nn] using this
        subst e
        have hc1 : wr.cell? ⟨w.heap.size, 0, none⟩ = some v := (blk_cell HX.out 0).trans rfl
        have hf1 := blk_frozen HX.out 0
        obtain ⟨Av, cv, hv1⟩ := Kd.R_slice HO.out
        subst hv1
        go_wp2
        have hc2 := (blk_cell (blk_put HX.out 0 (.slice Av xs.length cv) rfl) 0).trans rfl
        refine bodyPost_ret (v := .slice Av xs.length cv) ?_ rfl ⟨_, rfl, Kd.R_set HO.out HX.out (by decide) _ _, HW.out.setCell (Nat.le_refl _) _⟩
        simp only [results, show Try.f70.results = #[.cell 10 23] from rfl]
        go_simp
      | a :: l, [] =>
        obtain ⟨ad, A', rfl, h1, h2, h3, h4⟩ := head_facts w A ca a l (by simpa using HA.out) (by simpa using HCA.out)
        have H1 := Aside0.mk h1
        have H3 := Aside0.mk h3
        have H4 := Aside0.mk h4
        have ha0 := H1.out wr HW.out
        clear h1 h3 h4
        cases a2 with
        | false =>
          have HE2 := Aside0.mk (by have := HE.out; (first | rw [mergeL_cc] at this | rw [mergeL_cn] at this | rw [mergeL_nc] at this); skip; simpa [keepL] using this : xs ++ mergeL false a3 a4 l [] = r)
          have HM2 := Aside0.mk (by have h1 := HM.out; have h2 := HK.out; have h3 := HLL.out; simp at h2 ⊢; omega : xs.length + 1 ≤ l0.length + l1.length ∧ xs.length < 17592186044416)
          go_wp2
          go_quiet (fail)
          go_wp2_with (go_at_call 78; refine (keep_no a w.heap.size _).mono ?_; rintro e w1 ⟨rfl, rfl⟩)
          go_roundg ((l : List Int).length + ([] : List Int).length)
          case measure => have := HK.out; simp at this ⊢; omega
          case rel => exact ⟨l, [], A', B, (ca - 1), cb, v, xs, by first | rfl | (simp; done), by first | rfl | (simp; done), ⟨by simpa using H3.out⟩, ⟨by simpa using H4.out⟩, HBB, HCB, ⟨(by (with_reducible repeat (first | refine blk_drewN ?_ _ | refine blk_drew ?_)); exact HX.out)⟩, ⟨(by (with_reducible repeat (first | apply Kd.R_drewN | apply Kd.R_drew)); exact HO.out)⟩, ⟨(by repeat (first | (with_reducible first | exact HW.out | apply pw_below_drewN | apply below_drew1) | exact HW.out))⟩, ⟨by simpa using HZ.out⟩, HE2, ⟨by first | rfl | (simp; done)⟩, ⟨by have h1 := HM.out; have h2 := HK.out; simp at h2 ⊢; omega⟩⟩
        | true =>
          have HE2 := Aside0.mk (by have := HE.out; (first | rw [mergeL_cc] at this | rw [mergeL_cn] at this | rw [mergeL_nc] at this); skip; simpa [keepL] using this : (xs ++ [a]) ++ mergeL true a3 a4 l [] = r)
          have HM2 := Aside0.mk (by have h1 := HM.out; have h2 := HK.out; have h3 := HLL.out; simp at h2 ⊢; omega : xs.length + 1 ≤ l0.length + l1.length ∧ xs.length < 17592186044416)
          go_wp2
          go_quiet (fail)
          go_wp2_with (go_at_call 78; refine (keep_yes a w.heap.size w.heap.size w _ v xs (by (with_reducible repeat (first | refine blk_drewN ?_ _ | refine blk_drew ?_)); exact HX.out) (by (with_reducible repeat (first | apply Kd.R_drewN | apply Kd.R_drew)); exact HO.out) (by repeat (first | (with_reducible first | exact HW.out | apply pw_below_drewN | apply below_drew1) | exact HW.out)) (by simpa using HZ.out) (Nat.le_refl _) HM2.out.2).mono ?_; rintro e w1 ⟨rfl, v1, hx1, ho1, hb1, hz1⟩; have HX1 := Aside0.mk hx1; have HO1 := Aside0.mk ho1; have HB1 := Aside0.mk hb1; have HZ1 := Aside0.mk hz1; clear hx1 ho1 hb1 hz1)
          go_roundg ((l : List Int).length + ([] : List Int).length)
          case measure => have := HK.out; simp at this ⊢; omega
          case rel => exact ⟨l, [], A', B, (ca - 1), cb, v1, (xs ++ [a]), by first | rfl | (simp; done), by first | rfl | (simp; done), ⟨by simpa using H3.out⟩, ⟨by simpa using H4.out⟩, HBB, HCB, ⟨(by (with_reducible repeat (first | refine blk_drewN ?_ _ | refine blk_drew ?_)); exact HX1.out)⟩, ⟨(by (with_reducible repeat (first | apply Kd.R_drewN | apply Kd.R_drew)); exact HO1.out)⟩, ⟨(by repeat (first | (with_reducible first | exact HB1.out | apply pw_below_drewN | apply below_drew1) | exact HB1.out))⟩, ⟨by simpa using HZ1.out⟩, HE2, ⟨by first | rfl | (simp; done)⟩, ⟨by have h1 := HM.out; have h2 := HK.out; simp at h2 ⊢; omega⟩⟩
      | [], b :: m =>
        obtain ⟨bd, B', rfl, k1, k2, k3, k4⟩ := head_facts w B cb b m (by simpa using HBB.out) (by simpa using HCB.out)
        have K1 := Aside0.mk k1
        have K3 := Aside0.mk k3
        have K4 := Aside0.mk k4
        have hb0 := K1.out wr HW.out
        clear k1 k3 k4
        have hm0 : (((m.length : Int) + 1) == 0) = false := by simp; omega
        cases a4 with
        | false =>
          have HE2 := Aside0.mk (by have := HE.out; (first | rw [mergeL_cc] at this | rw [mergeL_cn] at this | rw [mergeL_nc] at this); skip; simpa [keepL] using this : xs ++ mergeL a2 a3 false [] m = r)
          have HM2 := Aside0.mk (by have h1 := HM.out; have h2 := HK.out; have h3 := HLL.out; simp at h2 ⊢; omega : xs.length + 1 ≤ l0.length + l1.length ∧ xs.length < 17592186044416)
          go_wp2
          go_quiet (fail)
          go_wp2
          go_quiet (fail)
          go_wp2_with (go_at_call 78; refine (keep_no b w.heap.size _).mono ?_; rintro e w1 ⟨rfl, rfl⟩)
          go_roundg (([] : List Int).length + (m : List Int).length)
          case measure => have := HK.out; simp at this ⊢; omega
          case rel => exact ⟨[], m, A, B', ca, (cb - 1), v, xs, by first | rfl | (simp; done), by first | rfl | (simp; done), HA, HCA, ⟨by simpa using K3.out⟩, ⟨by simpa using K4.out⟩, ⟨(by (with_reducible repeat (first | refine blk_drewN ?_ _ | refine blk_drew ?_)); exact HX.out)⟩, ⟨(by (with_reducible repeat (first | apply Kd.R_drewN | apply Kd.R_drew)); exact HO.out)⟩, ⟨(by repeat (first | (with_reducible first | exact HW.out | apply pw_below_drewN | apply below_drew1) | exact HW.out))⟩, ⟨by simpa using HZ.out⟩, HE2, ⟨by first | rfl | (simp; done)⟩, ⟨by have h1 := HM.out; have h2 := HK.out; simp at h2 ⊢; omega⟩⟩
        | true =>
          have HE2 := Aside0.mk (by have := HE.out; (first | rw [mergeL_cc] at this | rw [mergeL_cn] at this | rw [mergeL_nc] at this); skip; simpa [keepL] using this : (xs ++ [b]) ++ mergeL a2 a3 true [] m = r)
          have HM2 := Aside0.mk (by have h1 := HM.out; have h2 := HK.out; have h3 := HLL.out; simp at h2 ⊢; omega : xs.length + 1 ≤ l0.length + l1.length ∧ xs.length < 17592186044416)
          go_wp2
          go_quiet (fail)
          go_wp2
          go_quiet (fail)
          go_wp2_with (go_at_call 78; refine (keep_yes b w.heap.size w.heap.size w _ v xs (by (with_reducible repeat (first | refine blk_drewN ?_ _ | refine blk_drew ?_)); exact HX.out) (by (with_reducible repeat (first | apply Kd.R_drewN | apply Kd.R_drew)); exact HO.out) (by repeat (first | (with_reducible first | exact HW.out | apply pw_below_drewN | apply below_drew1) | exact HW.out)) (by simpa using HZ.out) (Nat.le_refl _) HM2.out.2).mono ?_; rintro e w1 ⟨rfl, v1, hx1, ho1, hb1, hz1⟩; have HX1 := Aside0.mk hx1; have HO1 := Aside0.mk ho1; have HB1 := Aside0.mk hb1; have HZ1 := Aside0.mk hz1; clear hx1 ho1 hb1 hz1)
          go_roundg (([] : List Int).length + (m : List Int).length)
          case measure => have := HK.out; simp at this ⊢; omega
          case rel => exact ⟨[], m, A, B', ca, (cb - 1), v1, (xs ++ [b]), by first | rfl | (simp; done), by first | rfl | (simp; done), HA, HCA, ⟨by simpa using K3.out⟩, ⟨by simpa using K4.out⟩, ⟨(by (with_reducible repeat (first | refine blk_drewN ?_ _ | refine blk_drew ?_)); exact HX1.out)⟩, ⟨(by (with_reducible repeat (first | apply Kd.R_drewN | apply Kd.R_drew)); exact HO1.out)⟩, ⟨(by repeat (first | (with_reducible first | exact HB1.out | apply pw_below_drewN | apply below_drew1) | exact HB1.out))⟩, ⟨by simpa using HZ1.out⟩, HE2, ⟨by first | rfl | (simp; done)⟩, ⟨by have h1 := HM.out; have h2 := HK.out; simp at h2 ⊢; omega⟩⟩
      | a :: l, b :: m =>
        obtain ⟨ad, A', rfl, h1, h2, h3, h4⟩ := head_facts w A ca a l (by simpa using HA.out) (by simpa using HCA.out)
        have H1 := Aside0.mk h1
        have H3 := Aside0.mk h3
        have H4 := Aside0.mk h4
        have ha0 := H1.out wr HW.out
        clear h1 h3 h4
        obtain ⟨bd, B', rfl, k1, k2, k3, k4⟩ := head_facts w B cb b m (by simpa using HBB.out) (by simpa using HCB.out)
        have K1 := Aside0.mk k1
        have K3 := Aside0.mk k3
        have K4 := Aside0.mk k4
        have hb0 := K1.out wr HW.out
        clear k1 k3 k4
        have hm0 : (((m.length : Int) + 1) == 0) = false := by simp; omega
        have hl0 : (((l.length : Int) + 1) == 0) = false := by simp; omega
        by_cases hlt : a < b
        · have hd : decide (a < b) = true := decide_eq_true hlt
          cases a2 with
          | false =>
            have HE2 := Aside0.mk (by have := HE.out; (first | rw [mergeL_cc] at this | rw [mergeL_cn] at this | rw [mergeL_nc] at this); rw [if_pos hlt] at this; simpa [keepL] using this : xs ++ mergeL false a3 a4 l (b :: m) = r)
            have HM2 := Aside0.mk (by have h1 := HM.out; have h2 := HK.out; have h3 := HLL.out; simp at h2 ⊢; omega : xs.length + 1 ≤ l0.length + l1.length ∧ xs.length < 17592186044416)
            go_wp2
            go_quiet (fail)
            go_wp2_with (go_at_call 78; refine (keep_no a w.heap.size _).mono ?_; rintro e w1 ⟨rfl, rfl⟩)
            go_roundg ((l : List Int).length + ((b :: m) : List Int).length)
            case measure => have := HK.out; simp at this ⊢; omega
            case rel => exact ⟨l, (b :: m), A', (some bd), (ca - 1), cb, v, xs, by first | rfl | (simp; done), by first | rfl | (simp; done), ⟨by simpa using H3.out⟩, ⟨by simpa using H4.out⟩, HBB, HCB, ⟨(by (with_reducible repeat (first | refine blk_drewN ?_ _ | refine blk_drew ?_)); exact HX.out)⟩, ⟨(by (with_reducible repeat (first | apply Kd.R_drewN | apply Kd.R_drew)); exact HO.out)⟩, ⟨(by repeat (first | (with_reducible first | exact HW.out | apply pw_below_drewN | apply below_drew1) | exact HW.out))⟩, ⟨by simpa using HZ.out⟩, HE2, ⟨by first | rfl | (simp; done)⟩, ⟨by have h1 := HM.out; have h2 := HK.out; simp at h2 ⊢; omega⟩⟩
          | true =>
            have HE2 := Aside0.mk (by have := HE.out; (first | rw [mergeL_cc] at this | rw [mergeL_cn] at this | rw [mergeL_nc] at this); rw [if_pos hlt] at this; simpa [keepL] using this : (xs ++ [a]) ++ mergeL true a3 a4 l (b :: m) = r)
            have HM2 := Aside0.mk (by have h1 := HM.out; have h2 := HK.out; have h3 := HLL.out; simp at h2 ⊢; omega : xs.length + 1 ≤ l0.length + l1.length ∧ xs.length < 17592186044416)
            go_wp2
            go_quiet (fail)
            go_wp2_with (go_at_call 78; refine (keep_yes a w.heap.size w.heap.size w _ v xs (by (with_reducible repeat (first | refine blk_drewN ?_ _ | refine blk_drew ?_)); exact HX.out) (by (with_reducible repeat (first | apply Kd.R_drewN | apply Kd.R_drew)); exact HO.out) (by repeat (first | (with_reducible first | exact HW.out | apply pw_below_drewN | apply below_drew1) | exact HW.out)) (by simpa using HZ.out) (Nat.le_refl _) HM2.out.2).mono ?_; rintro e w1 ⟨rfl, v1, hx1, ho1, hb1, hz1⟩; have HX1 := Aside0.mk hx1; have HO1 := Aside0.mk ho1; have HB1 := Aside0.mk hb1; have HZ1 := Aside0.mk hz1; clear hx1 ho1 hb1 hz1)
            go_roundg ((l : List Int).length + ((b :: m) : List Int).length)
            case measure => have := HK.out; simp at this ⊢; omega
            case rel => exact ⟨l, (b :: m), A', (some bd), (ca - 1), cb, v1, (xs ++ [a]), by first | rfl | (simp; done), by first | rfl | (simp; done), ⟨by simpa using H3.out⟩, ⟨by simpa using H4.out⟩, HBB, HCB, ⟨(by (with_reducible repeat (first | refine blk_drewN ?_ _ | refine blk_drew ?_)); exact HX1.out)⟩, ⟨(by (with_reducible repeat (first | apply Kd.R_drewN | apply Kd.R_drew)); exact HO1.out)⟩, ⟨(by repeat (first | (with_reducible first | exact HB1.out | apply pw_below_drewN | apply below_drew1) | exact HB1.out))⟩, ⟨by simpa using HZ1.out⟩, HE2, ⟨by first | rfl | (simp; done)⟩, ⟨by have h1 := HM.out; have h2 := HK.out; simp at h2 ⊢; omega⟩⟩
        · have hd : decide (a < b) = false := decide_eq_false hlt
          by_cases hgt : b < a
          · have hd2 : decide (b < a) = true := decide_eq_true hgt
            cases a4 with
            | false =>
              have HE2 := Aside0.mk (by have := HE.out; (first | rw [mergeL_cc] at this | rw [mergeL_cn] at this | rw [mergeL_nc] at this); rw [if_neg hlt, if_pos hgt] at this; simpa [keepL] using this : xs ++ mergeL a2 a3 false (a :: l) m = r)
              have HM2 := Aside0.mk (by have h1 := HM.out; have h2 := HK.out; have h3 := HLL.out; simp at h2 ⊢; omega : xs.length + 1 ≤ l0.length + l1.length ∧ xs.length < 17592186044416)
              go_wp2
              go_quiet (fail)
              go_wp2
              go_quiet (fail)
              go_wp2_with (go_at_call 78; refine (keep_no b w.heap.size _).mono ?_; rintro e w1 ⟨rfl, rfl⟩)
              go_roundg (((a :: l) : List Int).length + (m : List Int).length)
              case measure => have := HK.out; simp at this ⊢; omega
              case rel => exact ⟨(a :: l), m, (some ad), B', ca, (cb - 1), v, xs, by first | rfl | (simp; done), by first | rfl | (simp; done), HA, HCA, ⟨by simpa using K3.out⟩, ⟨by simpa using K4.out⟩, ⟨(by (with_reducible repeat (first | refine blk_drewN ?_ _ | refine blk_drew ?_)); exact HX.out)⟩, ⟨(by (with_reducible repeat (first | apply Kd.R_drewN | apply Kd.R_drew)); exact HO.out)⟩, ⟨(by repeat (first | (with_reducible first | exact HW.out | apply pw_below_drewN | apply below_drew1) | exact HW.out))⟩, ⟨by simpa using HZ.out⟩, HE2, ⟨by first | rfl | (simp; done)⟩, ⟨by have h1 := HM.out; have h2 := HK.out; simp at h2 ⊢; omega⟩⟩
            | true =>
              have HE2 := Aside0.mk (by have := HE.out; (first | rw [mergeL_cc] at this | rw [mergeL_cn] at this | rw [mergeL_nc] at this); rw [if_neg hlt, if_pos hgt] at this; simpa [keepL] using this : (xs ++ [b]) ++ mergeL a2 a3 true (a :: l) m = r)
              have HM2 := Aside0.mk (by have h1 := HM.out; have h2 := HK.out; have h3 := HLL.out; simp at h2 ⊢; omega : xs.length + 1 ≤ l0.length + l1.length ∧ xs.length < 17592186044416)
              go_wp2
              go_quiet (fail)
              go_wp2
              go_quiet (fail)
              go_wp2_with (go_at_call 78; refine (keep_yes b w.heap.size w.heap.size w _ v xs (by (with_reducible repeat (first | refine blk_drewN ?_ _ | refine blk_drew ?_)); exact HX.out) (by (with_reducible repeat (first | apply Kd.R_drewN | apply Kd.R_drew)); exact HO.out) (by repeat (first | (with_reducible first | exact HW.out | apply pw_below_drewN | apply below_drew1) | exact HW.out)) (by simpa using HZ.out) (Nat.le_refl _) HM2.out.2).mono ?_; rintro e w1 ⟨rfl, v1, hx1, ho1, hb1, hz1⟩; have HX1 := Aside0.mk hx1; have HO1 := Aside0.mk ho1; have HB1 := Aside0.mk hb1; have HZ1 := Aside0.mk hz1; clear hx1 ho1 hb1 hz1)
              go_roundg (((a :: l) : List Int).length + (m : List Int).length)
              case measure => have := HK.out; simp at this ⊢; omega
              case rel => exact ⟨(a :: l), m, (some ad), B', ca, (cb - 1), v1, (xs ++ [b]), by first | rfl | (simp; done), by first | rfl | (simp; done), HA, HCA, ⟨by simpa using K3.out⟩, ⟨by simpa using K4.out⟩, ⟨(by (with_reducible repeat (first | refine blk_drewN ?_ _ | refine blk_drew ?_)); exact HX1.out)⟩, ⟨(by (with_reducible repeat (first | apply Kd.R_drewN | apply Kd.R_drew)); exact HO1.out)⟩, ⟨(by repeat (first | (with_reducible first | exact HB1.out | apply pw_below_drewN | apply below_drew1) | exact HB1.out))⟩, ⟨by simpa using HZ1.out⟩, HE2, ⟨by first | rfl | (simp; done)⟩, ⟨by have h1 := HM.out; have h2 := HK.out; simp at h2 ⊢; omega⟩⟩
          · have hd2 : decide (b < a) = false := decide_eq_false hgt
            cases a3 with
            | false =>
              have HE2 := Aside0.mk (by have := HE.out; (first | rw [mergeL_cc] at this | rw [mergeL_cn] at this | rw [mergeL_nc] at this); rw [if_neg hlt, if_neg hgt] at this; simpa [keepL] using this : xs ++ mergeL a2 false a4 l m = r)
              have HM2 := Aside0.mk (by have h1 := HM.out; have h2 := HK.out; have h3 := HLL.out; simp at h2 ⊢; omega : xs.length + 1 ≤ l0.length + l1.length ∧ xs.length < 17592186044416)
              go_wp2
              go_quiet (fail)
              go_wp2
              go_quiet (fail)
              go_wp2_with (go_at_call 78; refine (keep_no a w.heap.size _).mono ?_; rintro e w1 ⟨rfl, rfl⟩)
              go_quiet (fail)
              go_wp2
              go_roundg ((l : List Int).length + (m : List Int).length)
              case measure => have := HK.out; simp at this ⊢; omega
              case rel => exact ⟨l, m, A', B', (ca - 1), (cb - 1), v, xs, by first | rfl | (simp; done), by first | rfl | (simp; done), ⟨by simpa using H3.out⟩, ⟨by simpa using H4.out⟩, ⟨by simpa using K3.out⟩, ⟨by simpa using K4.out⟩, ⟨(by (with_reducible repeat (first | refine blk_drewN ?_ _ | refine blk_drew ?_)); exact HX.out)⟩, ⟨(by (with_reducible repeat (first | apply Kd.R_drewN | apply Kd.R_drew)); exact HO.out)⟩, ⟨(by repeat (first | (with_reducible first | exact HW.out | apply pw_below_drewN | apply below_drew1) | exact HW.out))⟩, ⟨by simpa using HZ.out⟩, HE2, ⟨by first | rfl | (simp; done)⟩, ⟨by have h1 := HM.out; have h2 := HK.out; simp at h2 ⊢; omega⟩⟩
            | true =>
              have HE2 := Aside0.mk (by have := HE.out; (first | rw [mergeL_cc] at this | rw [mergeL_cn] at this | rw [mergeL_nc] at this); rw [if_neg hlt, if_neg hgt] at this; simpa [keepL] using this : (xs ++ [a]) ++ mergeL a2 true a4 l m = r)
              have HM2 := Aside0.mk (by have h1 := HM.out; have h2 := HK.out; have h3 := HLL.out; simp at h2 ⊢; omega : xs.length + 1 ≤ l0.length + l1.length ∧ xs.length < 17592186044416)
              go_wp2
              go_quiet (fail)
              go_wp2
              go_quiet (fail)
              go_wp2_with (go_at_call 78; refine (keep_yes a w.heap.size w.heap.size w _ v xs (by (with_reducible repeat (first | refine blk_drewN ?_ _ | refine blk_drew ?_)); exact HX.out) (by (with_reducible repeat (first | apply Kd.R_drewN | apply Kd.R_drew)); exact HO.out) (by repeat (first | (with_reducible first | exact HW.out | apply pw_below_drewN | apply below_drew1) | exact HW.out)) (by simpa using HZ.out) (Nat.le_refl _) HM2.out.2).mono ?_; rintro e w1 ⟨rfl, v1, hx1, ho1, hb1, hz1⟩; have HX1 := Aside0.mk hx1; have HO1 := Aside0.mk ho1; have HB1 := Aside0.mk hb1; have HZ1 := Aside0.mk hz1; clear hx1 ho1 hb1 hz1)
              go_quiet (fail)
              go_wp2
              go_roundg ((l : List Int).length + (m : List Int).length)
              case measure => have := HK.out; simp at this ⊢; omega
              case rel => exact ⟨l, m, A', B', (ca - 1), (cb - 1), v1, (xs ++ [a]), by first | rfl | (simp; done), by first | rfl | (simp; done), ⟨by simpa using H3.out⟩, ⟨by simpa using H4.out⟩, ⟨by simpa using K3.out⟩, ⟨by simpa using K4.out⟩, ⟨(by (with_reducible repeat (first | refine blk_drewN ?_ _ | refine blk_drew ?_)); exact HX1.out)⟩, ⟨(by (with_reducible repeat (first | apply Kd.R_drewN | apply Kd.R_drew)); exact HO1.out)⟩, ⟨(by repeat (first | (with_reducible first | exact HB1.out | apply pw_below_drewN | apply below_drew1) | exact HB1.out))⟩, ⟨by simpa using HZ1.out⟩, HE2, ⟨by first | rfl | (simp; done)⟩, ⟨by have h1 := HM.out; have h2 := HK.out; simp at h2 ⊢; omega⟩⟩
  · rw [if_neg hl] at h
    cases h

end Go.Proofs.Ytpmfdggbccbfaaa.Pr
