-- Printed by a program of this session's own (wip/tools/pp.py) over the kit's print.py; Lean checks it.
import Derived.Test.YtaodbohfhelokaaDoorPr0
namespace Go.Proofs.YtaodbohfhelokaaDoor.Pr
open Go.RowKit Go.Proofs.YtaodbohfhelokaaDoorW.PrintWords Go.Proofs.YtaodbohfhelokaaDoorW.PrintLast Go.Proofs.YtaodbohfhelokaaDoorW.PrintMore
attribute [local go_sem] max2_int min2_int max_two min_two max_three min_three max_four min_four   -- for this text's walks alone
set_option linter.unusedVariables false
set_option linter.unusedSimpArgs false

/-! ### words of this session -/
def PredKd {α : Type} (P : Program) (g : Nat) (lb : Array Value) (d : Kd α) (xs : List α) (p : α → Bool) (w : World) : Prop :=
  ∀ (x : α), x ∈ xs → ∀ (W : World) (v : Value), Below w.heap.size w W → d.K W x [v] → Calls P g (#[v] ++ lb) W fun e W' => e = .returned (.bool (p x)) ∧ Below W.heap.size W W'
def idxOf {α : Type} (p : α → Bool) : List α → Int → Int
  | [], _ => -1
  | x :: l, i => if p x = true then i else idxOf p l (i + 1)
theorem idx_step {α : Type} (p : α → Bool) (xs : List α) (k : Nat) (x : α) (hx : xs[k]? = some x) : idxOf p (xs.drop k) k = if p x = true then (k : Int) else idxOf p (xs.drop (k + 1)) ((k + 1 : Nat) : Int) := by
  obtain ⟨h, e⟩ := List.getElem?_eq_some_iff.1 hx
  rw [List.drop_eq_getElem_cons h, e]
  simp [idxOf]
theorem elem_one {α : Type} {d : Kd α} (h1 : d.sz = 1) {w W : World} {A : Option Addr} {n : Nat} {xs : List α} (h : d.C w A n xs) (hb : Below w.heap.size w W) (k : Nat) (hk : k < n) :
    ∃ ad v x, A = some ad ∧ xs[k]? = some x ∧ x ∈ xs ∧ d.K w x [v] ∧ W.cell? (ad.add k) = some v := by
  obtain ⟨ad, e, hc⟩ := h.2.2 (by omega)
  have hl : k < xs.length := by have := h.1; omega
  obtain ⟨c, hs, hr, hcell⟩ := hc k _ (List.getElem?_eq_getElem hl)
  rw [h1] at hs
  obtain ⟨v, rfl⟩ : ∃ v, c = [v] := by
    match c, hs with
    | [v], _ => exact ⟨v, rfl⟩
  have h2 := hcell 0 v rfl
  rw [h1] at h2
  exact ⟨ad, v, _, e, List.getElem?_eq_getElem hl, List.getElem_mem hl, hr, pw_cell_below hb (by simpa using h2)⟩
theorem ret_int {a b : Int} (h : a = b) : Ending.returned (.int .i64 a) = .returned (.int .i64 b) := by rw [h]
theorem idx_nonneg {α : Type} (p : α → Bool) : ∀ (l : List α) (i : Int), 0 ≤ i → decide (0 ≤ idxOf p l i) = l.any p
  | [], i, _ => by simp [idxOf]
  | x :: l, i, h => by
    unfold idxOf
    by_cases hp : p x = true
    · simp [hp, h]
    · simp only [if_neg hp, List.any_cons]
      rw [idx_nonneg p l (i + 1) (by omega)]
      simp [hp]
theorem below_alloc2 {w W : World} (h : Below w.heap.size w W) (hz : w.heap.size ≤ W.heap.size) (o : Obj) : Below w.heap.size w (W.alloc o) := h.alloc hz o
theorem wrap_succ {i : Int} (h0 : -9223372036854775808 ≤ i + 1) (h1 : i < 9223372036854775807) : wrap64 (i + 1) = i + 1 := by unfold wrap64; omega
theorem wrap_id {i : Int} (h0 : -9223372036854775808 ≤ i) (h1 : i ≤ 9223372036854775807) : wrap64 i = i := by unfold wrap64; omega
theorem rd_nat (l : List Int) (k : Nat) (x : Int) (h : l[k]? = some x) : rd l (k : Int) = x := by
  unfold rd
  rw [Int.toNat_natCast, List.getD_eq_getElem?_getD, h]
  rfl
theorem C_new_one (W : World) (x : Int) (t : Nat) : (Kd.int .i64).C (W.alloc (.cells #[.int .i64 x] t (0, 0))) (some ⟨W.heap.size, 0, none⟩) 1 [x] := by
  refine ⟨rfl, by omega, fun _ => ⟨_, rfl, fun j p hj => ⟨[.int .i64 x], rfl, ?_, fun i u hu => ?_⟩⟩⟩
  · have hj0 : j = 0 := by have := (List.getElem?_eq_some_iff.1 hj).1; simp at this; exact this
    subst hj0
    have hp : x = p := by simpa using hj
    subst hp
    rfl
  · have hj0 : j = 0 := by have := (List.getElem?_eq_some_iff.1 hj).1; simp at this; exact this
    have hi0 : i = 0 := by have := (List.getElem?_eq_some_iff.1 hu).1; simp at this; exact this
    subst hj0 hi0
    have hu0 : Value.int .i64 x = u := by simpa using hu
    subst hu0
    exact (blk_cell (blk_new W _) 0).trans rfl
theorem i64_and65535 (n : Int) : Go.bits .and .i64 n 65535 = n % 65536 := by
  have hw : ∀ a : Nat, IntKind.i64.wrap (((a &&& 65535 : Nat)) : Int) = ((a % 65536 : Nat) : Int) := by
    intro a
    have h : a &&& 65535 = a % 65536 := Nat.and_two_pow_sub_one_eq_mod a 16
    rw [h, IntKind.wrap_i64]; omega
  simp only [bits, BitVec.toNat_and]
  rw [show (BitVec.ofInt (IntKind.bits .i64) 65535).toNat = 65535 from by decide]
  rw [hw, BitVec.toNat_ofInt]
  have : (IntKind.bits .i64) = 64 := rfl
  rw [this]
  omega
theorem reads_len {α : Type} {R : α → List Value → Prop} {size : Nat} {w : World} {A : Option Addr} {n m : Nat} {ps : List α} (e : n = m) (h : ReadsRow R size w A n ps) : ReadsRow R size w A m ps := e ▸ h
def risingB : List Int → Bool
  | a :: b :: l => if b ≤ a then false else risingB (b :: l)
  | _ => true
theorem rising_step (l : List Int) (k : Nat) (a b : Int) (ha : l[k]? = some a) (hb : l[k + 1]? = some b) : risingB (l.drop k) = if b ≤ a then false else risingB (l.drop (k + 1)) := by
  obtain ⟨h1, e1⟩ := List.getElem?_eq_some_iff.1 ha
  obtain ⟨h2, e2⟩ := List.getElem?_eq_some_iff.1 hb
  rw [List.drop_eq_getElem_cons h1, e1, List.drop_eq_getElem_cons h2, e2]
  simp [risingB]
theorem rising_end (l : List Int) (k : Nat) (h : l.length ≤ k + 1) : risingB (l.drop k) = true := by
  have hl : (l.drop k).length ≤ 1 := by simp; omega
  match hm : l.drop k, hl with
  | [], _ => rfl
  | [a], _ => rfl
def bs (n m : Nat) : Array Bool := ((List.range n).map fun i => m.testBit i).toArray
theorem calls_at {P : Program} {f : FuncId} {args args' : Array Value} {w : World} {Q : Ending → World → Prop} (hc : Calls P f args' w Q) (h : args = args') : Calls P f args w Q := h ▸ hc
theorem R_cap (W : World) (base e : Nat) (k : IntKind) (m : Nat) (hb : base ≤ W.heap.size) (hm : m ≤ 9223372036854775807) : (Kd.int k).R e (W.alloc (.cells (madeCells #[.int k 0] m) e)) base (fun _ => True) (.slice (some ⟨W.heap.size, 0, none⟩) 0 m) [] :=
  ⟨fun _ _ => trivial, [], by have h := own_take (own_made W base e k m hb hm) (Nat.zero_le m); rw [Nat.zero_mul, List.take_zero] at h; exact h, Reps.none _ _⟩
theorem run_cap {P : Program} (t e : TypeId) (k : IntKind) (ht : P.underlying t = some (.slice e)) (hinfo : (P.info? e).map (fun i => (i.zero, i.size, i.bytes)) = some (some (.int k 0), 1, 8)) (m : Nat) (hn : m < 17592186044416) (W : World) :
    (Instr.makeSlice t (.int .i64 0) (.int .i64 (m : Int))).run P W = .ok (.slice (some ⟨W.heap.size, 0, none⟩) 0 m) (W.alloc (.cells (madeCells #[.int k 0] m) e)) := by
  obtain ⟨i0, hi, hzz⟩ := Option.map_eq_some_iff.1 hinfo
  simp only [Prod.mk.injEq] at hzz
  obtain ⟨hz0, hz1, hz2⟩ := hzz
  have hr := run_make (P := P) W t e i0 (.int k 0) ht hi hz0 .i64 .i64 (0 : Int) (m : Int) (by omega) (by omega) (by rw [hz2]; omega) (by omega)
  simpa [hz1, Value.cells] using hr

/-! ### graph_New: function 13 -/
def graph_New.f (a0 : Int) : Option (List Int) := if 0 ≤ (mn (mx a0 0) 40) then (if (mn (mx a0 0) 40 : Int).toNat ≤ 35184372088832 then (some (List.replicate (mn (mx a0 0) 40 : Int).toNat 0)) else (none)) else (none)
set_option maxHeartbeats 8000000 in
set_option maxRecDepth 100000 in
theorem graph_New.calls (a0 : Int) (r : List Int) (w : World) (h : graph_New.f a0 = some r) :
    Calls Tryd.prog 13 #[.int .i64 a0] w fun e w' => ∃ v0_ : Value, e = .returned (.agg #[v0_]) ∧ Kd.R (Kd.int .u64) 30 w' w.heap.size (fun _ => True) v0_ r ∧ Below w.heap.size w w' := by
  have hu25 := Tryd.underlying25
  have HB := Aside0.mk (Below.refl w.heap.size w)
  have H : (if 0 ≤ (mn (mx a0 0) 40) then (if (mn (mx a0 0) 40 : Int).toNat ≤ 35184372088832 then (some (List.replicate (mn (mx a0 0) 40 : Int).toNat 0)) else (none)) else (none)) = some r := h
  clear h
  obtain ⟨ji2, hji2⟩ : ∃ j_ : Int, (mx a0 0) = j_ := ⟨_, rfl⟩
  replace H : (if 0 ≤ (mn (ji2) 40) then (if (mn (ji2) 40 : Int).toNat ≤ 35184372088832 then (some (List.replicate (mn (ji2) 40 : Int).toNat 0)) else (none)) else (none)) = some r := by first | (rw [hji2] at H; exact H) | (simp only [hji2] at H ⊢; exact H)
  (try (have hji2l : 0 ≤ ji2 := by (rw [← hji2]; unfold mx; (repeat' split) <;> omega)))
  (try (have hji2m : 0 ≤ ji2 := by omega))
  have hji2_ : (if a0 < 0 then 0 else a0) = ji2 := hji2
  obtain ⟨ji3, hji3⟩ : ∃ j_ : Int, (mn (ji2) 40) = j_ := ⟨_, rfl⟩
  replace H : (if 0 ≤ (ji3) then (if (ji3 : Int).toNat ≤ 35184372088832 then (some (List.replicate (ji3 : Int).toNat 0)) else (none)) else (none)) = some r := by first | (rw [hji3] at H; exact H) | (simp only [hji3] at H ⊢; exact H)
  have hji3_ : (if 40 < (ji2) then 40 else (ji2)) = ji3 := hji3
  by_cases c4 : 0 ≤ (ji3)
  · rw [if_pos c4] at H
    have c4b0 := eq_true c4
    have c4b1 : decide (0 ≤ (ji3)) = true := decide_eq_true c4
    clear c4
    by_cases c5 : (ji3 : Int).toNat ≤ 35184372088832
    · rw [if_pos c5] at H
      have c5b0 := eq_true c5
      have c5b1 : decide ((ji3 : Int).toNat ≤ 35184372088832) = true := decide_eq_true c5
      clear c5
      obtain ⟨y102, hy102⟩ : ∃ y_ : List Int, y_ = (List.replicate (ji3 : Int).toNat 0) := ⟨_, rfl⟩
      replace H : (some y102) = some r := by first | (rw [hy102]; with_reducible exact H) | (have H2_ := (Option.bind_some _ _).symm.trans H; rw [hy102]; with_reducible exact H2_) | (have H2_ := (Option.bind_some _ _).symm.trans H; with_reducible exact H2_) | with_reducible exact H | (rw [hy102]; exact H) | exact H
      have Ny102 := Aside0.mk hy102
      clear hy102
      obtain rfl := Option.some.inj H
      go_enter Tryd.func13, Tryd.ntmps13
      go_wp2_with (first | ((with_reducible refine gate_dst (N := 2) rfl ?_); refine box_event ?hg (N := 2) ?hd (cs := #[.slice none 0 0]) (t := 25) ?hr ?_; (case hd => rfl); (case hg => rfl); (case hr => first | (go_simp; done) | (go_simp; rfl)); intro gb101 hg w6 hbox hb; have n0_ := Aside0.mk (below_step (by repeat (first | (with_reducible first | exact HB.out | apply below_alloc | apply pw_below_drewN | apply below_drew1) | exact HB.out)) hb); have n1_ := Aside0.mk (hbox); have n2_ := Aside0.mk ((by rw [hg]; exact (below_size (by repeat (first | (with_reducible first | exact HB.out | apply below_alloc | apply pw_below_drewN | apply below_drew1) | exact HB.out))) : w.heap.size ≤ gb101)); have n3_ := Aside0.mk ((by rw [hg]; exact (below_size (by repeat (first | (with_reducible first | exact HB.out | apply below_alloc | apply pw_below_drewN | apply below_drew1) | exact HB.out))) : w.heap.size ≤ gb101)); clear HB; have HB := n0_; have BK101 := n1_; have GW101 := n2_; have GE101 := n3_; clear n0_ n1_ n2_ n3_; clear hb hbox hg) | ((with_reducible refine gate_dst (N := 6) rfl ?_); refine Kd.R_make (Kd.int .u64) _ 30 rfl (N := 6) rfl 22 _ _ rfl ji3 rfl rfl Tryd.underlying22 (.int .u64 0) 8 info30 rfl (by decide) (by omega) 0 (ok := fun _ => True) (okp := fun _ => True) rfl (fun _ hk => hk) trivial (of_decide_eq_true (by first | (with_reducible assumption) | assumption)) (Nat.le_trans (Nat.mul_le_mul_right _ (of_decide_eq_true (by first | (with_reducible assumption) | assumption) : ji3.toNat ≤ 35184372088832)) (by omega)) (Below.refl _ _) (Nat.le_refl _) ?_; intro v103 w7 ho8 hb hg_ hnew_; clear hg_ hnew_; (first | rw [← Ny102.out] at ho8 | (simp only [Int.reduceToNat] at ho8; rw [← Ny102.out] at ho8)); have n0_ := Aside0.mk (Kd.R_lower ho8 (below_size (by repeat (first | (with_reducible first | exact HB.out | apply below_alloc | apply pw_below_drewN | apply below_drew1 | refine below_set ?_ GE101.out) | exact HB.out)))); have n1_ := Aside0.mk (blk_below (g := gb101) (o := .cells #[.slice none 0 0] 25 (0, 0)) (by (with_reducible repeat (first | refine blk_drewN ?_ _ | refine blk_drew ?_ | refine blk_alloc ?_ _)); exact BK101.out) hb); have n2_ := Aside0.mk (below_step (by repeat (first | (with_reducible first | exact HB.out | apply below_alloc | apply pw_below_drewN | apply below_drew1 | refine below_set ?_ GE101.out) | exact HB.out)) hb); clear BK101; clear HB; have HO104 := n0_; have BK101 := n1_; have HB := n2_; clear n0_ n1_ n2_; clear hb ho8; obtain ⟨Ao9, co9, eo9⟩ := Kd.R_slice HO104.out; subst eo9; have hcz10_0 : w7.cell? ⟨gb101, 0, none⟩ = some (.slice none 0 0) := (blk_cell BK101.out 0).trans rfl; have hfz10_0 := blk_frozen BK101.out 0))
      refine bodyPost_ret (results_cell_row rfl _ _ gb101 25 #[.slice Ao9 y102.length co9] (0, 0) _ rfl (by (with_reducible repeat (first | refine blk_drewN ?_ _ | refine blk_drew ?_ | refine blk_alloc ?_ _)); refine blk_put (cs := #[.slice none 0 0]) ?_ 0 _ rfl; (with_reducible repeat (first | refine blk_drewN ?_ _ | refine blk_drew ?_ | refine blk_alloc ?_ _)); exact BK101.out) Tryd.underlying25 rfl (by kernel_rfl)) rfl ?_
      exact ⟨_, by first | rfl | (simp [errW_none, errW_some] <;> rfl) | (simp only [← hji2, ← hji3]; first | rfl | (simp [errW_none, errW_some] <;> rfl)) | (simp [*, errW_none, errW_some] <;> rfl), by (with_reducible repeat (first | apply Kd.R_alloc | apply Kd.R_drewN | apply Kd.R_drew)); exact Kd.R_mono (Kd.R_far (p := ⟨gb101, 0, none⟩) (Kd.R_types HO104.out BK101.out (by decide)) (fun _ hk => hk.2) (.slice Ao9 y102.length co9)) (fun _ hk => trivial), by repeat (first | (with_reducible first | exact HB.out | apply below_alloc | apply pw_below_drewN | apply below_drew1 | refine below_set ?_ GE101.out) | exact HB.out)⟩
    · rw [if_neg c5] at H
      exact absurd H (by simp)
  · rw [if_neg c4] at H
    exact absurd H (by simp)

end Go.Proofs.YtaodbohfhelokaaDoor.Pr
