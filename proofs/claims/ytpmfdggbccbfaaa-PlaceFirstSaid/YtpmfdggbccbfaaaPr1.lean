-- Printed by a program of this session's own (wip/tools/pp.py) over the kit's print.py; Lean checks it.
import Derived.Test.YtpmfdggbccbfaaaPr0
namespace Go.Proofs.Ytpmfdggbccbfaaa.Pr
open Go.RowKit Go.Proofs.YtpmfdggbccbfaaaW.PrintWords Go.Proofs.YtpmfdggbccbfaaaW.PrintLast Go.Proofs.YtpmfdggbccbfaaaW.PrintMore
attribute [local go_sem] max2_int min2_int max_two min_two max_three min_three max_four min_four   -- for this text's walks alone
set_option linter.unusedVariables false
set_option linter.unusedSimpArgs false

/-! ### words of this session -/
def PredKd {α : Type} (P : Program) (g : Nat) (lb : Array Value) (d : Kd α) (xs : List α) (p : α → Bool) (w : World) : Prop :=
  ∀ (x : α), x ∈ xs → ∀ (W : World) (v : Value), Below w.heap.size w W → d.K W x [v] → Calls P g (#[v] ++ lb) W fun e W' => e = .returned (.bool (p x)) ∧ Below W.heap.size W W'
def idxOf {α : Type} (p : α → Bool) : List α → Int → Int
  | [], _ => -1
  | x :: l, i => if p x = true then i else idxOf p l (i + 1)
theorem idx_step {α : Type} (p : α → Bool) (xs : List α) (k : Nat) (x : α) (hx : xs[k]? = some x) : idxOf p (xs.drop k) k = if p x = true then (k : Int) else idxOf p (xs.drop (k + 1)) ((k + 1 : Nat) : Int) := by
  obtain ⟨h, e⟩ := List.getElem?_eq_some_iff.1 hx
  rw [List.drop_eq_getElem_cons h, e]
  simp [idxOf]
theorem elem_one {α : Type} {d : Kd α} (h1 : d.sz = 1) {w W : World} {A : Option Addr} {n : Nat} {xs : List α} (h : d.C w A n xs) (hb : Below w.heap.size w W) (k : Nat) (hk : k < n) :
    ∃ ad v x, A = some ad ∧ xs[k]? = some x ∧ x ∈ xs ∧ d.K w x [v] ∧ W.cell? (ad.add k) = some v := by
  obtain ⟨ad, e, hc⟩ := h.2.2 (by omega)
  have hl : k < xs.length := by have := h.1; omega
  obtain ⟨c, hs, hr, hcell⟩ := hc k _ (List.getElem?_eq_getElem hl)
  rw [h1] at hs
  obtain ⟨v, rfl⟩ : ∃ v, c = [v] := by
    match c, hs with
    | [v], _ => exact ⟨v, rfl⟩
  have h2 := hcell 0 v rfl
  rw [h1] at h2
  exact ⟨ad, v, _, e, List.getElem?_eq_getElem hl, List.getElem_mem hl, hr, pw_cell_below hb (by simpa using h2)⟩
theorem ret_int {a b : Int} (h : a = b) : Ending.returned (.int .i64 a) = .returned (.int .i64 b) := by rw [h]
theorem idx_nonneg {α : Type} (p : α → Bool) : ∀ (l : List α) (i : Int), 0 ≤ i → decide (0 ≤ idxOf p l i) = l.any p
  | [], i, _ => by simp [idxOf]
  | x :: l, i, h => by
    unfold idxOf
    by_cases hp : p x = true
    · simp [hp, h]
    · simp only [if_neg hp, List.any_cons]
      rw [idx_nonneg p l (i + 1) (by omega)]
      simp [hp]
theorem below_alloc2 {w W : World} (h : Below w.heap.size w W) (hz : w.heap.size ≤ W.heap.size) (o : Obj) : Below w.heap.size w (W.alloc o) := h.alloc hz o
theorem wrap_succ {i : Int} (h0 : -9223372036854775808 ≤ i + 1) (h1 : i < 9223372036854775807) : wrap64 (i + 1) = i + 1 := by unfold wrap64; omega
theorem wrap_id {i : Int} (h0 : -9223372036854775808 ≤ i) (h1 : i ≤ 9223372036854775807) : wrap64 i = i := by unfold wrap64; omega
theorem rd_nat (l : List Int) (k : Nat) (x : Int) (h : l[k]? = some x) : rd l (k : Int) = x := by
  unfold rd
  rw [Int.toNat_natCast, List.getD_eq_getElem?_getD, h]
  rfl
theorem C_new_one (W : World) (x : Int) (t : Nat) : (Kd.int .i64).C (W.alloc (.cells #[.int .i64 x] t (0, 0))) (some ⟨W.heap.size, 0, none⟩) 1 [x] := by
  refine ⟨rfl, by omega, fun _ => ⟨_, rfl, fun j p hj => ⟨[.int .i64 x], rfl, ?_, fun i u hu => ?_⟩⟩⟩
  · have hj0 : j = 0 := by have := (List.getElem?_eq_some_iff.1 hj).1; simp at this; exact this
    subst hj0
    have hp : x = p := by simpa using hj
    subst hp
    rfl
  · have hj0 : j = 0 := by have := (List.getElem?_eq_some_iff.1 hj).1; simp at this; exact this
    have hi0 : i = 0 := by have := (List.getElem?_eq_some_iff.1 hu).1; simp at this; exact this
    subst hj0 hi0
    have hu0 : Value.int .i64 x = u := by simpa using hu
    subst hu0
    exact (blk_cell (blk_new W _) 0).trans rfl
theorem i64_and65535 (n : Int) : Go.bits .and .i64 n 65535 = n % 65536 := by
  have hw : ∀ a : Nat, IntKind.i64.wrap (((a &&& 65535 : Nat)) : Int) = ((a % 65536 : Nat) : Int) := by
    intro a
    have h : a &&& 65535 = a % 65536 := Nat.and_two_pow_sub_one_eq_mod a 16
    rw [h, IntKind.wrap_i64]; omega
  simp only [bits, BitVec.toNat_and]
  rw [show (BitVec.ofInt (IntKind.bits .i64) 65535).toNat = 65535 from by decide]
  rw [hw, BitVec.toNat_ofInt]
  have : (IntKind.bits .i64) = 64 := rfl
  rw [this]
  omega
theorem reads_len {α : Type} {R : α → List Value → Prop} {size : Nat} {w : World} {A : Option Addr} {n m : Nat} {ps : List α} (e : n = m) (h : ReadsRow R size w A n ps) : ReadsRow R size w A m ps := e ▸ h
def risingB : List Int → Bool
  | a :: b :: l => if b ≤ a then false else risingB (b :: l)
  | _ => true
theorem rising_step (l : List Int) (k : Nat) (a b : Int) (ha : l[k]? = some a) (hb : l[k + 1]? = some b) : risingB (l.drop k) = if b ≤ a then false else risingB (l.drop (k + 1)) := by
  obtain ⟨h1, e1⟩ := List.getElem?_eq_some_iff.1 ha
  obtain ⟨h2, e2⟩ := List.getElem?_eq_some_iff.1 hb
  rw [List.drop_eq_getElem_cons h1, e1, List.drop_eq_getElem_cons h2, e2]
  simp [risingB]
theorem rising_end (l : List Int) (k : Nat) (h : l.length ≤ k + 1) : risingB (l.drop k) = true := by
  have hl : (l.drop k).length ≤ 1 := by simp; omega
  match hm : l.drop k, hl with
  | [], _ => rfl
  | [a], _ => rfl
def bs (n m : Nat) : Array Bool := ((List.range n).map fun i => m.testBit i).toArray
theorem calls_at {P : Program} {f : FuncId} {args args' : Array Value} {w : World} {Q : Ending → World → Prop} (hc : Calls P f args' w Q) (h : args = args') : Calls P f args w Q := h ▸ hc
theorem R_cap (W : World) (base e : Nat) (k : IntKind) (m : Nat) (hb : base ≤ W.heap.size) (hm : m ≤ 9223372036854775807) : (Kd.int k).R e (W.alloc (.cells (madeCells #[.int k 0] m) e)) base (fun _ => True) (.slice (some ⟨W.heap.size, 0, none⟩) 0 m) [] :=
  ⟨fun _ _ => trivial, [], by have h := own_take (own_made W base e k m hb hm) (Nat.zero_le m); rw [Nat.zero_mul, List.take_zero] at h; exact h, Reps.none _ _⟩
theorem run_cap {P : Program} (t e : TypeId) (k : IntKind) (ht : P.underlying t = some (.slice e)) (hinfo : (P.info? e).map (fun i => (i.zero, i.size, i.bytes)) = some (some (.int k 0), 1, 8)) (m : Nat) (hn : m < 17592186044416) (W : World) :
    (Instr.makeSlice t (.int .i64 0) (.int .i64 (m : Int))).run P W = .ok (.slice (some ⟨W.heap.size, 0, none⟩) 0 m) (W.alloc (.cells (madeCells #[.int k 0] m) e)) := by
  obtain ⟨i0, hi, hzz⟩ := Option.map_eq_some_iff.1 hinfo
  simp only [Prod.mk.injEq] at hzz
  obtain ⟨hz0, hz1, hz2⟩ := hzz
  have hr := run_make (P := P) W t e i0 (.int k 0) ht hi hz0 .i64 .i64 (0 : Int) (m : Int) (by omega) (by omega) (by rw [hz2]; omega) (by omega)
  simpa [hz1, Value.cells] using hr
/-! rows of rows that are handed to what writes them: their blocks -/
def SB {α : Type} (d : Kd α) (e : Nat) (w : World) (b : Nat) (ok : Nat → Prop) (k : Nat) : Prop := ok k ∧ b ≤ k ∧ k < w.heap.size ∧ ∃ q, q ∈ e :: d.E ∧ ∃ cells, w.heap[k]? = some (.cells cells q (0, 0))
theorem SB_self {α : Type} {d : Kd α} {e : Nat} {w : World} {b : Nat} {ok : Nat → Prop} {v : Value} {xs : List α} (h : Kd.S d e w b ok v xs) : Kd.S d e w b (SB d e w b ok) v xs := Kd.S_bound h
theorem SB_types {α : Type} {d : Kd α} {e q k : Nat} {w : World} {b : Nat} {ok : Nat → Prop} {cells : Array Value} (hs : SB d e w b ok k) (hc : w.heap[k]? = some (.cells cells q (0, 0))) (ht : ∀ q', q' ∈ e :: d.E → q' ≠ q) : False := by
  obtain ⟨_, _, _, q', hq', c', hc'⟩ := hs
  have h := hc'.symm.trans hc
  injection h with h
  injection h with _ h _
  exact ht q' hq' h
theorem R_sbT {α β : Type} {d : Kd α} {d' : Kd β} {e e' base b : Nat} {W : World} {ok ok' : Nat → Prop} {v : Value} {xs : List α} (h : Kd.R d e W base ok v xs) (ht : ∀ q, q ∈ e :: d.E → ∀ q', q' ∈ e' :: d'.E → q' ≠ q) : Kd.R d e W base (fun k => ok k ∧ ¬ SB d' e' W b ok' k) v xs :=
  Kd.R_mono (Kd.R_bound h) (fun k hk => ⟨hk.1, fun hs => by
    obtain ⟨_, _, _, q, hq, c, hc⟩ := hk
    exact SB_types hs hc (fun q' hq' => ht q hq q' hq')⟩)
theorem S_sbT {α β : Type} {d : Kd α} {d' : Kd β} {e e' base b : Nat} {W : World} {ok ok' : Nat → Prop} {v : Value} {xs : List α} (h : Kd.S d e W base ok v xs) (ht : ∀ q, q ∈ e :: d.E → ∀ q', q' ∈ e' :: d'.E → q' ≠ q) : Kd.S d e W base (fun k => ok k ∧ ¬ SB d' e' W b ok' k) v xs :=
  Kd.S_mono (Kd.S_bound h) (fun k hk => ⟨hk.1, fun hs => by
    obtain ⟨_, _, _, q, hq, c, hc⟩ := hk
    exact SB_types hs hc (fun q' hq' => ht q hq q' hq')⟩)
theorem R_sbR {α β : Type} {d : Kd α} {d' : Kd β} {e e' base b : Nat} {W : World} {ok ok' : Nat → Prop} {v : Value} {xs : List α} (h : Kd.R d e W base ok v xs) (hE : d.E = []) (hr : ∀ k, ok' k → some k ≠ v.ownBlock) : Kd.R d e W base (fun k => ok k ∧ ¬ SB d' e' W b ok' k) v xs :=
  Kd.R_mono (Kd.R_tight2 hE h) (fun k hk => ⟨hk.2, fun hs => hr k hs.1 hk.1⟩)

end Go.Proofs.Ytpmfdggbccbfaaa.Pr
