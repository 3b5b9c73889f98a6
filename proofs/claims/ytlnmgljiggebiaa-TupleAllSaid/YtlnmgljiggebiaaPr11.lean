-- Printed by a program of this session's own (wip/tools/pp.py) over the kit's print.py; Lean checks it.
import Derived.Test.YtlnmgljiggebiaaPr0
import Derived.Test.YtlnmgljiggebiaaPr1
namespace Go.Proofs.Ytlnmgljiggebiaa.Pr
open Go.RowKit Go.Proofs.YtlnmgljiggebiaaW.PrintWords Go.Proofs.YtlnmgljiggebiaaW.PrintLast Go.Proofs.YtlnmgljiggebiaaW.PrintMore
attribute [local go_sem] max2_int min2_int max_two min_two max_three min_three max_four min_four   -- for this text's walks alone
set_option linter.unusedVariables false
set_option linter.unusedSimpArgs false

-- given by hand
/-! ### tuple_Pick: function 21 -/
def pickL (t : List Int) : List Int → List Int
  | [] => []
  | p :: l => if 0 ≤ p ∧ p < (t.length : Int) then rd t p :: pickL t l else pickL t l
def tuple_Pick.f (l0 : List Int) (l1 : List Int) : Option (List Int) := if l1.length < 17592186044416 then some (pickL l0 l1) else none
theorem R_cap (W : World) (base e : Nat) (k : IntKind) (m : Nat) (hb : base ≤ W.heap.size) (hm : m ≤ 9223372036854775807) : (Kd.int k).R e (W.alloc (.cells (madeCells #[.int k 0] m) e)) base (fun _ => True) (.slice (some ⟨W.heap.size, 0, none⟩) 0 m) [] :=
  ⟨fun _ _ => trivial, [], by have h := own_take (own_made W base e k m hb hm) (Nat.zero_le m); rw [Nat.zero_mul, List.take_zero] at h; exact h, Reps.none _ _⟩
theorem run_cap {P : Program} (t e : TypeId) (k : IntKind) (ht : P.underlying t = some (.slice e)) (hinfo : (P.info? e).map (fun i => (i.zero, i.size, i.bytes)) = some (some (.int k 0), 1, 8)) (m : Nat) (hn : m < 17592186044416) (W : World) :
    (Instr.makeSlice t (.int .i64 0) (.int .i64 (m : Int))).run P W = .ok (.slice (some ⟨W.heap.size, 0, none⟩) 0 m) (W.alloc (.cells (madeCells #[.int k 0] m) e)) := by
  obtain ⟨i0, hi, hzz⟩ := Option.map_eq_some_iff.1 hinfo
  simp only [Prod.mk.injEq] at hzz
  obtain ⟨hz0, hz1, hz2⟩ := hzz
  have hr := run_make (P := P) W t e i0 (.int k 0) ht hi hz0 .i64 .i64 (0 : Int) (m : Int) (by omega) (by omega) (by rw [hz2]; omega) (by omega)
  simpa [hz1, Value.cells] using hr
set_option maxHeartbeats 8000000 in
theorem tuple_Pick.calls (A0 : Option Addr) (c0 : Nat) (l0 : List Int) (A1 : Option Addr) (c1 : Nat) (l1 : List Int) (r : List Int) (w : World) (hr0 : Kd.C (Kd.int .i64) w A0 l0.length l0) (hc0 : l0.length ≤ c0) (hr1 : Kd.C (Kd.int .i64) w A1 l1.length l1) (hc1 : l1.length ≤ c1) (h : tuple_Pick.f l0 l1 = some r) :
    Calls Try.prog 21 #[.slice A0 l0.length c0, .slice A1 l1.length c1] w fun e w' => ∃ v0_ : Value, e = .returned (v0_) ∧ Kd.R (Kd.int .i64) 3 w' w.heap.size (fun _ => True) v0_ r ∧ Below w.heap.size w w' := by
  unfold tuple_Pick.f at h
  split at h
  case isFalse => cases h
  rename_i hlen
  have HLN := Aside0.mk hlen
  have HE := Aside0.mk (Option.some.inj h)
  have HR0 := Aside0.mk hr0
  have HR1 := Aside0.mk hr1
  have hm0 := hr0.2.1
  obtain ⟨m, hm⟩ : ∃ m, m = l0.length := ⟨_, rfl⟩
  obtain ⟨n, hn⟩ : ∃ n, n = l1.length := ⟨_, rfl⟩
  rw [← hm] at hm0
  rw [← hm, ← hn] at ⊢
  have HM := Aside0.mk hm
  have HN := Aside0.mk hn
  have hnb : n < 17592186044416 := by omega
  have hmk := run_cap (P := Try.prog) 23 3 .i64 Try.underlying23 info3 n hnb
  clear hr0 hr1 hc0 hc1 h hlen hm hn
  go_enter Try.func21, Try.ntmps21
  go_wp2
  clear hmk
  go_loopg [5, 13] n (fun gg s5 s13 wr => ∃ (kk : Nat) (out : List Int), s13 = .int .i64 kk ∧ kk ≤ n ∧ Aside0 (n - kk ≤ gg) ∧ Aside0 (out.length ≤ kk) ∧ Aside0 ((Kd.int .i64).R 3 wr w.heap.size (fun _ => True) s5 out) ∧ Aside0 (Below w.heap.size w wr) ∧ Aside0 (w.heap.size ≤ wr.heap.size) ∧ Aside0 (out ++ pickL l0 (l1.drop kk) = r))
  case atStart => exact ⟨0, [], rfl, Nat.zero_le _, ⟨Nat.le_refl _⟩, ⟨Nat.le_refl _⟩, ⟨R_cap w w.heap.size 3 .i64 n (Nat.le_refl _) (by omega)⟩, ⟨below_alloc (Below.refl _ _) _⟩, ⟨by simp⟩, ⟨HE.out⟩⟩
  case round =>
    obtain ⟨kk, out, rfl, hkk, HG, HO, HR, HB, HZ, HI⟩ := hrel
    by_cases hlt : kk < n
    · have hltz : (kk : Int) < (n : Int) := by omega
      obtain ⟨ad, v, p, rfl, hp, hpm, hk, hcell⟩ := elem_one (d := Kd.int .i64) rfl HR1.out HB.out kk (by rw [← HN.out]; exact hlt)
      obtain rfl : v = .int .i64 p := by have h2 : [v] = [.int .i64 p] := hk; injection h2
      have HI2 := Aside0.mk (by have := HI.out; rw [List.drop_eq_getElem_cons (by rw [← HN.out]; exact hlt), (List.getElem?_eq_some_iff.1 hp).2] at this; exact this : out ++ pickL l0 (p :: l1.drop (kk + 1)) = r)
      clear hp hpm hk
      by_cases c1 : 0 ≤ p
      · have hd1 : decide (0 ≤ p) = true := decide_eq_true c1
        by_cases c2 : p < (m : Int)
        · have hd2 : decide (p < (m : Int)) = true := decide_eq_true c2
          have HI3 := Aside0.mk (by have := HI2.out; rw [pickL, if_pos ⟨c1, by rw [← HM.out]; exact c2⟩] at this; simpa using this : (out ++ [rd l0 p]) ++ pickL l0 (l1.drop (kk + 1)) = r)
          obtain ⟨ad0, e0, hx0⟩ := Kd.at_int HR0.out p c1 (by rw [← HM.out]; exact c2)
          subst e0
          replace hx0 := pw_cell_below HB.out hx0
          have q1 := eq_true c1
          have q2 := eq_true c2
          clear c1 c2
          go_wp2_with (at_builtin; refine Kd.R_append (Kd.int .i64) (w0 := w) w.heap.size rfl (.tmp 25) (.tmp 30) 23 3 (.int .i64 0) 8 rfl Try.underlying23 info3 rfl (by decide) (by omega) _ out (rd l0 p) [.int .i64 (rd l0 p)] (fun _ => True) (fun _ => False) rfl rfl rfl (fun _ hk => hk.elim) (fun _ _ => trivial) HR.out HB.out HZ.out (by have h1 := HO.out; omega) ?_; intro v1 w1 ho hb hg hat; have HR4 := Aside0.mk ho; have HB3 := Aside0.mk hb; have HZ3 := Aside0.mk (Nat.le_trans HZ.out hg.size); clear ho hb hg hat)
          go_roundg (n - (kk + 1))
          case measure => have := HG.out; omega
          case rel => exact ⟨kk + 1, out ++ [rd l0 p], by go_num, by omega, ⟨Nat.le_refl _⟩, ⟨by have := HO.out; simp; omega⟩, HR4, HB3, HZ3, HI3⟩
        · have hd2 : decide (p < (m : Int)) = false := decide_eq_false c2
          have HI3 := Aside0.mk (by have := HI2.out; rw [pickL, if_neg (by rw [← HM.out]; omega)] at this; exact this : out ++ pickL l0 (l1.drop (kk + 1)) = r)
          clear c1 c2
          go_wp2
          go_roundg (n - (kk + 1))
          case measure => have := HG.out; omega
          case rel => exact ⟨kk + 1, out, by go_num, by omega, ⟨Nat.le_refl _⟩, ⟨by have := HO.out; omega⟩, HR, HB, HZ, HI3⟩
      · have hd1 : decide (0 ≤ p) = false := decide_eq_false c1
        have HI3 := Aside0.mk (by have := HI2.out; rw [pickL, if_neg (by omega)] at this; exact this : out ++ pickL l0 (l1.drop (kk + 1)) = r)
        clear c1
        go_wp2
        go_roundg (n - (kk + 1))
        case measure => have := HG.out; omega
        case rel => exact ⟨kk + 1, out, by go_num, by omega, ⟨Nat.le_refl _⟩, ⟨by have := HO.out; omega⟩, HR, HB, HZ, HI3⟩
    · have hltz : ¬ (kk : Int) < (n : Int) := by omega
      have HI3 := Aside0.mk (by have := HI.out; rw [List.drop_eq_nil_of_le (by have := HN.out; omega)] at this; simpa [pickL] using this : out = r)
      go_wp2
      go_ret
      exact ⟨_, rfl, by rw [← HI3.out]; exact HR.out, HB.out⟩

end Go.Proofs.Ytlnmgljiggebiaa.Pr
