/- PlaceFirst: the first bag that a scope is within is its place; with that emptied the next one is. For all bags and scopes. -/
import Derived.Test.YtpmfdggbccbfaaaPr0
import Derived.Test.YtpmfdggbccbfaaaPr1
import Derived.Test.YtpmfdggbccbfaaaPr17
import Derived.Test.YtpmfdggbccbfaaaPr18
import Derived.Test.YtpmfdggbccbfaaaPr28
import Derived.Test.YtpmfdggbccbfaaaPr30
import Derived.Test.YtpmfdggbccbfaaaPr38
import Derived.Test.YtpmfdggbccbfaaaPr39
import Derived.Test.YtpmfdggbccbfaaaPr40
import Derived.Test.YtpmfdggbccbfaaaPr68
set_option linter.unusedVariables false
set_option linter.unusedSimpArgs false
set_option linter.unusedSectionVars false
set_option linter.unusedVariables false
namespace Go.Proofs.Ytpmfdggbccbfaaa.Pr
open Go.RowKit Go.Proofs.YtpmfdggbccbfaaaW.PrintWords Go.Proofs.YtpmfdggbccbfaaaW.PrintLast
theorem drop_at (l : List Int) (i : Nat) (h : i < l.length) : l.drop i = rd l (i : Int) :: l.drop (i + 1) := by
  rw [List.drop_eq_getElem_cons h, rd_nat l i _ (List.getElem?_eq_getElem h)]
theorem wrap_nat (i : Nat) (h : i < 9223372036854775807) : wrap64 ((i : Int) + 1) = ((i + 1 : Nat) : Int) := by rw [wrap_succ (by omega) (by omega)]; rfl
def inB (l : List Int) (v : Int) : Bool := l.any (fun x => x == v)
theorem In_loop (l : List Int) (hl : l.length ≤ 9223372036854775807) (v : Int) : ∀ d i : Nat, l.length = i + d → Ev (fun k => arboristref01_In.l0 k l v (i : Int)) (inB (l.drop i) v) := by
  intro d
  induction d with
  | zero =>
    intro i h
    refine Ev.step (f := fun _ => some (inB (l.drop i) v)) (fun k => ?_) (Ev.now _)
    simp only [arboristref01_In.l0]
    rw [if_neg (by omega), List.drop_eq_nil_of_le (by omega)]
    rfl
  | succ d ih =>
    intro i h
    have hi : i < l.length := by omega
    by_cases e : rd l (i : Int) = v
    · refine Ev.step (f := fun _ => some (inB (l.drop i) v)) (fun k => ?_) (Ev.now _)
      simp only [arboristref01_In.l0]
      rw [if_pos (by omega), if_pos (by omega), if_pos e, drop_at l i hi]
      simp [inB, e]
    · refine Ev.step (f := fun k => arboristref01_In.l0 k l v ((i + 1 : Nat) : Int)) (fun k => ?_) ?_
      · simp only [arboristref01_In.l0]
        rw [if_pos (by omega), if_pos (by omega), if_neg e, wrap_nat i (by omega)]
      · have := ih (i + 1) (by omega)
        rw [drop_at l i hi]
        have e2 : (rd l (i : Int) == v) = false := by simpa using e
        simpa [inB, e2] using this
theorem In_ev (l : List Int) (hl : l.length ≤ 9223372036854775807) (v : Int) : Ev (fun k => arboristref01_In.f k l v) (inB l v) := by
  have := In_loop l hl v l.length 0 (by omega)
  simpa [arboristref01_In.f] using this
def withoutL (a b : List Int) : List Int := a.filter (fun x => !inB b x)
theorem Without_loop (a b : List Int) (ha : a.length < 17592186044416) (hb : b.length ≤ 9223372036854775807) : ∀ (d i : Nat) (out : List Int), a.length = i + d → out.length ≤ i → Ev (fun k => arboristref01_Without.l0 k a b out (i : Int)) (out ++ withoutL (a.drop i) b) := by
  intro d
  induction d with
  | zero =>
    intro i out h ho
    refine Ev.step (f := fun _ => some (out ++ withoutL (a.drop i) b)) (fun k => ?_) (Ev.now _)
    simp only [arboristref01_Without.l0]
    rw [if_neg (by omega), List.drop_eq_nil_of_le (by omega)]
    simp [withoutL]
  | succ d ih =>
    intro i out h ho
    have hi : i < a.length := by omega
    refine Ev.step (f := fun k => (arboristref01_In.f k b (rd a (i : Int))).bind fun t => if t = true then arboristref01_Without.l0 k a b out ((i + 1 : Nat) : Int) else if out.length < 17592186044416 then arboristref01_Without.l0 k a b (out ++ [rd a (i : Int)]) ((i + 1 : Nat) : Int) else none) (fun k => ?_) ?_
    · simp only [arboristref01_Without.l0]
      rw [if_pos (by omega), if_pos (by omega), wrap_nat i (by omega)]
    · refine Ev.bind (In_ev b hb _) ?_
      rw [drop_at a i hi]
      cases hc : inB b (rd a (i : Int)) with
      | true =>
        have := ih (i + 1) out (by omega) (by omega)
        simpa [withoutL, hc] using this
      | false =>
        have := ih (i + 1) (out ++ [rd a (i : Int)]) (by omega) (by simp; omega)
        have hlt : out.length < 17592186044416 := by omega
        simpa [withoutL, hc, hlt] using this
theorem Without_ev (a b : List Int) (ha : a.length < 17592186044416) (hb : b.length ≤ 9223372036854775807) : Ev (fun k => arboristref01_Without.f k a b) (withoutL a b) := by
  have := Without_loop a b ha hb a.length 0 [] (by omega) (by simp)
  simpa [arboristref01_Without.f] using this
def withinR (a b : List Int) : Bool := ((withoutL a b).length : Int) == 0
theorem Within_ev (a b : List Int) (ha : a.length < 17592186044416) (hb : b.length ≤ 9223372036854775807) : Ev (fun k => arboristref01_Within.f k a b) (withinR a b) := by
  refine Ev.congr (f := fun k => (arboristref01_Without.f k a b).bind fun t => some ((t.length : Int) == 0)) (fun k => rfl) ?_
  exact Ev.bind (f := fun _ (t : List Int) => some ((t.length : Int) == 0)) (Without_ev a b ha hb) (Ev.now _)
theorem withinR_iff (a b : List Int) : withinR a b = true ↔ ∀ x ∈ a, x ∈ b := by
  unfold withinR withoutL
  simp only [beq_iff_eq]
  constructor
  · intro h x hx
    have h2 : (a.filter (fun x => !inB b x)) = [] := List.eq_nil_of_length_eq_zero (by omega)
    have := List.filter_eq_nil_iff.1 h2 x hx
    simp [inB] at this
    exact this
  · intro h
    have : (a.filter (fun x => !inB b x)) = [] := List.filter_eq_nil_iff.2 (fun x hx => by simp [inB]; exact h x hx)
    simp [this]
def uniteL : List Int → List Int → List Int
  | [], r => r
  | a :: l, [] => a :: l
  | a :: l, m :: r => if a < m then a :: uniteL l (m :: r) else m :: uniteL (a :: l) r
termination_by a b => a.length + b.length
theorem uniteL_nil (a : List Int) : uniteL a [] = a := by cases a <;> simp [uniteL]
theorem Unite_loop (a m : List Int) (hl : a.length + m.length < 17592186044416) : ∀ (d i j : Nat) (out : List Int), a.length + m.length = i + j + d → i ≤ a.length → j ≤ m.length → out.length ≤ i + j → Ev (fun k => arboristref01_Unite.l0 k a out m (i : Int) (j : Int)) (out ++ uniteL (a.drop i) (m.drop j)) := by
  intro d
  induction d with
  | zero =>
    intro i j out h hi hj ho
    refine Ev.step (f := fun k => arboristref01_Unite.j1 k a out m (i : Int) (j : Int) false) (fun k => ?_) ?_
    · simp only [arboristref01_Unite.l0]
      rw [if_neg (by omega), show decide ((j : Int) < (m.length : Int)) = false from decide_eq_false (by omega)]
    · refine Ev.step (f := fun _ => some (out ++ uniteL (a.drop i) (m.drop j))) (fun k => ?_) (Ev.now _)
      simp only [arboristref01_Unite.j1]
      rw [if_neg (by simp), show a.drop i = [] from List.drop_eq_nil_of_le (by omega), show m.drop j = [] from List.drop_eq_nil_of_le (by omega)]
      simp [uniteL]
  | succ d ih =>
    intro i j out h hi hj ho
    refine Ev.step (f := fun k => arboristref01_Unite.j1 k a out m (i : Int) (j : Int) true) (fun k => ?_) ?_
    · simp only [arboristref01_Unite.l0]
      by_cases h1 : i < a.length
      · rw [if_pos (by omega)]
      · rw [if_neg (by omega), show decide ((j : Int) < (m.length : Int)) = true from decide_eq_true (by omega)]
    · have hlt : out.length < 17592186044416 := by omega
      have left : i < a.length → (j = m.length ∨ (j < m.length ∧ rd a (i : Int) < rd m (j : Int))) → Ev (fun k => arboristref01_Unite.l0 k a (out ++ [rd a (i : Int)]) m ((i + 1 : Nat) : Int) (j : Int)) (out ++ uniteL (a.drop i) (m.drop j)) := by
        intro h1 h2
        have := ih (i + 1) j (out ++ [rd a (i : Int)]) (by omega) (by omega) hj (by simp; omega)
        rw [drop_at a i h1]
        rcases h2 with h2 | ⟨h2, h3⟩
        · rw [show m.drop j = [] from List.drop_eq_nil_of_le (by omega)] at this ⊢
          simpa [uniteL, uniteL_nil] using this
        · rw [drop_at m j h2] at this ⊢
          rw [uniteL, if_pos h3]
          simpa using this
      have right : j < m.length → (i = a.length ∨ (i < a.length ∧ ¬ rd a (i : Int) < rd m (j : Int))) → Ev (fun k => arboristref01_Unite.l0 k a (out ++ [rd m (j : Int)]) m (i : Int) ((j + 1 : Nat) : Int)) (out ++ uniteL (a.drop i) (m.drop j)) := by
        intro h1 h2
        have := ih i (j + 1) (out ++ [rd m (j : Int)]) (by omega) hi (by omega) (by simp; omega)
        rw [drop_at m j h1]
        rcases h2 with h2 | ⟨h2, h3⟩
        · rw [show a.drop i = [] from List.drop_eq_nil_of_le (by omega)] at this ⊢
          simpa [uniteL] using this
        · rw [drop_at a i h2] at this ⊢
          rw [uniteL, if_neg h3]
          simpa using this
      by_cases h1 : j = m.length
      · refine Ev.step (f := fun k => arboristref01_Unite.l0 k a (out ++ [rd a (i : Int)]) m ((i + 1 : Nat) : Int) (j : Int)) (fun k => ?_) (left (by omega) (.inl h1))
        simp only [arboristref01_Unite.j1]
        rw [if_pos trivial, if_pos (by omega), if_pos (by omega), if_pos (by omega), if_pos hlt, wrap_nat i (by omega)]
      · by_cases h2 : i < a.length
        · by_cases h3 : rd a (i : Int) < rd m (j : Int)
          · refine Ev.step (f := fun k => arboristref01_Unite.l0 k a (out ++ [rd a (i : Int)]) m ((i + 1 : Nat) : Int) (j : Int)) (fun k => ?_) (left h2 (.inr ⟨by omega, h3⟩))
            simp only [arboristref01_Unite.j1]
            rw [if_pos trivial, if_neg (by omega), if_pos (by omega), if_pos (by omega), if_pos (by omega), if_pos (by omega), if_pos h3, if_pos hlt, wrap_nat i (by omega)]
          · refine Ev.step (f := fun k => arboristref01_Unite.l0 k a (out ++ [rd m (j : Int)]) m (i : Int) ((j + 1 : Nat) : Int)) (fun k => ?_) (right (by omega) (.inr ⟨h2, h3⟩))
            simp only [arboristref01_Unite.j1]
            rw [if_pos trivial, if_neg (by omega), if_pos (by omega), if_pos (by omega), if_pos (by omega), if_pos (by omega), if_neg h3, if_pos hlt, wrap_nat j (by omega)]
        · refine Ev.step (f := fun k => arboristref01_Unite.l0 k a (out ++ [rd m (j : Int)]) m (i : Int) ((j + 1 : Nat) : Int)) (fun k => ?_) (right (by omega) (.inl (by omega)))
          simp only [arboristref01_Unite.j1]
          rw [if_pos trivial, if_neg (by omega), if_neg (by omega), if_pos (by omega), if_pos (by omega), if_pos hlt, wrap_nat j (by omega)]
theorem withoutL_len (a b : List Int) : (withoutL a b).length ≤ a.length := List.length_filter_le _ _
theorem Unite_ev (a b : List Int) (h : a.length + b.length < 17592186044416) : Ev (fun k => arboristref01_Unite.f k a b) (uniteL a (withoutL b a)) := by
  refine Ev.congr (f := fun k => (arboristref01_Without.f k b a).bind fun t => arboristref01_Unite.l0 k a ([] : List Int) t 0 0) (fun k => rfl) ?_
  have hw := withoutL_len b a
  refine Ev.bind (f := fun k (t : List Int) => arboristref01_Unite.l0 k a ([] : List Int) t 0 0) (Without_ev b a (by omega) (by omega)) ?_
  have := Unite_loop a (withoutL b a) (by omega) (a.length + (withoutL b a).length) 0 0 [] (by omega) (by omega) (by omega) (by simp)
  simpa using this
end Go.Proofs.Ytpmfdggbccbfaaa.Pr
set_option linter.unusedVariables false
set_option linter.unusedSimpArgs false
namespace Go.Proofs.Ytpmfdggbccbfaaa.PostL
def Ahead (par : List Int) : Prop := ∀ k : Nat, k < par.length → (k = 0 → par.getD k 0 = -1) ∧ (0 < k → 0 ≤ par.getD k 0 ∧ par.getD k 0 < k)
end Go.Proofs.Ytpmfdggbccbfaaa.PostL
set_option linter.unusedVariables false
namespace Go.Proofs.Ytpmfdggbccbfaaa.Pr
open Go.RowKit Go.Proofs.YtpmfdggbccbfaaaW.PrintWords Go.Proofs.YtpmfdggbccbfaaaW.PrintLast Go.Proofs.Ytpmfdggbccbfaaa.PostL
theorem uniteL_length (a m : List Int) : (uniteL a m).length = a.length + m.length := by
  fun_induction uniteL a m <;> simp_all <;> omega
def GoodT (bags : List (List Int)) (par : List Int) : Prop := bags.length = par.length ∧ par.length ≤ 10 ∧ Ahead par ∧ ∀ b ∈ bags, b.length ≤ 6
theorem ahead_snoc {par : List Int} {p : Int} (h : Ahead par) (h0 : par.length = 0 → p = -1) (h1 : 0 < par.length → 0 ≤ p ∧ p < par.length) : Ahead (par ++ [p]) := by
  intro k hk
  simp only [List.length_append, List.length_singleton] at hk
  by_cases e : k < par.length
  · have e2 : (par ++ [p]).getD k 0 = par.getD k 0 := by simp [List.getD_eq_getElem?_getD, List.getElem?_append_left e]
    rw [e2]; exact h k e
  · have e3 : k = par.length := by omega
    subst e3
    have e2 : (par ++ [p]).getD par.length 0 = p := by simp [List.getD_eq_getElem?_getD]
    rw [e2]
    exact ⟨h0, h1⟩
end Go.Proofs.Ytpmfdggbccbfaaa.Pr
set_option linter.unusedVariables false
set_option linter.unusedSimpArgs false
namespace Go.Proofs.Ytpmfdggbccbfaaa.Pr
open Go.RowKit Go.Proofs.YtpmfdggbccbfaaaW.PrintWords Go.Proofs.YtpmfdggbccbfaaaW.PrintLast Go.Proofs.Ytpmfdggbccbfaaa.PostL
theorem inB_cons (z : Int) (m : List Int) (x : Int) : inB (z :: m) x = (z == x || inB m x) := rfl
theorem uniteL_mem (a m : List Int) (x : Int) : x ∈ uniteL a m ↔ x ∈ a ∨ x ∈ m := by
  fun_induction uniteL a m with
  | case1 r => simp
  | case2 a l => simp
  | case3 a l m r h ih => simp only [List.mem_cons, ih]; clear h; grind
  | case4 a l m r h ih => simp only [List.mem_cons, ih]; clear h; grind
theorem uniteL_rise (a m : List Int) : a.Pairwise (· < ·) → m.Pairwise (· < ·) → (∀ x ∈ m, x ∉ a) → (uniteL a m).Pairwise (· < ·) := by
  fun_induction uniteL a m with
  | case1 r => intro _ h _; exact h
  | case2 a l => intro h _ _; exact h
  | case3 a l m r h ih =>
    intro ha hb hd
    obtain ⟨ha1, ha2⟩ := List.pairwise_cons.1 ha
    obtain ⟨hb1, hb2⟩ := List.pairwise_cons.1 hb
    refine List.pairwise_cons.2 ⟨fun x hx => ?_, ih ha2 hb (fun x hx hc => hd x hx (List.mem_cons_of_mem _ hc))⟩
    rcases (uniteL_mem _ _ _).1 hx with hx | hx
    · exact ha1 x hx
    · rcases List.mem_cons.1 hx with rfl | hx
      · exact h
      · have := hb1 x hx; omega
  | case4 a l m r h ih =>
    intro ha hb hd
    obtain ⟨ha1, ha2⟩ := List.pairwise_cons.1 ha
    obtain ⟨hb1, hb2⟩ := List.pairwise_cons.1 hb
    have hne : m ≠ a := fun e => hd m (by simp) (by simp [e])
    refine List.pairwise_cons.2 ⟨fun x hx => ?_, ih ha hb2 (fun x hx => hd x (List.mem_cons_of_mem _ hx))⟩
    rcases (uniteL_mem _ _ _).1 hx with hx | hx
    · rcases List.mem_cons.1 hx with rfl | hx
      · omega
      · have := ha1 x hx; omega
    · exact hb1 x hx
def GoodU (bags : List (List Int)) (par : List Int) : Prop := bags.length = par.length ∧ par.length ≤ 10 ∧ Ahead par ∧ ∀ b ∈ bags, b.length ≤ 6 ∧ b.Pairwise (· < ·)
theorem GoodU.T {B : List (List Int)} {P : List Int} (h : GoodU B P) : GoodT B P := ⟨h.1, h.2.1, h.2.2.1, fun b hb => (h.2.2.2 b hb).1⟩
theorem unite_one (b : List Int) (v : Int) (h : b.Pairwise (· < ·)) : (uniteL b (withoutL [v] b)).Pairwise (· < ·) := by
  refine uniteL_rise _ _ h ?_ ?_
  · exact List.Pairwise.sublist List.filter_sublist (List.pairwise_singleton _ _)
  · intro x hx hc
    have h2 := (List.mem_filter.1 hx).2
    have : inB b x = true := by
      unfold inB
      rw [List.any_eq_true]
      exact ⟨x, hc, by simp⟩
    rw [this] at h2
    simp at h2
theorem shapeU_l1 (x0 : List Int) (x1 : List (List Int)) (i : Int) (hi0 : 0 ≤ i) (hi1 : i < (x1.length : Int)) (B : List (List Int)) (P : List Int) : ∀ (d k : Nat) (b : List Int), k + d = 6 → b.length ≤ k → b.Pairwise (· < ·) → ∃ b' : List Int, (b'.length ≤ 6 ∧ b'.Pairwise (· < ·)) ∧ ∀ r, Ev (fun n => arboristlaw13_shape.j3 n x0 x1 i b' B P) r → Ev (fun n => arboristlaw13_shape.l1 n x0 x1 i b (k : Int) B P) r := by
  intro d
  induction d with
  | zero =>
    intro k b hk hb hr0
    refine ⟨b, ⟨by omega, hr0⟩, fun r hr => Ev.step (fun n => ?_) hr⟩
    simp only [arboristlaw13_shape.l1]
    rw [if_pos hi0, if_pos hi1]
    by_cases e : (k : Int) < ((rd_L1 x1 i).length : Int)
    · rw [if_pos e, if_neg (by omega)]
    · rw [if_neg e]
  | succ d ih =>
    intro k b hk hb hr0
    by_cases e : (k : Int) < ((rd_L1 x1 i).length : Int)
    · generalize hv : Go.bits .and .i64 (rd (rd_L1 x1 i) (k : Int)) 15 = v
      have hu : Ev (fun n => arboristref01_Unite.f n b [v]) (uniteL b (withoutL [v] b)) := Unite_ev b _ (by simp; omega)
      have hw := withoutL_len [v] b
      simp only [List.length_singleton] at hw
      obtain ⟨b', h1, h2⟩ := ih (k + 1) (uniteL b (withoutL [v] b)) (by omega) (by rw [uniteL_length]; omega) (unite_one b v hr0)
      refine ⟨b', h1, fun r hr => Ev.step (f := fun n => (arboristref01_Unite.f n b [v]).bind fun t => arboristlaw13_shape.l1 n x0 x1 i t ((k + 1 : Nat) : Int) B P) (fun n => ?_) (Ev.bind (f := fun n t => arboristlaw13_shape.l1 n x0 x1 i t ((k + 1 : Nat) : Int) B P) hu (h2 r hr))⟩
      simp only [arboristlaw13_shape.l1]
      rw [if_pos hi0, if_pos hi1, if_pos e, if_pos (by omega), if_pos (by omega), wrap_nat k (by omega), hv]
    · refine ⟨b, ⟨by omega, hr0⟩, fun r hr => Ev.step (fun n => ?_) hr⟩
      simp only [arboristlaw13_shape.l1]
      rw [if_pos hi0, if_pos hi1, if_neg e]
theorem shapeU_l0 (x0 : List Int) (x1 : List (List Int)) : ∀ (d : Nat) (B : List (List Int)) (P : List Int), B.length + d = 10 → GoodU B P → ∃ B' P', GoodU B' P' ∧ Ev (fun n => arboristlaw13_shape.l0 n x0 x1 (B.length : Int) B P) (B', P') := by
  intro d
  induction d with
  | zero =>
    intro B P hd hg
    refine ⟨B, P, hg, ?_⟩
    refine Ev.step (f := fun n => arboristlaw13_shape.j1 n x0 x1 (B.length : Int) false B P) (fun n => ?_) (Ev.step (f := fun _ => some (B, P)) (fun n => ?_) (Ev.now _))
    · simp only [arboristlaw13_shape.l0]
      by_cases e : (B.length : Int) < (x1.length : Int)
      · rw [if_pos e, show decide ((B.length : Int) < 10) = false from decide_eq_false (by omega)]
      · rw [if_neg e]
    · simp only [arboristlaw13_shape.j1]; rw [if_neg (by simp)]
  | succ d ih =>
    intro B P hd hg
    obtain ⟨g1, g2, g3, g4⟩ := hg
    by_cases e : (B.length : Int) < (x1.length : Int)
    · obtain ⟨b', hb, hl⟩ := shapeU_l1 x0 x1 (B.length : Int) (by omega) e B P 6 0 [] (by omega) (by simp) List.Pairwise.nil
      have go : ∀ p : Int, (P.length = 0 → p = -1) → (0 < P.length → 0 ≤ p ∧ p < P.length) → ∃ B' P', GoodU B' P' ∧ Ev (fun n => arboristlaw13_shape.l0 n x0 x1 ((B.length + 1 : Nat) : Int) (B ++ [b']) (P ++ [p])) (B', P') := by
        intro p h0 h1
        have := ih (B ++ [b']) (P ++ [p]) (by simp; omega) ⟨by simp [g1], by simp; omega, ahead_snoc g3 h0 h1, by
          intro b hb2
          simp only [List.mem_append, List.mem_singleton] at hb2
          rcases hb2 with hb2 | rfl
          · exact g4 b hb2
          · exact hb⟩
        rw [show (B ++ [b']).length = B.length + 1 by simp] at this
        exact this
      have pre : ∀ r, Ev (fun n => arboristlaw13_shape.j3 n x0 x1 (B.length : Int) b' B P) r → Ev (fun n => arboristlaw13_shape.l0 n x0 x1 (B.length : Int) B P) r := by
        intro r h
        refine Ev.step (f := fun n => arboristlaw13_shape.j1 n x0 x1 (B.length : Int) true B P) (fun n => ?_) (Ev.step (f := fun n => arboristlaw13_shape.l1 n x0 x1 (B.length : Int) [] 0 B P) (fun n => ?_) (hl r h))
        · simp only [arboristlaw13_shape.l0]
          rw [if_pos e, show decide ((B.length : Int) < 10) = true from decide_eq_true (by omega)]
        · simp only [arboristlaw13_shape.j1]; rw [if_pos trivial]
      by_cases z : B.length = 0
      · obtain ⟨B', P', g, h⟩ := go (-1) (fun _ => rfl) (by omega)
        refine ⟨B', P', g, pre _ (Ev.step (fun n => ?_) h)⟩
        simp only [arboristlaw13_shape.j3]
        rw [if_neg (by omega), if_pos (by omega), if_pos (by omega), wrap_nat _ (by omega)]
      · by_cases y : (B.length : Int) < (x0.length : Int)
        · obtain ⟨B', P', g, h⟩ := go (Int.tmod (Go.bits .and .i64 (rd x0 (B.length : Int)) 65535) (B.length : Int)) (by omega) (fun _ => by
            rw [i64_and65535, Int.tmod_eq_emod_of_nonneg (by omega), ← g1]
            exact ⟨Int.emod_nonneg _ (by omega), Int.emod_lt_of_pos _ (by omega)⟩)
          refine ⟨B', P', g, pre _ (Ev.step (fun n => ?_) h)⟩
          simp only [arboristlaw13_shape.j3]
          rw [if_pos (by omega), if_pos y, if_pos (by omega), if_neg (by omega), if_pos (by omega), if_pos (by omega), wrap_nat _ (by omega)]
        · obtain ⟨B', P', g, h⟩ := go 0 (by omega) (by omega)
          refine ⟨B', P', g, pre _ (Ev.step (fun n => ?_) h)⟩
          simp only [arboristlaw13_shape.j3]
          rw [if_pos (by omega), if_neg y, if_pos (by omega), if_pos (by omega), wrap_nat _ (by omega)]
    · refine ⟨B, P, ⟨g1, g2, g3, g4⟩, ?_⟩
      refine Ev.step (f := fun n => arboristlaw13_shape.j1 n x0 x1 (B.length : Int) false B P) (fun n => ?_) (Ev.step (f := fun _ => some (B, P)) (fun n => ?_) (Ev.now _))
      · simp only [arboristlaw13_shape.l0]
        rw [if_neg e]
      · simp only [arboristlaw13_shape.j1]; rw [if_neg (by simp)]
theorem shapeU_ev (x0 : List Int) (x1 : List (List Int)) : ∃ B P, GoodU B P ∧ Ev (fun n => arboristlaw13_shape.f n x0 x1) (B, P) :=
  shapeU_l0 x0 x1 10 [] [] rfl ⟨rfl, by simp, by intro k hk; simp at hk, by simp⟩
theorem merge_without : ∀ (n : Nat) (a b : List Int), a.length + b.length = n → a.Pairwise (· < ·) → b.Pairwise (· < ·) → mergeL true false false a b = withoutL a b := by
  intro n
  induction n using Nat.strongRecOn with
  | _ n ih =>
    intro a b h ha hb
    match a, b with
    | [], [] => simp [mergeL_nn, withoutL]
    | y :: l, [] =>
      rw [mergeL_cn]
      have := ih l.length (by simp at h; omega) l [] (by simp) (List.pairwise_cons.1 ha).2 hb
      simpa [keepL, withoutL, inB] using this
    | [], z :: m =>
      rw [mergeL_nc]
      have := ih m.length (by simp at h; omega) [] m (by simp) ha (List.pairwise_cons.1 hb).2
      simpa [keepL, withoutL] using this
    | y :: l, z :: m =>
      rw [mergeL_cc]
      obtain ⟨ha1, ha2⟩ := List.pairwise_cons.1 ha
      obtain ⟨hb1, hb2⟩ := List.pairwise_cons.1 hb
      have not_in : ∀ (r : List Int) (x : Int), (∀ w ∈ r, x < w) → inB r x = false := by
        intro r x hr
        unfold inB
        rw [List.any_eq_false]
        intro w hw e
        have e2 : w = x := by simpa using e
        have := hr w hw
        omega
      by_cases h1 : y < z
      · rw [if_pos h1]
        have := ih (l.length + (m.length + 1)) (by simp at h; omega) l (z :: m) (by simp) ha2 hb
        have e : inB (z :: m) y = false := not_in _ _ (by
          intro w hw
          rcases List.mem_cons.1 hw with rfl | hw
          · exact h1
          · have := hb1 w hw; omega)
        simp only [keepL, withoutL, List.filter_cons, e] at this ⊢
        simpa using this
      · rw [if_neg h1]
        by_cases h2 : z < y
        · rw [if_pos h2]
          have := ih (l.length + 1 + m.length) (by simp at h; omega) (y :: l) m (by simp) ha hb2
          have e : withoutL (y :: l) (z :: m) = withoutL (y :: l) m := by
            unfold withoutL
            apply List.filter_congr
            intro w hw
            rw [inB_cons]
            have : (z == w) = false := by
              rcases List.mem_cons.1 hw with rfl | hw
              · simpa using (by omega : ¬ z = w)
              · have := ha1 w hw
                simpa using (by omega : ¬ z = w)
            rw [this, Bool.false_or]
          rw [e]
          simpa [keepL] using this
        · rw [if_neg h2]
          have e : y = z := by omega
          subst e
          have := ih (l.length + m.length) (by simp at h; omega) l m rfl ha2 hb2
          have e2 : withoutL (y :: l) (y :: m) = withoutL l m := by
            unfold withoutL
            rw [List.filter_cons, if_neg (by rw [inB_cons]; simp)]
            apply List.filter_congr
            intro w hw
            rw [inB_cons]
            have h3 := ha1 w hw
            have : (y == w) = false := by simpa using (by omega : ¬ y = w)
            rw [this, Bool.false_or]
          rw [e2]
          simpa [keepL] using this
end Go.Proofs.Ytpmfdggbccbfaaa.Pr
namespace Go.Proofs.Ytpmfdggbccbfaaa.Pr
open Go.RowKit Go.Proofs.YtpmfdggbccbfaaaW.PrintWords Go.Proofs.YtpmfdggbccbfaaaW.PrintLast
theorem evs0 {ρ : Type} {F : Nat → Option ρ} {r : ρ} (H : ∀ k, F (k + 1) = some r) : Ev F r := ⟨1, fun k hk => by obtain ⟨m, rfl⟩ : ∃ m, k = m + 1 := ⟨k - 1, by omega⟩; exact H m⟩
theorem evs1 {ρ : Type} {F : Nat → Option ρ} {r : ρ} {α1 : Type} {g1 : Nat → Option α1} {a1 : α1} (h1 : Ev g1 a1) (H : ∀ k, g1 k = some a1 → F (k + 1) = some r) : Ev F r := by
  obtain ⟨K1, e1⟩ := h1
  refine ⟨K1 + 1, fun k hk => ?_⟩
  obtain ⟨m, rfl⟩ : ∃ m, k = m + 1 := ⟨k - 1, by omega⟩
  exact H m (e1 _ (by omega))
theorem evs2 {ρ : Type} {F : Nat → Option ρ} {r : ρ} {α1 : Type} {g1 : Nat → Option α1} {a1 : α1} {α2 : Type} {g2 : Nat → Option α2} {a2 : α2} (h1 : Ev g1 a1) (h2 : Ev g2 a2) (H : ∀ k, g1 k = some a1 → g2 k = some a2 → F (k + 1) = some r) : Ev F r := by
  obtain ⟨K1, e1⟩ := h1; obtain ⟨K2, e2⟩ := h2
  refine ⟨K1 + K2 + 1, fun k hk => ?_⟩
  obtain ⟨m, rfl⟩ : ∃ m, k = m + 1 := ⟨k - 1, by omega⟩
  exact H m (e1 _ (by omega)) (e2 _ (by omega))
theorem evu4 {ρ : Type} {F : Nat → Option ρ} {r : ρ} {α1 : Type} {g1 : Nat → Option α1} {a1 : α1} {α2 : Type} {g2 : Nat → Option α2} {a2 : α2} {α3 : Type} {g3 : Nat → Option α3} {a3 : α3} {α4 : Type} {g4 : Nat → Option α4} {a4 : α4} (h1 : Ev g1 a1) (h2 : Ev g2 a2) (h3 : Ev g3 a3) (h4 : Ev g4 a4) (H : ∀ k, g1 k = some a1 → g2 k = some a2 → g3 k = some a3 → g4 k = some a4 → F k = some r) : Ev F r := by
  obtain ⟨K1, e1⟩ := h1; obtain ⟨K2, e2⟩ := h2; obtain ⟨K3, e3⟩ := h3; obtain ⟨K4, e4⟩ := h4
  exact ⟨K1 + K2 + K3 + K4, fun k hk => H k (e1 _ (by omega)) (e2 _ (by omega)) (e3 _ (by omega)) (e4 _ (by omega))⟩
end Go.Proofs.Ytpmfdggbccbfaaa.Pr
set_option linter.unusedVariables false
set_option linter.unusedSimpArgs false
namespace Go.Proofs.Ytpmfdggbccbfaaa.Pure
open Go.RowKit Go.Proofs.Ytpmfdggbccbfaaa.Pr Go.Proofs.YtpmfdggbccbfaaaW.PrintWords Go.Proofs.YtpmfdggbccbfaaaW.PrintLast Go.Proofs.Ytpmfdggbccbfaaa.PostL
theorem first_shown : arboristlaw13_shown.f 60 = some true := by decide +kernel
def Rise6 (B : List (List Int)) : Prop := ∀ b ∈ B, b.length ≤ 6 ∧ b.Pairwise (· < ·)
theorem shape_one (l : List Int) : ∃ b : List Int, (b.length ≤ 6 ∧ b.Pairwise (· < ·)) ∧ Ev (fun n => arboristlaw13_shape.f n [] [l]) ([b], [-1]) := by
  obtain ⟨b', hb, hl⟩ := shapeU_l1 [] [l] 0 (by omega) (by simp) [] [] 6 0 [] (by omega) (by simp) List.Pairwise.nil
  refine ⟨b', hb, ?_⟩
  refine Ev.congr (f := fun n => arboristlaw13_shape.l0 n [] [l] 0 [] []) (fun k => rfl) ?_
  have h1 : Ev (fun n => arboristlaw13_shape.j1 n [] [l] 1 false [b'] [-1]) ([b'], [-1]) := evs0 (fun k => by rw [arboristlaw13_shape.j1, if_neg (fun h => Bool.noConfusion h)])
  have h2 : Ev (fun n => arboristlaw13_shape.l0 n [] [l] 1 [b'] [-1]) ([b'], [-1]) := evs1 h1 (fun k q => by rw [arboristlaw13_shape.l0, if_neg (by simp)]; exact q)
  have h3 : Ev (fun n => arboristlaw13_shape.j3 n [] [l] 0 b' [] []) ([b'], [-1]) := evs1 h2 (fun k q => by
    rw [arboristlaw13_shape.j3, if_neg (by omega), if_pos (by simp), if_pos (by simp), show wrap64 (0 + 1) = 1 from wrap_nat 0 (by omega)]
    exact q)
  have h5 : Ev (fun n => arboristlaw13_shape.j1 n [] [l] 0 true [] []) ([b'], [-1]) := evs1 (hl _ h3) (fun k q => by rw [arboristlaw13_shape.j1, if_pos rfl]; exact q)
  exact evs1 h5 (fun k q => by rw [arboristlaw13_shape.l0, if_pos (by simp), decide_eq_true (by omega)]; exact q)
theorem within13 {a b : List Int} (ha : a.Pairwise (· < ·)) (hb : b.Pairwise (· < ·)) : withinB a b = withinR a b := by
  unfold withinB withinR
  rw [merge_without _ a b rfl ha hb]
theorem rd13 (B : List (List Int)) (i : Nat) (h : i < B.length) : rd_L1 B (i : Int) = B[i] := by
  unfold rd_L1
  rw [Int.toNat_natCast]
  simp [h]
theorem pf_l1 (s : List Int) (hs : s.length ≤ 6 ∧ s.Pairwise (· < ·)) (last T : Int) (p : List Int) (e : Int) (B : List (List Int)) (P : List Int) (hB : B.length ≤ 10) (hg : Rise6 B)
    (H : ∀ i' : Int, Ev (fun k => arboristlaw13_PlaceFirst.j2 k true s last T p e (idxOf (withinB s) B 0) i' false B P) true) : ∀ (d i : Nat), i + d = B.length → idxOf (withinB s) B 0 = idxOf (withinB s) (B.drop i) (i : Int) → Ev (fun k => arboristlaw13_PlaceFirst.l1 k true s last T p e (-1) (i : Int) B P) true
  | 0, i, h, he => by
    rw [List.drop_eq_nil_of_le (by omega)] at he
    have H := H (i : Int)
    rw [he] at H
    refine evs1 H (fun k q => ?_)
    rw [arboristlaw13_PlaceFirst.l1, if_neg (by omega)]
    exact q
  | d + 1, i, h, he => by
    have hi : i < B.length := by omega
    have hb := hg _ (List.getElem_mem hi)
    have hw := Within_ev s B[i] (by omega) (by omega)
    rw [← within13 hs.2 hb.2] at hw
    rw [idx_step (withinB s) B i B[i] (List.getElem?_eq_getElem hi)] at he
    by_cases c : withinB s B[i] = true
    · rw [if_pos c] at he
      rw [c] at hw
      have hout : Ev (fun k => arboristlaw13_PlaceFirst.l1 k true s last T p e (i : Int) ((i + 1 : Nat) : Int) B P) true := by
        have H := H ((i + 1 : Nat) : Int)
        rw [he] at H
        refine evs1 H (fun k q => ?_)
        rw [arboristlaw13_PlaceFirst.l1, decide_eq_false (show ¬ (i : Int) < 0 by omega)]
        split <;> exact q
      have hj2 : Ev (fun k => arboristlaw13_PlaceFirst.j2 k true s last T p e (-1) (i : Int) true B P) true := evs2 hw hout (fun k q1 q2 => by
        rw [arboristlaw13_PlaceFirst.j2, if_pos rfl, if_pos (by omega), if_pos (by omega), rd13 B i hi, q1, Option.bind_some, if_pos rfl, wrap_nat i (by omega)]
        exact q2)
      exact evs1 hj2 (fun k q => by
        rw [arboristlaw13_PlaceFirst.l1, if_pos (by omega), decide_eq_true (by omega)]
        exact q)
    · rw [if_neg c] at he
      rw [Bool.eq_false_iff.2 c] at hw
      have hj2 : Ev (fun k => arboristlaw13_PlaceFirst.j2 k true s last T p e (-1) (i : Int) true B P) true := evs2 hw (pf_l1 s hs last T p e B P hB hg H d (i + 1) (by omega) he) (fun k q1 q2 => by
        rw [arboristlaw13_PlaceFirst.j2, if_pos rfl, if_pos (by omega), if_pos (by omega), rd13 B i hi, q1, Option.bind_some, if_neg (fun h => Bool.noConfusion h), wrap_nat i (by omega)]
        exact q2)
      exact evs1 hj2 (fun k q => by
        rw [arboristlaw13_PlaceFirst.l1, if_pos (by omega), decide_eq_true (by omega)]
        exact q)
theorem idx_at {α : Type} (p : α → Bool) : ∀ (l : List α) (i : Int), idxOf p l i = -1 ∨ ∃ (j : Nat) (h : j < l.length), idxOf p l i = i + (j : Int) ∧ p l[j] = true ∧ ∀ (m : Nat) (hm : m < l.length), m < j → p l[m] = false
  | [], i => .inl rfl
  | a :: l, i => by
    unfold idxOf
    by_cases c : p a = true
    · rw [if_pos c]
      exact .inr ⟨0, by simp, by omega, c, fun m hm h => by omega⟩
    · rw [if_neg c]
      rcases idx_at p l (i + 1) with h | ⟨j, h1, h2, h3, h4⟩
      · exact .inl h
      · refine .inr ⟨j + 1, by rw [List.length_cons]; omega, by omega, by rw [List.getElem_cons_succ]; exact h3, fun m hm hlt => ?_⟩
        cases m with
        | zero => exact Bool.eq_false_iff.2 c
        | succ m =>
          rw [List.getElem_cons_succ]
          exact h4 m (by rw [List.length_cons] at hm; omega) (by omega)
def Gone (s : List Int) (B : List (List Int)) (last : Int) : Prop := ∀ (j : Nat) (h : j < B.length), (j : Int) ≤ last → withinB s B[j] = false
theorem pf_l0 (s : List Int) (hs : s.length ≤ 6 ∧ s.Pairwise (· < ·)) (P : List Int) : ∀ (d T : Nat) (last : Int) (B : List (List Int)), T + d = 10 → B.length ≤ 10 → Rise6 B → Gone s B last → -1 ≤ last → Ev (fun k => arboristlaw13_PlaceFirst.l0 k true s last (T : Int) B P) true
  | 0, T, last, B, h, hB, hg, hn, hl => evs0 (fun k => by rw [arboristlaw13_PlaceFirst.l0, if_neg (by omega)])
  | d + 1, T, last, B, h, hB, hg, hn, hl => by
    have hpl : place_Place.f B P [s] = some (placeL B [s] []) := by
      unfold place_Place.f
      rw [if_pos ⟨fun t ht b hb => by rw [List.mem_singleton.1 ht]; have := (hg b hb).1; omega, by simp⟩]
    have hj : ∀ i' : Int, Ev (fun k => arboristlaw13_PlaceFirst.j2 k true s last (T : Int) (placeL B [s] []).1 (placeL B [s] []).2 (idxOf (withinB s) B 0) i' false B P) true := fun i' => by
      rcases idx_at (withinB s) B 0 with h0 | ⟨j, j1, j2, j3, j4⟩
      · rw [placeL, h0, if_pos (by omega)]
        exact evs0 (fun k => by
          rw [arboristlaw13_PlaceFirst.j2, if_neg (fun h => Bool.noConfusion h), if_pos (by omega), if_pos rfl, if_pos rfl]
          rfl)
      · have e : idxOf (withinB s) B 0 = (j : Int) := by omega
        have hlast : last < (j : Int) := by
          refine Int.not_le.1 (fun hle => ?_)
          have := hn j j1 hle
          rw [j3] at this
          cases this
        have hj3 : Ev (fun k => arboristlaw13_PlaceFirst.j3 k true s (T : Int) (j : Int) false B P) true := by
          by_cases c : s.length = 0
          · exact evs0 (fun k => by rw [arboristlaw13_PlaceFirst.j3, if_neg (fun h => Bool.noConfusion h), if_pos (by omega)])
          · have hrise : Rise6 (B.set j []) := fun b hb => by
              rcases List.mem_or_eq_of_mem_set hb with hb | rfl
              · exact hg b hb
              · exact ⟨by simp, List.Pairwise.nil⟩
            have hgone : Gone s (B.set j []) (j : Int) := fun m hm hle => by
              rw [List.getElem_set]
              by_cases c2 : j = m
              · rw [if_pos c2, within13 hs.2 List.Pairwise.nil]
                refine Bool.eq_false_iff.2 (fun hw => ?_)
                cases hse : s with
                | nil => rw [hse] at c; exact c rfl
                | cons x t =>
                  have := (withinR_iff s []).1 hw x (by rw [hse]; exact List.mem_cons_self)
                  cases this
              · rw [if_neg c2]
                rw [List.length_set] at hm
                exact j4 m hm (by omega)
            refine evs1 (pf_l0 s hs P d (T + 1) (j : Int) (B.set j []) (by omega) (by rw [List.length_set]; exact hB) hrise hgone (by omega)) (fun k q => ?_)
            rw [arboristlaw13_PlaceFirst.j3, if_neg (fun h => Bool.noConfusion h), if_neg (by omega), if_pos (by omega), if_pos (by omega), Int.toNat_natCast, wrap_nat T (by omega)]
            exact q
        rw [placeL, e, if_neg (by omega), placeL, List.nil_append]
        refine evs1 hj3 (fun k q => ?_)
        rw [arboristlaw13_PlaceFirst.j2, if_neg (fun h => Bool.noConfusion h), if_neg (by omega), if_pos rfl, if_pos (by simp), if_pos (by simp), if_pos (by rfl), decide_eq_false (by omega)]
        exact q
    refine evs1 (pf_l1 s hs last (T : Int) _ _ B P hB hg hj B.length 0 (by omega) (by simp)) (fun k q => ?_)
    rw [arboristlaw13_PlaceFirst.l0, if_pos (by omega), hpl, Option.bind_some]
    exact q
theorem PlaceFirst : arboristlaw13_PlaceFirst.Pure := by
  intro a0 a1 _ _
  have hs : Ev (fun k => arboristlaw13_shown.f k) true := Ev.of (fun k => arboristlaw13_shown.mono k) first_shown
  obtain ⟨B, P, hg, he⟩ := shapeU_ev [] a0
  obtain ⟨b, hb, hE⟩ := shape_one a1
  have hm := pf_l0 b hb P 10 0 (-1) B (by omega) (by have h1 := hg.1; have h2 := hg.2.1; omega) hg.2.2.2 (fun j hj hle => by omega) (by omega)
  refine (evu4 hs he hE hm (fun k e1 e2 e3 e4 => ?_)).rounds
  unfold arboristlaw13_PlaceFirst.f
  rw [e1, Option.bind_some, e2, Option.bind_some, e3, Option.bind_some, if_pos (by simp)]
  exact e4
end Go.Proofs.Ytpmfdggbccbfaaa.Pure
