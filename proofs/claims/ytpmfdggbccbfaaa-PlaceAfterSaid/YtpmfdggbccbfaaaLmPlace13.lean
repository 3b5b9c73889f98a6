/- What the program's answers for trees (package place), and the statements' own trees, come to: lemmas on the printed functions. -/
-- uses Ref01
-- uses PostL
import Derived.Test.YtpmfdggbccbfaaaLmPostL
import Derived.Test.YtpmfdggbccbfaaaLmRef01
import Derived.Test.YtpmfdggbccbfaaaPr0
import Derived.Test.YtpmfdggbccbfaaaPr1
import Derived.Test.YtpmfdggbccbfaaaPr21
import Derived.Test.YtpmfdggbccbfaaaPr26
import Derived.Test.YtpmfdggbccbfaaaPr32
import Derived.Test.YtpmfdggbccbfaaaPr33
set_option linter.unusedVariables false
namespace Go.Proofs.Ytpmfdggbccbfaaa.Pr
open Go.RowKit Go.Proofs.YtpmfdggbccbfaaaW.PrintWords Go.Proofs.YtpmfdggbccbfaaaW.PrintLast Go.Proofs.Ytpmfdggbccbfaaa.PostL

theorem merge_both : ∀ (a b : List Int) (x : Int), x ∈ mergeL false true false a b → x ∈ a ∧ x ∈ b := by
  have key : ∀ n a b, a.length + b.length = n → ∀ x, x ∈ mergeL false true false a b → x ∈ a ∧ x ∈ b := by
    intro n
    induction n using Nat.strongRecOn with
    | _ n ih =>
      intro a b h x hx
      match a, b with
      | [], [] => simp [mergeL_nn] at hx
      | y :: l, [] =>
        rw [mergeL_cn] at hx
        have := ih l.length (by simp at h; omega) l [] (by simp) x (by simpa [keepL] using hx)
        simp at this
      | [], z :: m =>
        rw [mergeL_nc] at hx
        have := ih m.length (by simp at h; omega) [] m (by simp) x (by simpa [keepL] using hx)
        simp at this
      | y :: l, z :: m =>
        rw [mergeL_cc] at hx
        by_cases h1 : y < z
        · rw [if_pos h1] at hx
          have := ih (l.length + (m.length + 1)) (by simp at h; omega) l (z :: m) (by simp) x (by simpa [keepL] using hx)
          exact ⟨List.mem_cons_of_mem _ this.1, this.2⟩
        · rw [if_neg h1] at hx
          by_cases h2 : z < y
          · rw [if_pos h2] at hx
            have := ih (l.length + 1 + m.length) (by simp at h; omega) (y :: l) m (by simp) x (by simpa [keepL] using hx)
            exact ⟨this.1, List.mem_cons_of_mem _ this.2⟩
          · rw [if_neg h2] at hx
            have e : y = z := by omega
            subst e
            simp only [keepL, if_true, List.mem_cons] at hx
            rcases hx with rfl | hx
            · simp
            · have := ih (l.length + m.length) (by simp at h; omega) l m rfl x hx
              exact ⟨List.mem_cons_of_mem _ this.1, List.mem_cons_of_mem _ this.2⟩
  intro a b x hx
  exact key _ a b rfl x hx
theorem uniteL_length (a m : List Int) : (uniteL a m).length = a.length + m.length := by
  fun_induction uniteL a m <;> simp_all <;> omega
/-- a tree as 'shape' makes it -/
def GoodT (bags : List (List Int)) (par : List Int) : Prop := bags.length = par.length ∧ par.length ≤ 10 ∧ Ahead par ∧ ∀ b ∈ bags, b.length ≤ 6
theorem ahead_snoc {par : List Int} {p : Int} (h : Ahead par) (h0 : par.length = 0 → p = -1) (h1 : 0 < par.length → 0 ≤ p ∧ p < par.length) : Ahead (par ++ [p]) := by
  intro k hk
  simp only [List.length_append, List.length_singleton] at hk
  by_cases e : k < par.length
  · have e2 : (par ++ [p]).getD k 0 = par.getD k 0 := by simp [List.getD_eq_getElem?_getD, List.getElem?_append_left e]
    rw [e2]; exact h k e
  · have e3 : k = par.length := by omega
    subst e3
    have e2 : (par ++ [p]).getD par.length 0 = p := by simp [List.getD_eq_getElem?_getD]
    rw [e2]
    exact ⟨h0, h1⟩
theorem shape_l1 (x0 : List Int) (x1 : List (List Int)) (i : Int) (hi0 : 0 ≤ i) (hi1 : i < (x1.length : Int)) (B : List (List Int)) (P : List Int) : ∀ (d k : Nat) (b : List Int), k + d = 6 → b.length ≤ k → ∃ b' : List Int, b'.length ≤ 6 ∧ ∀ r, Ev (fun n => arboristlaw13_shape.j3 n x0 x1 i b' B P) r → Ev (fun n => arboristlaw13_shape.l1 n x0 x1 i b (k : Int) B P) r := by
  intro d
  induction d with
  | zero =>
    intro k b hk hb
    refine ⟨b, by omega, fun r hr => Ev.step (fun n => ?_) hr⟩
    simp only [arboristlaw13_shape.l1]
    rw [if_pos hi0, if_pos hi1]
    by_cases e : (k : Int) < ((rd_L1 x1 i).length : Int)
    · rw [if_pos e, if_neg (by omega)]
    · rw [if_neg e]
  | succ d ih =>
    intro k b hk hb
    by_cases e : (k : Int) < ((rd_L1 x1 i).length : Int)
    · generalize hv : Go.bits .and .i64 (rd (rd_L1 x1 i) (k : Int)) 15 = v
      have hu : Ev (fun n => arboristref01_Unite.f n b [v]) (uniteL b (withoutL [v] b)) := Unite_ev b _ (by simp; omega)
      have hw := withoutL_len [v] b
      simp only [List.length_singleton] at hw
      obtain ⟨b', h1, h2⟩ := ih (k + 1) (uniteL b (withoutL [v] b)) (by omega) (by rw [uniteL_length]; omega)
      refine ⟨b', h1, fun r hr => Ev.step (f := fun n => (arboristref01_Unite.f n b [v]).bind fun t => arboristlaw13_shape.l1 n x0 x1 i t ((k + 1 : Nat) : Int) B P) (fun n => ?_) (Ev.bind (f := fun n t => arboristlaw13_shape.l1 n x0 x1 i t ((k + 1 : Nat) : Int) B P) hu (h2 r hr))⟩
      simp only [arboristlaw13_shape.l1]
      rw [if_pos hi0, if_pos hi1, if_pos e, if_pos (by omega), if_pos (by omega), wrap_nat k (by omega), hv]
    · refine ⟨b, by omega, fun r hr => Ev.step (fun n => ?_) hr⟩
      simp only [arboristlaw13_shape.l1]
      rw [if_pos hi0, if_pos hi1, if_neg e]
theorem shape_l0 (x0 : List Int) (x1 : List (List Int)) : ∀ (d : Nat) (B : List (List Int)) (P : List Int), B.length + d = 10 → GoodT B P → ∃ B' P', GoodT B' P' ∧ Ev (fun n => arboristlaw13_shape.l0 n x0 x1 (B.length : Int) B P) (B', P') := by
  intro d
  induction d with
  | zero =>
    intro B P hd hg
    refine ⟨B, P, hg, ?_⟩
    refine Ev.step (f := fun n => arboristlaw13_shape.j1 n x0 x1 (B.length : Int) false B P) (fun n => ?_) (Ev.step (f := fun _ => some (B, P)) (fun n => ?_) (Ev.now _))
    · simp only [arboristlaw13_shape.l0]
      by_cases e : (B.length : Int) < (x1.length : Int)
      · rw [if_pos e, show decide ((B.length : Int) < 10) = false from decide_eq_false (by omega)]
      · rw [if_neg e]
    · simp only [arboristlaw13_shape.j1]; rw [if_neg (by simp)]
  | succ d ih =>
    intro B P hd hg
    obtain ⟨g1, g2, g3, g4⟩ := hg
    by_cases e : (B.length : Int) < (x1.length : Int)
    · obtain ⟨b', hb, hl⟩ := shape_l1 x0 x1 (B.length : Int) (by omega) e B P 6 0 [] (by omega) (by simp)
      have go : ∀ p : Int, (P.length = 0 → p = -1) → (0 < P.length → 0 ≤ p ∧ p < P.length) → ∃ B' P', GoodT B' P' ∧ Ev (fun n => arboristlaw13_shape.l0 n x0 x1 ((B.length + 1 : Nat) : Int) (B ++ [b']) (P ++ [p])) (B', P') := by
        intro p h0 h1
        have := ih (B ++ [b']) (P ++ [p]) (by simp; omega) ⟨by simp [g1], by simp; omega, ahead_snoc g3 h0 h1, by
          intro b hb2
          simp only [List.mem_append, List.mem_singleton] at hb2
          rcases hb2 with hb2 | rfl
          · exact g4 b hb2
          · exact hb⟩
        rw [show (B ++ [b']).length = B.length + 1 by simp] at this
        exact this
      have pre : ∀ r, Ev (fun n => arboristlaw13_shape.j3 n x0 x1 (B.length : Int) b' B P) r → Ev (fun n => arboristlaw13_shape.l0 n x0 x1 (B.length : Int) B P) r := by
        intro r h
        refine Ev.step (f := fun n => arboristlaw13_shape.j1 n x0 x1 (B.length : Int) true B P) (fun n => ?_) (Ev.step (f := fun n => arboristlaw13_shape.l1 n x0 x1 (B.length : Int) [] 0 B P) (fun n => ?_) (hl r h))
        · simp only [arboristlaw13_shape.l0]
          rw [if_pos e, show decide ((B.length : Int) < 10) = true from decide_eq_true (by omega)]
        · simp only [arboristlaw13_shape.j1]; rw [if_pos trivial]
      by_cases z : B.length = 0
      · obtain ⟨B', P', g, h⟩ := go (-1) (fun _ => rfl) (by omega)
        refine ⟨B', P', g, pre _ (Ev.step (fun n => ?_) h)⟩
        simp only [arboristlaw13_shape.j3]
        rw [if_neg (by omega), if_pos (by omega), if_pos (by omega), wrap_nat _ (by omega)]
      · by_cases y : (B.length : Int) < (x0.length : Int)
        · obtain ⟨B', P', g, h⟩ := go (Int.tmod (Go.bits .and .i64 (rd x0 (B.length : Int)) 65535) (B.length : Int)) (by omega) (fun _ => by
            rw [i64_and65535, Int.tmod_eq_emod_of_nonneg (by omega), ← g1]
            exact ⟨Int.emod_nonneg _ (by omega), Int.emod_lt_of_pos _ (by omega)⟩)
          refine ⟨B', P', g, pre _ (Ev.step (fun n => ?_) h)⟩
          simp only [arboristlaw13_shape.j3]
          rw [if_pos (by omega), if_pos y, if_pos (by omega), if_neg (by omega), if_pos (by omega), if_pos (by omega), wrap_nat _ (by omega)]
        · obtain ⟨B', P', g, h⟩ := go 0 (by omega) (by omega)
          refine ⟨B', P', g, pre _ (Ev.step (fun n => ?_) h)⟩
          simp only [arboristlaw13_shape.j3]
          rw [if_pos (by omega), if_neg y, if_pos (by omega), if_pos (by omega), wrap_nat _ (by omega)]
    · refine ⟨B, P, ⟨g1, g2, g3, g4⟩, ?_⟩
      refine Ev.step (f := fun n => arboristlaw13_shape.j1 n x0 x1 (B.length : Int) false B P) (fun n => ?_) (Ev.step (f := fun _ => some (B, P)) (fun n => ?_) (Ev.now _))
      · simp only [arboristlaw13_shape.l0]
        rw [if_neg e]
      · simp only [arboristlaw13_shape.j1]; rw [if_neg (by simp)]
theorem shape_ev (x0 : List Int) (x1 : List (List Int)) : ∃ B P, GoodT B P ∧ Ev (fun n => arboristlaw13_shape.f n x0 x1) (B, P) :=
  shape_l0 x0 x1 10 [] [] rfl ⟨rfl, by simp, by intro k hk; simp at hk, by simp⟩
theorem Children_loop (par : List Int) (hl : par.length < 17592186044416) (i : Int) (hi : 0 ≤ i) : ∀ (d k : Nat) (out : List Int), par.length = k + d → out.length ≤ k → Ev (fun n => place_Children.l0 n i out par (par.length : Int) (k : Int)) (out ++ ((List.range' k d).filter (fun k => par.getD k 0 == i)).map Int.ofNat) := by
  intro d
  induction d with
  | zero =>
    intro k out h ho
    refine Ev.step (f := fun _ => some out) (fun n => ?_) (by simpa using Ev.now out)
    simp only [place_Children.l0]
    rw [if_neg (by omega)]
  | succ d ih =>
    intro k out h ho
    have er : rd par (k : Int) = par.getD k 0 := rfl
    by_cases e : par.getD k 0 = i
    · have := ih (k + 1) (out ++ [(k : Int)]) (by omega) (by simp; omega)
      refine Ev.step (f := fun n => place_Children.l0 n i (out ++ [(k : Int)]) par (par.length : Int) ((k + 1 : Nat) : Int)) (fun n => ?_) ?_
      · simp only [place_Children.l0]
        rw [if_pos (by omega), if_pos (by omega), if_pos (by omega), er, if_pos e, if_pos hi, if_pos (by omega), wrap_nat k (by omega)]
      · rw [List.range'_succ, List.filter_cons, if_pos (by simpa using e)]
        simpa using this
    · have := ih (k + 1) out (by omega) (by omega)
      refine Ev.step (f := fun n => place_Children.l0 n i out par (par.length : Int) ((k + 1 : Nat) : Int)) (fun n => ?_) ?_
      · simp only [place_Children.l0]
        rw [if_pos (by omega), if_pos (by omega), if_pos (by omega), er, if_neg e, wrap_nat k (by omega)]
      · rw [List.range'_succ, List.filter_cons, if_neg (by simpa using e)]
        exact this
theorem Children_ev (B : List (List Int)) (par : List Int) (hl : par.length < 17592186044416) (i : Int) (hi : 0 ≤ i) : Ev (fun n => place_Children.f n B par i) (childI par i) := by
  have := Children_loop par hl i hi par.length 0 [] (by omega) (by simp)
  rw [← List.range_eq_range'] at this
  exact this
end Go.Proofs.Ytpmfdggbccbfaaa.Pr
