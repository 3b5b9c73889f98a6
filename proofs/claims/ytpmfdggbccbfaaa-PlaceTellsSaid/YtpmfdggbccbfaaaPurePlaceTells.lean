/- PlaceTells: what belongs to which bag is what the document says. For all parents, bags, places and scopes. -/
-- merge
import Derived.Test.YtpmfdggbccbfaaaPr0
import Derived.Test.YtpmfdggbccbfaaaPr1
import Derived.Test.YtpmfdggbccbfaaaPr17
import Derived.Test.YtpmfdggbccbfaaaPr18
import Derived.Test.YtpmfdggbccbfaaaPr28
import Derived.Test.YtpmfdggbccbfaaaPr30
import Derived.Test.YtpmfdggbccbfaaaPr31
import Derived.Test.YtpmfdggbccbfaaaPr32
import Derived.Test.YtpmfdggbccbfaaaPr33
import Derived.Test.YtpmfdggbccbfaaaPr34
import Derived.Test.YtpmfdggbccbfaaaPr35
import Derived.Test.YtpmfdggbccbfaaaPr38
import Derived.Test.YtpmfdggbccbfaaaPr39
import Derived.Test.YtpmfdggbccbfaaaPr40
import Derived.Test.YtpmfdggbccbfaaaPr41
import Derived.Test.YtpmfdggbccbfaaaPr42
import Derived.Test.YtpmfdggbccbfaaaPr43
import Derived.Test.YtpmfdggbccbfaaaPr44
import Derived.Test.YtpmfdggbccbfaaaPr45
import Derived.Test.YtpmfdggbccbfaaaPr46
import Derived.Test.YtpmfdggbccbfaaaPr47
import Derived.Test.YtpmfdggbccbfaaaPr48
import Derived.Test.YtpmfdggbccbfaaaPr6
set_option linter.unusedVariables false
namespace Go.Proofs.Ytpmfdggbccbfaaa.Pr
open Go.RowKit Go.Proofs.YtpmfdggbccbfaaaW.PrintWords Go.Proofs.YtpmfdggbccbfaaaW.PrintLast

theorem drop_at (l : List Int) (i : Nat) (h : i < l.length) : l.drop i = rd l (i : Int) :: l.drop (i + 1) := by
  rw [List.drop_eq_getElem_cons h, rd_nat l i _ (List.getElem?_eq_getElem h)]
theorem wrap_nat (i : Nat) (h : i < 9223372036854775807) : wrap64 ((i : Int) + 1) = ((i + 1 : Nat) : Int) := by rw [wrap_succ (by omega) (by omega)]; rfl
def inB (l : List Int) (v : Int) : Bool := l.any (fun x => x == v)
theorem In_loop (l : List Int) (hl : l.length ≤ 9223372036854775807) (v : Int) : ∀ d i : Nat, l.length = i + d → Ev (fun k => arboristref01_In.l0 k l v (i : Int)) (inB (l.drop i) v) := by
  intro d
  induction d with
  | zero =>
    intro i h
    refine Ev.step (f := fun _ => some (inB (l.drop i) v)) (fun k => ?_) (Ev.now _)
    simp only [arboristref01_In.l0]
    rw [if_neg (by omega), List.drop_eq_nil_of_le (by omega)]
    rfl
  | succ d ih =>
    intro i h
    have hi : i < l.length := by omega
    by_cases e : rd l (i : Int) = v
    · refine Ev.step (f := fun _ => some (inB (l.drop i) v)) (fun k => ?_) (Ev.now _)
      simp only [arboristref01_In.l0]
      rw [if_pos (by omega), if_pos (by omega), if_pos e, drop_at l i hi]
      simp [inB, e]
    · refine Ev.step (f := fun k => arboristref01_In.l0 k l v ((i + 1 : Nat) : Int)) (fun k => ?_) ?_
      · simp only [arboristref01_In.l0]
        rw [if_pos (by omega), if_pos (by omega), if_neg e, wrap_nat i (by omega)]
      · have := ih (i + 1) (by omega)
        rw [drop_at l i hi]
        have e2 : (rd l (i : Int) == v) = false := by simpa using e
        simpa [inB, e2] using this
theorem In_ev (l : List Int) (hl : l.length ≤ 9223372036854775807) (v : Int) : Ev (fun k => arboristref01_In.f k l v) (inB l v) := by
  have := In_loop l hl v l.length 0 (by omega)
  simpa [arboristref01_In.f] using this
def withoutL (a b : List Int) : List Int := a.filter (fun x => !inB b x)
def meetL (a b : List Int) : List Int := a.filter (fun x => inB b x)
theorem Without_loop (a b : List Int) (ha : a.length < 17592186044416) (hb : b.length ≤ 9223372036854775807) : ∀ (d i : Nat) (out : List Int), a.length = i + d → out.length ≤ i → Ev (fun k => arboristref01_Without.l0 k a b out (i : Int)) (out ++ withoutL (a.drop i) b) := by
  intro d
  induction d with
  | zero =>
    intro i out h ho
    refine Ev.step (f := fun _ => some (out ++ withoutL (a.drop i) b)) (fun k => ?_) (Ev.now _)
    simp only [arboristref01_Without.l0]
    rw [if_neg (by omega), List.drop_eq_nil_of_le (by omega)]
    simp [withoutL]
  | succ d ih =>
    intro i out h ho
    have hi : i < a.length := by omega
    refine Ev.step (f := fun k => (arboristref01_In.f k b (rd a (i : Int))).bind fun t => if t = true then arboristref01_Without.l0 k a b out ((i + 1 : Nat) : Int) else if out.length < 17592186044416 then arboristref01_Without.l0 k a b (out ++ [rd a (i : Int)]) ((i + 1 : Nat) : Int) else none) (fun k => ?_) ?_
    · simp only [arboristref01_Without.l0]
      rw [if_pos (by omega), if_pos (by omega), wrap_nat i (by omega)]
    · refine Ev.bind (In_ev b hb _) ?_
      rw [drop_at a i hi]
      cases hc : inB b (rd a (i : Int)) with
      | true =>
        have := ih (i + 1) out (by omega) (by omega)
        simpa [withoutL, hc] using this
      | false =>
        have := ih (i + 1) (out ++ [rd a (i : Int)]) (by omega) (by simp; omega)
        have hlt : out.length < 17592186044416 := by omega
        simpa [withoutL, hc, hlt] using this
theorem Without_ev (a b : List Int) (ha : a.length < 17592186044416) (hb : b.length ≤ 9223372036854775807) : Ev (fun k => arboristref01_Without.f k a b) (withoutL a b) := by
  have := Without_loop a b ha hb a.length 0 [] (by omega) (by simp)
  simpa [arboristref01_Without.f] using this
def withinR (a b : List Int) : Bool := ((withoutL a b).length : Int) == 0
theorem Within_ev (a b : List Int) (ha : a.length < 17592186044416) (hb : b.length ≤ 9223372036854775807) : Ev (fun k => arboristref01_Within.f k a b) (withinR a b) := by
  refine Ev.congr (f := fun k => (arboristref01_Without.f k a b).bind fun t => some ((t.length : Int) == 0)) (fun k => rfl) ?_
  exact Ev.bind (f := fun _ (t : List Int) => some ((t.length : Int) == 0)) (Without_ev a b ha hb) (Ev.now _)
theorem withinR_iff (a b : List Int) : withinR a b = true ↔ ∀ x ∈ a, x ∈ b := by
  unfold withinR withoutL
  simp only [beq_iff_eq]
  constructor
  · intro h x hx
    have h2 : (a.filter (fun x => !inB b x)) = [] := List.eq_nil_of_length_eq_zero (by omega)
    have := List.filter_eq_nil_iff.1 h2 x hx
    simp [inB] at this
    exact this
  · intro h
    have : (a.filter (fun x => !inB b x)) = [] := List.filter_eq_nil_iff.2 (fun x hx => by simp [inB]; exact h x hx)
    simp [this]
def cmpL : List Int → List Int → Int
  | [], [] => 0
  | [], _ :: _ => -1
  | _ :: _, [] => 1
  | a :: l, b :: m => if a < b then -1 else if b < a then 1 else cmpL l m
theorem Compare_loop (a b : List Int) (ha : a.length ≤ 9223372036854775807) (hb : b.length ≤ 9223372036854775807) : ∀ (d i : Nat), a.length = i + d → i ≤ b.length → a.take i = b.take i → Ev (fun k => arboristref01_Compare.l0 k a b (i : Int)) (cmpL (a.drop i) (b.drop i)) := by
  intro d
  induction d with
  | zero =>
    intro i h hb2 he
    refine Ev.step (f := fun k => arboristref01_Compare.j1 k a b (i : Int) false) (fun k => ?_) ?_
    · simp only [arboristref01_Compare.l0]; rw [if_neg (by omega)]
    · refine Ev.step (f := fun _ => some (cmpL (a.drop i) (b.drop i))) (fun k => ?_) (Ev.now _)
      simp only [arboristref01_Compare.j1]
      rw [if_neg (by simp), List.drop_eq_nil_of_le (by omega)]
      by_cases hlt : i < b.length
      · rw [if_pos (by omega), drop_at b i hlt]; rfl
      · rw [if_neg (by omega), if_neg (by omega), List.drop_eq_nil_of_le (by omega)]; rfl
  | succ d ih =>
    intro i h hb2 he
    have hi : i < a.length := by omega
    by_cases hlt : i < b.length
    · refine Ev.step (f := fun k => arboristref01_Compare.j1 k a b (i : Int) true) (fun k => ?_) ?_
      · simp only [arboristref01_Compare.l0]; rw [if_pos (by omega), show decide ((i : Int) < (b.length : Int)) = true from decide_eq_true (by omega)]
      · rw [drop_at a i hi, drop_at b i hlt]
        by_cases h1 : rd a (i : Int) < rd b (i : Int)
        · refine Ev.step (f := fun _ => some (-1)) (fun k => ?_) (by simp only [cmpL, if_pos h1]; exact Ev.now _)
          simp only [arboristref01_Compare.j1]
          rw [if_pos trivial, if_pos (by omega), if_pos (by omega), if_pos (by omega), if_pos h1]
        · by_cases h2 : rd b (i : Int) < rd a (i : Int)
          · refine Ev.step (f := fun _ => some 1) (fun k => ?_) (by simp only [cmpL, if_neg h1, if_pos h2]; exact Ev.now _)
            simp only [arboristref01_Compare.j1]
            rw [if_pos trivial, if_pos (by omega), if_pos (by omega), if_pos (by omega), if_neg h1, if_pos h2]
          · refine Ev.step (f := fun k => arboristref01_Compare.l0 k a b ((i + 1 : Nat) : Int)) (fun k => ?_) ?_
            · simp only [arboristref01_Compare.j1]
              rw [if_pos trivial, if_pos (by omega), if_pos (by omega), if_pos (by omega), if_neg h1, if_neg (by omega), wrap_nat i (by omega)]
            · simp only [cmpL, if_neg h1, if_neg h2]
              refine ih (i + 1) (by omega) (by omega) ?_
              have e1 := rd_nat a i _ (List.getElem?_eq_getElem hi)
              have e2 := rd_nat b i _ (List.getElem?_eq_getElem hlt)
              rw [List.take_succ_eq_append_getElem hi, List.take_succ_eq_append_getElem hlt, he]
              have : a[i] = b[i] := by omega
              rw [this]
    · refine Ev.step (f := fun k => arboristref01_Compare.j1 k a b (i : Int) false) (fun k => ?_) ?_
      · simp only [arboristref01_Compare.l0]; rw [if_pos (by omega), show decide ((i : Int) < (b.length : Int)) = false from decide_eq_false (by omega)]
      · refine Ev.step (f := fun _ => some (cmpL (a.drop i) (b.drop i))) (fun k => ?_) (Ev.now _)
        simp only [arboristref01_Compare.j1]
        rw [if_neg (by simp), if_neg (by omega), if_pos (by omega), drop_at a i hi, show b.drop i = [] from List.drop_eq_nil_of_le (by omega)]
        rfl
theorem Compare_ev (a b : List Int) (ha : a.length ≤ 9223372036854775807) (hb : b.length ≤ 9223372036854775807) : Ev (fun k => arboristref01_Compare.f k a b) (cmpL a b) := by
  have := Compare_loop a b ha hb a.length 0 (by omega) (by omega) rfl
  simpa [arboristref01_Compare.f] using this
def uniteL : List Int → List Int → List Int
  | [], r => r
  | a :: l, [] => a :: l
  | a :: l, m :: r => if a < m then a :: uniteL l (m :: r) else m :: uniteL (a :: l) r
termination_by a b => a.length + b.length
theorem uniteL_nil (a : List Int) : uniteL a [] = a := by cases a <;> simp [uniteL]
theorem Unite_loop (a m : List Int) (hl : a.length + m.length < 17592186044416) : ∀ (d i j : Nat) (out : List Int), a.length + m.length = i + j + d → i ≤ a.length → j ≤ m.length → out.length ≤ i + j → Ev (fun k => arboristref01_Unite.l0 k a out m (i : Int) (j : Int)) (out ++ uniteL (a.drop i) (m.drop j)) := by
  intro d
  induction d with
  | zero =>
    intro i j out h hi hj ho
    refine Ev.step (f := fun k => arboristref01_Unite.j1 k a out m (i : Int) (j : Int) false) (fun k => ?_) ?_
    · simp only [arboristref01_Unite.l0]
      rw [if_neg (by omega), show decide ((j : Int) < (m.length : Int)) = false from decide_eq_false (by omega)]
    · refine Ev.step (f := fun _ => some (out ++ uniteL (a.drop i) (m.drop j))) (fun k => ?_) (Ev.now _)
      simp only [arboristref01_Unite.j1]
      rw [if_neg (by simp), show a.drop i = [] from List.drop_eq_nil_of_le (by omega), show m.drop j = [] from List.drop_eq_nil_of_le (by omega)]
      simp [uniteL]
  | succ d ih =>
    intro i j out h hi hj ho
    refine Ev.step (f := fun k => arboristref01_Unite.j1 k a out m (i : Int) (j : Int) true) (fun k => ?_) ?_
    · simp only [arboristref01_Unite.l0]
      by_cases h1 : i < a.length
      · rw [if_pos (by omega)]
      · rw [if_neg (by omega), show decide ((j : Int) < (m.length : Int)) = true from decide_eq_true (by omega)]
    · have hlt : out.length < 17592186044416 := by omega
      have left : i < a.length → (j = m.length ∨ (j < m.length ∧ rd a (i : Int) < rd m (j : Int))) → Ev (fun k => arboristref01_Unite.l0 k a (out ++ [rd a (i : Int)]) m ((i + 1 : Nat) : Int) (j : Int)) (out ++ uniteL (a.drop i) (m.drop j)) := by
        intro h1 h2
        have := ih (i + 1) j (out ++ [rd a (i : Int)]) (by omega) (by omega) hj (by simp; omega)
        rw [drop_at a i h1]
        rcases h2 with h2 | ⟨h2, h3⟩
        · rw [show m.drop j = [] from List.drop_eq_nil_of_le (by omega)] at this ⊢
          simpa [uniteL, uniteL_nil] using this
        · rw [drop_at m j h2] at this ⊢
          rw [uniteL, if_pos h3]
          simpa using this
      have right : j < m.length → (i = a.length ∨ (i < a.length ∧ ¬ rd a (i : Int) < rd m (j : Int))) → Ev (fun k => arboristref01_Unite.l0 k a (out ++ [rd m (j : Int)]) m (i : Int) ((j + 1 : Nat) : Int)) (out ++ uniteL (a.drop i) (m.drop j)) := by
        intro h1 h2
        have := ih i (j + 1) (out ++ [rd m (j : Int)]) (by omega) hi (by omega) (by simp; omega)
        rw [drop_at m j h1]
        rcases h2 with h2 | ⟨h2, h3⟩
        · rw [show a.drop i = [] from List.drop_eq_nil_of_le (by omega)] at this ⊢
          simpa [uniteL] using this
        · rw [drop_at a i h2] at this ⊢
          rw [uniteL, if_neg h3]
          simpa using this
      by_cases h1 : j = m.length
      · refine Ev.step (f := fun k => arboristref01_Unite.l0 k a (out ++ [rd a (i : Int)]) m ((i + 1 : Nat) : Int) (j : Int)) (fun k => ?_) (left (by omega) (.inl h1))
        simp only [arboristref01_Unite.j1]
        rw [if_pos trivial, if_pos (by omega), if_pos (by omega), if_pos (by omega), if_pos hlt, wrap_nat i (by omega)]
      · by_cases h2 : i < a.length
        · by_cases h3 : rd a (i : Int) < rd m (j : Int)
          · refine Ev.step (f := fun k => arboristref01_Unite.l0 k a (out ++ [rd a (i : Int)]) m ((i + 1 : Nat) : Int) (j : Int)) (fun k => ?_) (left h2 (.inr ⟨by omega, h3⟩))
            simp only [arboristref01_Unite.j1]
            rw [if_pos trivial, if_neg (by omega), if_pos (by omega), if_pos (by omega), if_pos (by omega), if_pos (by omega), if_pos h3, if_pos hlt, wrap_nat i (by omega)]
          · refine Ev.step (f := fun k => arboristref01_Unite.l0 k a (out ++ [rd m (j : Int)]) m (i : Int) ((j + 1 : Nat) : Int)) (fun k => ?_) (right (by omega) (.inr ⟨h2, h3⟩))
            simp only [arboristref01_Unite.j1]
            rw [if_pos trivial, if_neg (by omega), if_pos (by omega), if_pos (by omega), if_pos (by omega), if_pos (by omega), if_neg h3, if_pos hlt, wrap_nat j (by omega)]
        · refine Ev.step (f := fun k => arboristref01_Unite.l0 k a (out ++ [rd m (j : Int)]) m (i : Int) ((j + 1 : Nat) : Int)) (fun k => ?_) (right (by omega) (.inl (by omega)))
          simp only [arboristref01_Unite.j1]
          rw [if_pos trivial, if_neg (by omega), if_neg (by omega), if_pos (by omega), if_pos (by omega), if_pos hlt, wrap_nat j (by omega)]
theorem withoutL_len (a b : List Int) : (withoutL a b).length ≤ a.length := List.length_filter_le _ _
theorem Unite_ev (a b : List Int) (h : a.length + b.length < 17592186044416) : Ev (fun k => arboristref01_Unite.f k a b) (uniteL a (withoutL b a)) := by
  refine Ev.congr (f := fun k => (arboristref01_Without.f k b a).bind fun t => arboristref01_Unite.l0 k a ([] : List Int) t 0 0) (fun k => rfl) ?_
  have hw := withoutL_len b a
  refine Ev.bind (f := fun k (t : List Int) => arboristref01_Unite.l0 k a ([] : List Int) t 0 0) (Without_ev b a (by omega) (by omega)) ?_
  have := Unite_loop a (withoutL b a) (by omega) (a.length + (withoutL b a).length) 0 0 [] (by omega) (by omega) (by omega) (by simp)
  simpa using this
theorem cmpL_self : ∀ a : List Int, cmpL a a = 0
  | [] => rfl
  | a :: l => by simp [cmpL, cmpL_self l]
theorem cmpL_eq : ∀ a b : List Int, cmpL a b = 0 ↔ a = b
  | [], [] => by simp [cmpL]
  | [], _ :: _ => by simp [cmpL]
  | _ :: _, [] => by simp [cmpL]
  | a :: l, b :: m => by
    simp only [cmpL]
    split
    · simp; intro e; omega
    · split
      · simp; intro e; omega
      · rw [cmpL_eq l m]; simp; intro _; omega

end Go.Proofs.Ytpmfdggbccbfaaa.Pr

/- Trees whose bags stand behind their parents: who is below whom, in the order of the children; plain lists of numbers. -/
set_option linter.unusedVariables false
set_option linter.unusedSimpArgs false
namespace Go.Proofs.Ytpmfdggbccbfaaa.PostL
def childI (par : List Int) (i : Int) : List Int := ((List.range par.length).filter (fun k => par.getD k 0 == i)).map Int.ofNat
def post (par : List Int) : Nat → Int → List Int
  | 0, _ => []
  | f + 1, i => (childI par i).flatMap (post par f) ++ [i]
/-- parents stand ahead -/
def Ahead (par : List Int) : Prop := ∀ k : Nat, k < par.length → (k = 0 → par.getD k 0 = -1) ∧ (0 < k → 0 ≤ par.getD k 0 ∧ par.getD k 0 < k)
theorem mem_child {par : List Int} {i c : Int} : c ∈ childI par i ↔ ∃ k : Nat, k < par.length ∧ par.getD k 0 = i ∧ c = (k : Int) := by
  unfold childI
  simp only [List.mem_map, List.mem_filter, List.mem_range, beq_iff_eq]
  constructor
  · rintro ⟨k, ⟨h1, h2⟩, rfl⟩; exact ⟨k, h1, h2, rfl⟩
  · rintro ⟨k, h1, h2, rfl⟩; exact ⟨k, ⟨h1, h2⟩, rfl⟩
theorem child_gt {par : List Int} (h : Ahead par) {i c : Int} (hi : 0 ≤ i) (hc : c ∈ childI par i) : i < c ∧ c < par.length := by
  obtain ⟨k, h1, h2, rfl⟩ := mem_child.1 hc
  obtain ⟨h3, h4⟩ := h k h1
  rcases Nat.eq_zero_or_pos k with h0 | h0
  · have := h3 h0; omega
  · have := h4 h0; omega
theorem post_ge {par : List Int} (h : Ahead par) : ∀ (f : Nat) (i : Int), 0 ≤ i → ∀ x ∈ post par f i, i ≤ x ∧ (x = i ∨ x < par.length) := by
  intro f
  induction f with
  | zero => intro i _ x hx; simp [post] at hx
  | succ f ih =>
    intro i hi x hx
    simp only [post, List.mem_append, List.mem_flatMap, List.mem_singleton] at hx
    rcases hx with ⟨c, hc, hx⟩ | rfl
    · obtain ⟨h1, h2⟩ := child_gt h hi hc
      obtain ⟨h3, h4⟩ := ih c (by omega) x hx
      refine ⟨by omega, .inr ?_⟩
      rcases h4 with rfl | h4
      · exact h2
      · exact h4
    · exact ⟨Int.le_refl _, .inl rfl⟩
/-- rounds enough: one more tells the same -/
theorem post_more {par : List Int} (h : Ahead par) : ∀ (f : Nat) (i : Int), 0 ≤ i → i < par.length → (par.length : Int) - i ≤ f → post par (f + 1) i = post par f i := by
  intro f
  induction f with
  | zero => intro i h0 h1 h2; omega
  | succ f ih =>
    intro i h0 h1 h2
    show (childI par i).flatMap (post par (f + 1)) ++ [i] = (childI par i).flatMap (post par f) ++ [i]
    congr 1
    rw [List.flatMap_def, List.flatMap_def]
    congr 1
    apply List.map_congr_left
    intro c hc
    obtain ⟨h3, h4⟩ := child_gt h h0 hc
    exact ih c (by omega) h4 (by omega)
theorem post_at {par : List Int} (h : Ahead par) (i : Int) (h0 : 0 ≤ i) (h1 : i < par.length) (f g : Nat) (hf : (par.length : Int) - i ≤ f) (hg : (par.length : Int) - i ≤ g) : post par f i = post par g i := by
  have key : ∀ d f : Nat, (par.length : Int) - i ≤ f → post par (f + d) i = post par f i := by
    intro d
    induction d with
    | zero => intro f _; rfl
    | succ d ih => intro f hf; rw [show f + (d + 1) = (f + d) + 1 from rfl, post_more h (f + d) i h0 h1 (by omega), ih f hf]
  rcases Nat.le_total f g with hl | hl
  · obtain ⟨d, rfl⟩ := Nat.exists_eq_add_of_le hl; exact (key d f hf).symm
  · obtain ⟨d, rfl⟩ := Nat.exists_eq_add_of_le hl; exact key d g hg
theorem child_nodup (par : List Int) (i : Int) : (childI par i).Nodup := by
  unfold childI
  refine List.Pairwise.map _ (fun a b hab => ?_) ((List.nodup_range).filter _)
  intro e; exact hab (Int.ofNat.inj e)
theorem sum_zero (l : List Int) : (l.map (fun _ => 0)).sum = 0 := by
  induction l with
  | nil => rfl
  | cons a l ih => simp [ih]
theorem sum_one (l : List Int) (x : Int) : (l.map (fun c => if c = x then 1 else 0)).sum = l.count x := by
  induction l with
  | nil => rfl
  | cons a l ih =>
    by_cases e : a = x
    · subst e; simp [ih]; omega
    · simp [ih, e]
theorem post_self {par : List Int} (h : Ahead par) (f : Nat) (i : Int) (h0 : 0 ≤ i) (h1 : i < par.length) (h2 : (par.length : Int) - i ≤ f) : (post par f i).count i = 1 := by
  cases f with
  | zero => omega
  | succ f =>
    simp only [post, List.count_append, List.count_flatMap, List.count_singleton_self]
    have : (childI par i).map (List.count i ∘ post par f) = (childI par i).map (fun _ => 0) := by
      apply List.map_congr_left
      intro c hc
      obtain ⟨h3, h4⟩ := child_gt h h0 hc
      refine List.count_eq_zero.2 fun hm => ?_
      have := (post_ge h f c (by omega) i hm).1
      omega
    rw [this, sum_zero]
/-- how often x is there: as_ often as_ its parent -/
theorem post_count {par : List Int} (h : Ahead par) (x : Nat) (hx : x < par.length) (hx0 : 0 < x) : ∀ (f : Nat) (i : Int), 0 ≤ i → i < par.length → (par.length : Int) - i ≤ f → (x : Int) ≠ i →
    (post par f i).count (x : Int) = (post par f i).count (par.getD x 0) := by
  intro f
  induction f with
  | zero => intro i h0 h1 h2; omega
  | succ f ih =>
    intro i h0 h1 h2 hne
    obtain ⟨hp0, hp1⟩ := (h x hx).2 hx0
    simp only [post, List.count_append, List.count_flatMap, List.count_singleton]
    have hnx : (i == (x : Int)) = false := by simpa using fun e => hne e.symm
    rw [hnx]
    by_cases hc : par.getD x 0 = i
    · -- x is a child of i
      have hii : (i == par.getD x 0) = true := by simpa using hc.symm
      rw [hii]
      have e1 : (childI par i).map (List.count (x : Int) ∘ post par f) = (childI par i).map (fun c => if c = (x : Int) then 1 else 0) := by
        apply List.map_congr_left
        intro c hcm
        obtain ⟨h3, h4⟩ := child_gt h h0 hcm
        by_cases e : c = (x : Int)
        · subst e
          simp only [Function.comp, if_pos]
          exact post_self h f x (by omega) h4 (by omega)
        · simp only [Function.comp, if_neg e]
          rw [ih c (by omega) h4 (by omega) (fun q => e q.symm), hc]
          refine List.count_eq_zero.2 fun hm => ?_
          have := (post_ge h f c (by omega) i hm).1
          omega
      have e2 : (childI par i).map (List.count (par.getD x 0) ∘ post par f) = (childI par i).map (fun _ => 0) := by
        apply List.map_congr_left
        intro c hcm
        obtain ⟨h3, h4⟩ := child_gt h h0 hcm
        rw [hc]
        refine List.count_eq_zero.2 fun hm => ?_
        have := (post_ge h f c (by omega) i hm).1
        omega
      rw [e1, e2, sum_one, (child_nodup par i).count]
      rw [if_pos (mem_child.2 ⟨x, hx, hc, rfl⟩), sum_zero]
      rfl
    · have hii : (i == par.getD x 0) = false := by simpa using fun e => hc e.symm
      rw [hii]
      have : (childI par i).map (List.count (x : Int) ∘ post par f) = (childI par i).map (List.count (par.getD x 0) ∘ post par f) := by
        apply List.map_congr_left
        intro c hcm
        obtain ⟨h3, h4⟩ := child_gt h h0 hcm
        refine ih c (by omega) h4 (by omega) ?_
        rintro rfl
        obtain ⟨k, _, hk2, hk3⟩ := mem_child.1 hcm
        have : k = x := by omega
        subst this
        exact hc hk2
      simp [this]
theorem count_root {par : List Int} (h : Ahead par) (f : Nat) (hf : par.length ≤ f) : ∀ x : Nat, x < par.length → (post par f 0).count (x : Int) = 1 := by
  intro x
  induction x using Nat.strongRecOn with
  | _ x ih =>
    intro hx
    rcases Nat.eq_zero_or_pos x with h0 | h0
    · subst h0
      exact post_self h f 0 (by omega) (by omega) (by omega)
    · rw [post_count h x hx h0 f 0 (by omega) (by omega) (by omega) (by omega)]
      obtain ⟨h1, h2⟩ := (h x hx).2 h0
      obtain ⟨p, hp⟩ := Int.eq_ofNat_of_zero_le h1
      rw [hp] at h2 ⊢
      exact ih p (by omega) (by omega)
theorem root_nodup {par : List Int} (h : Ahead par) (f : Nat) (hf : par.length ≤ f) (hn : 0 < par.length) : (post par f 0).Nodup := by
  rw [List.nodup_iff_count]
  intro a
  by_cases ha : a ∈ post par f 0
  · obtain ⟨h1, h2⟩ := post_ge h f 0 (by omega) a ha
    obtain ⟨p, rfl⟩ := Int.eq_ofNat_of_zero_le h1
    rw [count_root h f hf p (by omega)]
    exact Nat.le_refl _
  · rw [List.count_eq_zero.2 ha]; omega
theorem root_perm {par : List Int} (h : Ahead par) (f : Nat) (hf : par.length ≤ f) (hn : 0 < par.length) : (post par f 0).Perm ((List.range par.length).map Int.ofNat) := by
  rw [List.perm_iff_count]
  intro a
  by_cases ha : a ∈ post par f 0
  · obtain ⟨h1, h2⟩ := post_ge h f 0 (by omega) a ha
    obtain ⟨p, rfl⟩ := Int.eq_ofNat_of_zero_le h1
    have hp : p < par.length := by omega
    rw [count_root h f hf p hp]
    have hnd : ((List.range par.length).map Int.ofNat).Nodup := List.Pairwise.map _ (fun a b hab e => hab (Int.ofNat.inj e)) List.nodup_range
    rw [hnd.count, if_pos (show (p : Int) ∈ (List.range par.length).map Int.ofNat from List.mem_map.2 ⟨p, List.mem_range.2 hp, rfl⟩)]
  · rw [List.count_eq_zero.2 ha]
    symm
    refine List.count_eq_zero.2 fun hm => ?_
    obtain ⟨p, hp, rfl⟩ := List.mem_map.1 hm
    have h1 := count_root h f hf p (List.mem_range.1 hp)
    have : (post par f 0).count (Int.ofNat p) = 0 := List.count_eq_zero.2 ha
    rw [show (Int.ofNat p) = (p : Int) from rfl] at this
    omega
theorem root_length {par : List Int} (h : Ahead par) (f : Nat) (hf : par.length ≤ f) (hn : 0 < par.length) : (post par f 0).length = par.length := by
  rw [(root_perm h f hf hn).length_eq]; simp
/-- whoever is no root has its parent behind -/
theorem behind {par : List Int} (h : Ahead par) : ∀ (f : Nat) (i : Int), 0 ≤ i → ∀ (u v : List Int) (x : Int), post par f i = u ++ x :: v → x ≠ i → ∃ k : Nat, x = (k : Int) ∧ par.getD k 0 ∈ v := by
  intro f
  induction f with
  | zero => intro i _ u v x e; simp [post] at e
  | succ f ih =>
    intro i h0 u v x e hne
    have key : ∀ (cs : List Int), (∀ c ∈ cs, c ∈ childI par i) → ∀ u v, cs.flatMap (post par f) ++ [i] = u ++ x :: v → ∃ k : Nat, x = (k : Int) ∧ par.getD k 0 ∈ v := by
      intro cs
      induction cs with
      | nil =>
        intro _ u v e
        simp only [List.flatMap_nil, List.nil_append] at e
        cases u with
        | nil => simp at e; exact absurd e.1.symm hne
        | cons a u => simp at e
      | cons c cs ihc =>
        intro hcs u v e
        rw [List.flatMap_cons, List.append_assoc] at e
        rcases List.append_eq_append_iff.1 e with ⟨as_, h1, h2⟩ | ⟨bs, h1, h2⟩
        · -- x lies behind c's part
          exact (ihc (fun c' hc' => hcs c' (List.mem_cons_of_mem _ hc')) as_ v h2)
        · cases bs with
          | nil =>
            simp at h1 h2
            exact (ihc (fun c' hc' => hcs c' (List.mem_cons_of_mem _ hc')) [] v (by simpa using h2.symm))
          | cons b bs =>
            simp only [List.cons_append, List.cons.injEq] at h2
            obtain ⟨rfl, h2⟩ := h2
            have hcm := hcs c List.mem_cons_self
            obtain ⟨h3, h4⟩ := child_gt h h0 hcm
            by_cases hxc : x = c
            · obtain ⟨k, _, hk2, hk3⟩ := mem_child.1 hcm
              refine ⟨k, hxc.trans hk3, ?_⟩
              rw [hk2, h2]
              simp
            · obtain ⟨k, hk1, hk2⟩ := ih c (by omega) u bs x h1 hxc
              exact ⟨k, hk1, by rw [h2]; exact List.mem_append_left _ hk2⟩
    exact key (childI par i) (fun c hc => hc) u v e

end Go.Proofs.Ytpmfdggbccbfaaa.PostL

set_option linter.unusedVariables false
namespace Go.Proofs.Ytpmfdggbccbfaaa.Pr
open Go.RowKit Go.Proofs.YtpmfdggbccbfaaaW.PrintWords Go.Proofs.YtpmfdggbccbfaaaW.PrintLast Go.Proofs.Ytpmfdggbccbfaaa.PostL

theorem merge_both : ∀ (a b : List Int) (x : Int), x ∈ mergeL false true false a b → x ∈ a ∧ x ∈ b := by
  have key : ∀ n a b, a.length + b.length = n → ∀ x, x ∈ mergeL false true false a b → x ∈ a ∧ x ∈ b := by
    intro n
    induction n using Nat.strongRecOn with
    | _ n ih =>
      intro a b h x hx
      match a, b with
      | [], [] => simp [mergeL_nn] at hx
      | y :: l, [] =>
        rw [mergeL_cn] at hx
        have := ih l.length (by simp at h; omega) l [] (by simp) x (by simpa [keepL] using hx)
        simp at this
      | [], z :: m =>
        rw [mergeL_nc] at hx
        have := ih m.length (by simp at h; omega) [] m (by simp) x (by simpa [keepL] using hx)
        simp at this
      | y :: l, z :: m =>
        rw [mergeL_cc] at hx
        by_cases h1 : y < z
        · rw [if_pos h1] at hx
          have := ih (l.length + (m.length + 1)) (by simp at h; omega) l (z :: m) (by simp) x (by simpa [keepL] using hx)
          exact ⟨List.mem_cons_of_mem _ this.1, this.2⟩
        · rw [if_neg h1] at hx
          by_cases h2 : z < y
          · rw [if_pos h2] at hx
            have := ih (l.length + 1 + m.length) (by simp at h; omega) (y :: l) m (by simp) x (by simpa [keepL] using hx)
            exact ⟨this.1, List.mem_cons_of_mem _ this.2⟩
          · rw [if_neg h2] at hx
            have e : y = z := by omega
            subst e
            simp only [keepL, if_true, List.mem_cons] at hx
            rcases hx with rfl | hx
            · simp
            · have := ih (l.length + m.length) (by simp at h; omega) l m rfl x hx
              exact ⟨List.mem_cons_of_mem _ this.1, List.mem_cons_of_mem _ this.2⟩
  intro a b x hx
  exact key _ a b rfl x hx
theorem uniteL_length (a m : List Int) : (uniteL a m).length = a.length + m.length := by
  fun_induction uniteL a m <;> simp_all <;> omega
/-- a tree as 'shape' makes it -/
def GoodT (bags : List (List Int)) (par : List Int) : Prop := bags.length = par.length ∧ par.length ≤ 10 ∧ Ahead par ∧ ∀ b ∈ bags, b.length ≤ 6
theorem ahead_snoc {par : List Int} {p : Int} (h : Ahead par) (h0 : par.length = 0 → p = -1) (h1 : 0 < par.length → 0 ≤ p ∧ p < par.length) : Ahead (par ++ [p]) := by
  intro k hk
  simp only [List.length_append, List.length_singleton] at hk
  by_cases e : k < par.length
  · have e2 : (par ++ [p]).getD k 0 = par.getD k 0 := by simp [List.getD_eq_getElem?_getD, List.getElem?_append_left e]
    rw [e2]; exact h k e
  · have e3 : k = par.length := by omega
    subst e3
    have e2 : (par ++ [p]).getD par.length 0 = p := by simp [List.getD_eq_getElem?_getD]
    rw [e2]
    exact ⟨h0, h1⟩
theorem shape_l1 (x0 : List Int) (x1 : List (List Int)) (i : Int) (hi0 : 0 ≤ i) (hi1 : i < (x1.length : Int)) (B : List (List Int)) (P : List Int) : ∀ (d k : Nat) (b : List Int), k + d = 6 → b.length ≤ k → ∃ b' : List Int, b'.length ≤ 6 ∧ ∀ r, Ev (fun n => arboristlaw13_shape.j3 n x0 x1 i b' B P) r → Ev (fun n => arboristlaw13_shape.l1 n x0 x1 i b (k : Int) B P) r := by
  intro d
  induction d with
  | zero =>
    intro k b hk hb
    refine ⟨b, by omega, fun r hr => Ev.step (fun n => ?_) hr⟩
    simp only [arboristlaw13_shape.l1]
    rw [if_pos hi0, if_pos hi1]
    by_cases e : (k : Int) < ((rd_L1 x1 i).length : Int)
    · rw [if_pos e, if_neg (by omega)]
    · rw [if_neg e]
  | succ d ih =>
    intro k b hk hb
    by_cases e : (k : Int) < ((rd_L1 x1 i).length : Int)
    · generalize hv : Go.bits .and .i64 (rd (rd_L1 x1 i) (k : Int)) 15 = v
      have hu : Ev (fun n => arboristref01_Unite.f n b [v]) (uniteL b (withoutL [v] b)) := Unite_ev b _ (by simp; omega)
      have hw := withoutL_len [v] b
      simp only [List.length_singleton] at hw
      obtain ⟨b', h1, h2⟩ := ih (k + 1) (uniteL b (withoutL [v] b)) (by omega) (by rw [uniteL_length]; omega)
      refine ⟨b', h1, fun r hr => Ev.step (f := fun n => (arboristref01_Unite.f n b [v]).bind fun t => arboristlaw13_shape.l1 n x0 x1 i t ((k + 1 : Nat) : Int) B P) (fun n => ?_) (Ev.bind (f := fun n t => arboristlaw13_shape.l1 n x0 x1 i t ((k + 1 : Nat) : Int) B P) hu (h2 r hr))⟩
      simp only [arboristlaw13_shape.l1]
      rw [if_pos hi0, if_pos hi1, if_pos e, if_pos (by omega), if_pos (by omega), wrap_nat k (by omega), hv]
    · refine ⟨b, by omega, fun r hr => Ev.step (fun n => ?_) hr⟩
      simp only [arboristlaw13_shape.l1]
      rw [if_pos hi0, if_pos hi1, if_neg e]
theorem shape_l0 (x0 : List Int) (x1 : List (List Int)) : ∀ (d : Nat) (B : List (List Int)) (P : List Int), B.length + d = 10 → GoodT B P → ∃ B' P', GoodT B' P' ∧ Ev (fun n => arboristlaw13_shape.l0 n x0 x1 (B.length : Int) B P) (B', P') := by
  intro d
  induction d with
  | zero =>
    intro B P hd hg
    refine ⟨B, P, hg, ?_⟩
    refine Ev.step (f := fun n => arboristlaw13_shape.j1 n x0 x1 (B.length : Int) false B P) (fun n => ?_) (Ev.step (f := fun _ => some (B, P)) (fun n => ?_) (Ev.now _))
    · simp only [arboristlaw13_shape.l0]
      by_cases e : (B.length : Int) < (x1.length : Int)
      · rw [if_pos e, show decide ((B.length : Int) < 10) = false from decide_eq_false (by omega)]
      · rw [if_neg e]
    · simp only [arboristlaw13_shape.j1]; rw [if_neg (by simp)]
  | succ d ih =>
    intro B P hd hg
    obtain ⟨g1, g2, g3, g4⟩ := hg
    by_cases e : (B.length : Int) < (x1.length : Int)
    · obtain ⟨b', hb, hl⟩ := shape_l1 x0 x1 (B.length : Int) (by omega) e B P 6 0 [] (by omega) (by simp)
      have go : ∀ p : Int, (P.length = 0 → p = -1) → (0 < P.length → 0 ≤ p ∧ p < P.length) → ∃ B' P', GoodT B' P' ∧ Ev (fun n => arboristlaw13_shape.l0 n x0 x1 ((B.length + 1 : Nat) : Int) (B ++ [b']) (P ++ [p])) (B', P') := by
        intro p h0 h1
        have := ih (B ++ [b']) (P ++ [p]) (by simp; omega) ⟨by simp [g1], by simp; omega, ahead_snoc g3 h0 h1, by
          intro b hb2
          simp only [List.mem_append, List.mem_singleton] at hb2
          rcases hb2 with hb2 | rfl
          · exact g4 b hb2
          · exact hb⟩
        rw [show (B ++ [b']).length = B.length + 1 by simp] at this
        exact this
      have pre : ∀ r, Ev (fun n => arboristlaw13_shape.j3 n x0 x1 (B.length : Int) b' B P) r → Ev (fun n => arboristlaw13_shape.l0 n x0 x1 (B.length : Int) B P) r := by
        intro r h
        refine Ev.step (f := fun n => arboristlaw13_shape.j1 n x0 x1 (B.length : Int) true B P) (fun n => ?_) (Ev.step (f := fun n => arboristlaw13_shape.l1 n x0 x1 (B.length : Int) [] 0 B P) (fun n => ?_) (hl r h))
        · simp only [arboristlaw13_shape.l0]
          rw [if_pos e, show decide ((B.length : Int) < 10) = true from decide_eq_true (by omega)]
        · simp only [arboristlaw13_shape.j1]; rw [if_pos trivial]
      by_cases z : B.length = 0
      · obtain ⟨B', P', g, h⟩ := go (-1) (fun _ => rfl) (by omega)
        refine ⟨B', P', g, pre _ (Ev.step (fun n => ?_) h)⟩
        simp only [arboristlaw13_shape.j3]
        rw [if_neg (by omega), if_pos (by omega), if_pos (by omega), wrap_nat _ (by omega)]
      · by_cases y : (B.length : Int) < (x0.length : Int)
        · obtain ⟨B', P', g, h⟩ := go (Int.tmod (Go.bits .and .i64 (rd x0 (B.length : Int)) 65535) (B.length : Int)) (by omega) (fun _ => by
            rw [i64_and65535, Int.tmod_eq_emod_of_nonneg (by omega), ← g1]
            exact ⟨Int.emod_nonneg _ (by omega), Int.emod_lt_of_pos _ (by omega)⟩)
          refine ⟨B', P', g, pre _ (Ev.step (fun n => ?_) h)⟩
          simp only [arboristlaw13_shape.j3]
          rw [if_pos (by omega), if_pos y, if_pos (by omega), if_neg (by omega), if_pos (by omega), if_pos (by omega), wrap_nat _ (by omega)]
        · obtain ⟨B', P', g, h⟩ := go 0 (by omega) (by omega)
          refine ⟨B', P', g, pre _ (Ev.step (fun n => ?_) h)⟩
          simp only [arboristlaw13_shape.j3]
          rw [if_pos (by omega), if_neg y, if_pos (by omega), if_pos (by omega), wrap_nat _ (by omega)]
    · refine ⟨B, P, ⟨g1, g2, g3, g4⟩, ?_⟩
      refine Ev.step (f := fun n => arboristlaw13_shape.j1 n x0 x1 (B.length : Int) false B P) (fun n => ?_) (Ev.step (f := fun _ => some (B, P)) (fun n => ?_) (Ev.now _))
      · simp only [arboristlaw13_shape.l0]
        rw [if_neg e]
      · simp only [arboristlaw13_shape.j1]; rw [if_neg (by simp)]
theorem shape_ev (x0 : List Int) (x1 : List (List Int)) : ∃ B P, GoodT B P ∧ Ev (fun n => arboristlaw13_shape.f n x0 x1) (B, P) :=
  shape_l0 x0 x1 10 [] [] rfl ⟨rfl, by simp, by intro k hk; simp at hk, by simp⟩
theorem Children_loop (par : List Int) (hl : par.length < 17592186044416) (i : Int) (hi : 0 ≤ i) : ∀ (d k : Nat) (out : List Int), par.length = k + d → out.length ≤ k → Ev (fun n => place_Children.l0 n i out par (par.length : Int) (k : Int)) (out ++ ((List.range' k d).filter (fun k => par.getD k 0 == i)).map Int.ofNat) := by
  intro d
  induction d with
  | zero =>
    intro k out h ho
    refine Ev.step (f := fun _ => some out) (fun n => ?_) (by simpa using Ev.now out)
    simp only [place_Children.l0]
    rw [if_neg (by omega)]
  | succ d ih =>
    intro k out h ho
    have er : rd par (k : Int) = par.getD k 0 := rfl
    by_cases e : par.getD k 0 = i
    · have := ih (k + 1) (out ++ [(k : Int)]) (by omega) (by simp; omega)
      refine Ev.step (f := fun n => place_Children.l0 n i (out ++ [(k : Int)]) par (par.length : Int) ((k + 1 : Nat) : Int)) (fun n => ?_) ?_
      · simp only [place_Children.l0]
        rw [if_pos (by omega), if_pos (by omega), if_pos (by omega), er, if_pos e, if_pos hi, if_pos (by omega), wrap_nat k (by omega)]
      · rw [List.range'_succ, List.filter_cons, if_pos (by simpa using e)]
        simpa using this
    · have := ih (k + 1) out (by omega) (by omega)
      refine Ev.step (f := fun n => place_Children.l0 n i out par (par.length : Int) ((k + 1 : Nat) : Int)) (fun n => ?_) ?_
      · simp only [place_Children.l0]
        rw [if_pos (by omega), if_pos (by omega), if_pos (by omega), er, if_neg e, wrap_nat k (by omega)]
      · rw [List.range'_succ, List.filter_cons, if_neg (by simpa using e)]
        exact this
theorem Children_ev (B : List (List Int)) (par : List Int) (hl : par.length < 17592186044416) (i : Int) (hi : 0 ≤ i) : Ev (fun n => place_Children.f n B par i) (childI par i) := by
  have := Children_loop par hl i hi par.length 0 [] (by omega) (by simp)
  rw [← List.range_eq_range'] at this
  exact this
end Go.Proofs.Ytpmfdggbccbfaaa.Pr

set_option linter.unusedVariables false
set_option linter.unusedSimpArgs false
namespace Go.Proofs.Ytpmfdggbccbfaaa.Pr
open Go.RowKit Go.Proofs.YtpmfdggbccbfaaaW.PrintWords Go.Proofs.YtpmfdggbccbfaaaW.PrintLast Go.Proofs.Ytpmfdggbccbfaaa.PostL

theorem wrap_in {i : Int} (h0 : -9223372036854775808 ≤ i) (h1 : i < 9223372036854775808) : wrap64 i = i := by
  unfold wrap64
  try simp only
  omega
theorem Reverse_loop : ∀ (d : Nat) (a m c : List Int), m.length = d → a.length + m.length + c.length < 4611686018427387904 → Ev (fun k => slices_Reverse_int_int.l0 k (a ++ m ++ c) (a.length : Int) ((a.length : Int) + (m.length : Int) - 1)) (a ++ m.reverse ++ c) := by
  intro d
  induction d using Nat.strongRecOn with
  | _ d ih =>
    intro a m c hd hl
    by_cases h2 : m.length < 2
    · have hm : m.reverse = m := by
        match m with
        | [] => rfl
        | [x] => rfl
        | x :: y :: l => simp at h2; omega
      rw [hm]
      refine Ev.step (f := fun _ => some (a ++ m ++ c)) (fun k => ?_) (Ev.now _)
      simp only [slices_Reverse_int_int.l0]
      rw [if_neg (by omega)]
    · obtain ⟨x, mid, y, rfl⟩ : ∃ x mid y, m = x :: (mid ++ [y]) := by
        match m with
        | [] => simp at h2
        | x :: l =>
          have hne : l ≠ [] := by rintro rfl; simp at h2
          exact ⟨x, l.dropLast, l.getLast hne, by rw [List.dropLast_concat_getLast]⟩
      have e1 : (x :: (mid ++ [y])).length = mid.length + 2 := by simp
      rw [e1] at hl hd ⊢
      have r1 : rd (a ++ x :: (mid ++ [y]) ++ c) (a.length : Int) = x := by
        rw [rd_nat _ _ x (by simp)]
      have r2 : rd (a ++ x :: (mid ++ [y]) ++ c) ((a.length : Int) + ((mid.length + 2 : Nat) : Int) - 1) = y := by
        rw [show (a.length : Int) + ((mid.length + 2 : Nat) : Int) - 1 = ((a.length + mid.length + 1 : Nat) : Int) by omega]
        rw [rd_nat _ _ y ?_]
        rw [show a ++ x :: (mid ++ [y]) ++ c = (a ++ x :: mid) ++ y :: c by simp, List.getElem?_append_right (by simp; omega)]
        simp [show a.length + mid.length + 1 - (a.length + (mid.length + 1)) = 0 by omega]
      have s1 : (a ++ x :: (mid ++ [y]) ++ c).set a.length y = a ++ y :: (mid ++ [y]) ++ c := by simp [List.set_append]
      have s2 : (a ++ y :: (mid ++ [y]) ++ c).set (a.length + mid.length + 1) x = a ++ y :: (mid ++ [x]) ++ c := by
        rw [show a ++ y :: (mid ++ [y]) ++ c = (a ++ y :: mid) ++ y :: c by simp, List.set_append_right _ _ (by simp; omega)]
        simp [show a.length + mid.length + 1 - (a.length + (mid.length + 1)) = 0 by omega]
      have := ih mid.length (by omega) (a ++ [y]) mid (x :: c) rfl (by simp; omega)
      refine Ev.step (f := fun k => slices_Reverse_int_int.l0 k ((a ++ [y]) ++ mid ++ (x :: c)) ((a ++ [y]).length : Int) (((a ++ [y]).length : Int) + (mid.length : Int) - 1)) (fun k => ?_) ?_
      · simp only [slices_Reverse_int_int.l0]
        rw [if_pos (by omega), if_pos (by omega), if_pos (by simp; omega), if_pos (by omega), if_pos (by simp; omega), r1, r2]
        rw [show ((a.length : Int) + ((mid.length + 2 : Nat) : Int) - 1).toNat = a.length + mid.length + 1 by omega, show ((a.length : Int)).toNat = a.length from rfl, s1, s2, wrap_nat a.length (by omega)]
        congr 1
        · simp
        · simp
        · rw [wrap_in (by omega) (by omega)]
          simp
          omega
      · simpa using this
theorem Reverse_ev (l : List Int) (h : l.length < 4611686018427387904) : Ev (fun k => slices_Reverse_int_int.f k l) l.reverse := by
  have := Reverse_loop l.length [] l [] rfl (by simpa using h)
  refine Ev.congr (f := fun k => slices_Reverse_int_int.l0 k l 0 ((l.length : Int) - 1)) (fun k => ?_) (by simpa using this)
  show slices_Reverse_int_int.l0 k l 0 (wrap64 ((l.length : Int) - 1)) = _
  rw [wrap_in (by omega) (by omega)]
theorem After_loop (B : List (List Int)) (P : List Int) (h : Ahead P) (hn : P.length < 1000000) : ∀ (m : Nat) (out st : List Int), (∀ s ∈ st, 0 ≤ s ∧ s < P.length) → (st.flatMap (post P P.length)).length = m → out.length + m ≤ P.length → st.length < 1000000 + out.length * 1000000 → Ev (fun k => place_After.l0 k out st B P) (st.flatMap (post P P.length) ++ out.reverse) := by
  intro m
  induction m with
  | zero =>
    intro out st hs hm ho hb
    have e : st = [] := by
      cases st with
      | nil => rfl
      | cons s st =>
        have hs0 := hs s (by simp)
        have hc := post_self h P.length s hs0.1 hs0.2 (by omega)
        have : 0 < (post P P.length s).length := List.length_pos_of_mem (List.count_pos_iff.1 (by rw [hc]; omega) : s ∈ post P P.length s)
        simp at hm
        simp [hm.1] at this
    subst e
    refine Ev.step (f := fun k => place_After.j1 k out [] false B P) (fun k => ?_) (Ev.step (f := fun k => (slices_Reverse_int_int.f k out).bind fun t => some t) (fun k => ?_) ?_)
    · simp only [place_After.l0]
      rw [if_neg (by simp)]
    · simp only [place_After.j1]
      rw [if_neg (by simp)]
    · simpa using Ev.bind (f := fun _ (t : List Int) => some t) (Reverse_ev out (by omega)) (Ev.now _)
  | succ m ih =>
    intro out st hs hm ho hb
    have hne : st ≠ [] := by rintro rfl; simp at hm
    obtain ⟨st', i, rfl⟩ : ∃ st' i, st = st' ++ [i] := ⟨st.dropLast, st.getLast hne, by rw [List.dropLast_concat_getLast]⟩
    have hi := hs i (by simp)
    have hu : post P P.length i = (childI P i).flatMap (post P P.length) ++ [i] := post_at h i hi.1 hi.2 P.length (P.length + 1) (by omega) (by omega)
    have hc : (childI P i).length ≤ P.length := by
      unfold childI
      rw [List.length_map]
      exact Nat.le_trans (List.length_filter_le _ _) (by simp)
    have e1 : (st' ++ [i]).flatMap (post P P.length) = (st' ++ childI P i).flatMap (post P P.length) ++ [i] := by
      simp [hu]
    rw [e1] at hm ⊢
    simp only [List.length_append, List.length_singleton] at hm hb
    have := ih (out ++ [i]) (st' ++ childI P i) (by
      intro s hs2
      rcases List.mem_append.1 hs2 with hs2 | hs2
      · exact hs s (by simp [hs2])
      · have := child_gt h hi.1 hs2; omega) (by omega) (by simp; omega) (by simp; omega)
    have w : wrap64 (((st' ++ [i]).length : Int) - 1) = (st'.length : Int) := by
      rw [wrap_in (by simp <;> omega) (by simp <;> omega)]; simp
    have rr : rd (st' ++ [i]) (st'.length : Int) = i := rd_nat _ _ i (by simp)
    refine Ev.step (f := fun k => place_After.j1 k out (st' ++ [i]) true B P) (fun k => ?_) (Ev.step (f := fun k => (place_Children.f k B P i).bind fun t => if st'.length + t.length < 17592186044416 then place_After.l0 k (out ++ [i]) (st' ++ t) B P else none) (fun k => ?_) ?_)
    · simp only [place_After.l0]
      rw [if_pos (by simp), show decide ((out.length : Int) ≤ (P.length : Int)) = true from decide_eq_true (by omega)]
    · simp only [place_After.j1]
      rw [w, if_pos trivial, if_pos (by omega), if_pos (by simp; omega), if_pos (by simp; omega), rr]
      simp only [Option.bind_some]
      rw [if_neg (by omega), if_pos (by omega)]
      simp
    · refine Ev.bind (f := fun k (t : List Int) => if st'.length + t.length < 17592186044416 then place_After.l0 k (out ++ [i]) (st' ++ t) B P else none) (Children_ev B P (by omega) i hi.1) ?_
      have o1 : out.length < P.length := by omega
      have o2 : st'.length + (childI P i).length < 17592186044416 := by
        have : out.length * 1000000 < 1000000 * 1000000 := by omega
        omega
      simp only [if_pos o2]
      simpa using this
end Go.Proofs.Ytpmfdggbccbfaaa.Pr

set_option linter.unusedVariables false
set_option linter.unusedSimpArgs false
namespace Go.Proofs.Ytpmfdggbccbfaaa.Pr
open Go.RowKit Go.Proofs.YtpmfdggbccbfaaaW.PrintWords Go.Proofs.YtpmfdggbccbfaaaW.PrintLast Go.Proofs.Ytpmfdggbccbfaaa.PostL

theorem Meet_loop (a b : List Int) (ha : a.length < 17592186044416) (hb : b.length ≤ 9223372036854775807) : ∀ (d i : Nat) (out : List Int), a.length = i + d → out.length ≤ i → Ev (fun k => arboristref01_Meet.l0 k a b out (i : Int)) (out ++ meetL (a.drop i) b) := by
  intro d
  induction d with
  | zero =>
    intro i out h ho
    refine Ev.step (f := fun _ => some (out ++ meetL (a.drop i) b)) (fun k => ?_) (Ev.now _)
    simp only [arboristref01_Meet.l0]
    rw [if_neg (by omega), List.drop_eq_nil_of_le (by omega)]
    simp [meetL]
  | succ d ih =>
    intro i out h ho
    have hi : i < a.length := by omega
    refine Ev.step (f := fun k => (arboristref01_In.f k b (rd a (i : Int))).bind fun t => if t = true then (if out.length < 17592186044416 then arboristref01_Meet.l0 k a b (out ++ [rd a (i : Int)]) ((i + 1 : Nat) : Int) else none) else arboristref01_Meet.l0 k a b out ((i + 1 : Nat) : Int)) (fun k => ?_) ?_
    · simp only [arboristref01_Meet.l0]
      rw [if_pos (by omega), if_pos (by omega), wrap_nat i (by omega)]
    · refine Ev.bind (In_ev b hb _) ?_
      rw [drop_at a i hi]
      cases hc : inB b (rd a (i : Int)) with
      | false =>
        have := ih (i + 1) out (by omega) (by omega)
        simpa [meetL, hc] using this
      | true =>
        have := ih (i + 1) (out ++ [rd a (i : Int)]) (by omega) (by simp; omega)
        have hlt : out.length < 17592186044416 := by omega
        simpa [meetL, hc, hlt] using this
theorem Meet_ev (a b : List Int) (ha : a.length < 17592186044416) (hb : b.length ≤ 9223372036854775807) : Ev (fun k => arboristref01_Meet.f k a b) (meetL a b) := by
  have := Meet_loop a b ha hb a.length 0 [] (by omega) (by simp)
  simpa [arboristref01_Meet.f] using this
theorem inB_cons (z : Int) (m : List Int) (x : Int) : inB (z :: m) x = (z == x || inB m x) := rfl
theorem merge_meet : ∀ (n : Nat) (a b : List Int), a.length + b.length = n → a.Pairwise (· < ·) → b.Pairwise (· < ·) → mergeL false true false a b = meetL a b := by
  intro n
  induction n using Nat.strongRecOn with
  | _ n ih =>
    intro a b h ha hb
    match a, b with
    | [], [] => simp [mergeL_nn, meetL]
    | y :: l, [] =>
      rw [mergeL_cn]
      have := ih l.length (by simp at h; omega) l [] (by simp) (List.pairwise_cons.1 ha).2 hb
      simpa [keepL, meetL, inB] using this
    | [], z :: m =>
      rw [mergeL_nc]
      have := ih m.length (by simp at h; omega) [] m (by simp) ha (List.pairwise_cons.1 hb).2
      simpa [keepL, meetL] using this
    | y :: l, z :: m =>
      rw [mergeL_cc]
      obtain ⟨ha1, ha2⟩ := List.pairwise_cons.1 ha
      obtain ⟨hb1, hb2⟩ := List.pairwise_cons.1 hb
      have not_in : ∀ (r : List Int) (x : Int), (∀ w ∈ r, x < w) → inB r x = false := by
        intro r x hr
        unfold inB
        rw [List.any_eq_false]
        intro w hw e
        have e2 : w = x := by simpa using e
        have := hr w hw
        omega
      by_cases h1 : y < z
      · rw [if_pos h1]
        have := ih (l.length + (m.length + 1)) (by simp at h; omega) l (z :: m) (by simp) ha2 hb
        have e : inB (z :: m) y = false := not_in _ _ (by
          intro w hw
          rcases List.mem_cons.1 hw with rfl | hw
          · exact h1
          · have := hb1 w hw; omega)
        simp only [keepL, meetL, List.filter_cons, e] at this ⊢
        simpa using this
      · rw [if_neg h1]
        by_cases h2 : z < y
        · rw [if_pos h2]
          have := ih (l.length + 1 + m.length) (by simp at h; omega) (y :: l) m (by simp) ha hb2
          have e : meetL (y :: l) (z :: m) = meetL (y :: l) m := by
            unfold meetL
            apply List.filter_congr
            intro w hw
            rw [inB_cons]
            have : (z == w) = false := by
              rcases List.mem_cons.1 hw with rfl | hw
              · simpa using (by omega : ¬ z = w)
              · have := ha1 w hw
                simpa using (by omega : ¬ z = w)
            rw [this, Bool.false_or]
          rw [e]
          simpa [keepL] using this
        · rw [if_neg h2]
          have e : y = z := by omega
          subst e
          have := ih (l.length + m.length) (by simp at h; omega) l m rfl ha2 hb2
          have e2 : meetL (y :: l) (y :: m) = y :: meetL l m := by
            unfold meetL
            rw [List.filter_cons, if_pos (by rw [inB_cons]; simp)]
            congr 1
            apply List.filter_congr
            intro w hw
            rw [inB_cons]
            have h3 := ha1 w hw
            have : (y == w) = false := by simpa using (by omega : ¬ y = w)
            rw [this, Bool.false_or]
          rw [e2]
          simpa [keepL] using this
theorem RChildren_loop (B : List (List Int)) (par : List Int) (hl : par.length < 17592186044416) (i : Int) (hi : 0 ≤ i) : ∀ (d k : Nat) (out : List Int), par.length = k + d → out.length ≤ k → Ev (fun n => arboristref13_Children.l0 n i out (k : Int) B par) (out ++ ((List.range' k d).filter (fun k => par.getD k 0 == i)).map Int.ofNat) := by
  intro d
  induction d with
  | zero =>
    intro k out h ho
    refine Ev.step (f := fun _ => some out) (fun n => ?_) (by simpa using Ev.now out)
    simp only [arboristref13_Children.l0]
    rw [if_neg (by omega)]
  | succ d ih =>
    intro k out h ho
    have er : rd par (k : Int) = par.getD k 0 := rfl
    by_cases e : par.getD k 0 = i
    · have := ih (k + 1) (out ++ [(k : Int)]) (by omega) (by simp; omega)
      refine Ev.step (f := fun n => arboristref13_Children.l0 n i (out ++ [(k : Int)]) ((k + 1 : Nat) : Int) B par) (fun n => ?_) ?_
      · simp only [arboristref13_Children.l0]
        rw [if_pos (by omega), if_pos (by omega), er, if_pos e, if_pos hi, if_pos (by omega), wrap_nat k (by omega)]
      · rw [List.range'_succ, List.filter_cons, if_pos (by simpa using e)]
        simpa using this
    · have := ih (k + 1) out (by omega) (by omega)
      refine Ev.step (f := fun n => arboristref13_Children.l0 n i out ((k + 1 : Nat) : Int) B par) (fun n => ?_) ?_
      · simp only [arboristref13_Children.l0]
        rw [if_pos (by omega), if_pos (by omega), er, if_neg e, wrap_nat k (by omega)]
      · rw [List.range'_succ, List.filter_cons, if_neg (by simpa using e)]
        exact this
theorem RChildren_ev (B : List (List Int)) (par : List Int) (hl : par.length < 17592186044416) (i : Int) (hi : 0 ≤ i) : Ev (fun n => arboristref13_Children.f n B par i) (childI par i) := by
  have := RChildren_loop B par hl i hi par.length 0 [] (by omega) (by simp)
  rw [← List.range_eq_range'] at this
  exact this
theorem below_each (B : List (List Int)) (P : List Int) (i : Int) (f : Nat) (cs : List Int) (hcs : cs.length < 1000000) (h : ∀ c ∈ cs, Ev (fun k => arboristref13_below.f k B P c) (post P f c)) (hb : (cs.flatMap (post P f)).length < 1000000) : ∀ (d k : Nat) (out : List Int), cs.length = k + d → out = (cs.take k).flatMap (post P f) → Ev (fun n => arboristref13_below.l0 n i out cs (k : Int) B P) (cs.flatMap (post P f) ++ [i]) := by
  intro d
  induction d with
  | zero =>
    intro k out hk ho
    rw [List.take_of_length_le (by omega)] at ho
    refine Ev.step (f := fun _ => some (out ++ [i])) (fun n => ?_) (by rw [ho]; exact Ev.now _)
    simp only [arboristref13_below.l0]
    rw [if_neg (by omega), if_pos (by rw [ho]; omega)]
  | succ d ih =>
    intro k out hk ho
    have hlt : k < cs.length := by omega
    have hg : rd cs (k : Int) = cs[k] := rd_nat _ _ _ (List.getElem?_eq_getElem hlt)
    have e : out ++ post P f cs[k] = (cs.take (k + 1)).flatMap (post P f) := by
      rw [ho, List.take_succ_eq_append_getElem hlt, List.flatMap_append]
      simp only [List.flatMap_cons, List.flatMap_nil, List.append_nil]
    have hle : (out ++ post P f cs[k]).length ≤ (cs.flatMap (post P f)).length := by
      rw [e]
      conv => rhs; rw [← List.take_append_drop (k + 1) cs, List.flatMap_append]
      simp only [List.length_append]; omega
    have := ih (k + 1) (out ++ post P f cs[k]) (by omega) e
    simp only [List.length_append] at hle
    refine Ev.step (f := fun n => (arboristref13_below.f n B P cs[k]).bind fun t => if out.length + t.length < 17592186044416 then arboristref13_below.l0 n i (out ++ t) cs ((k + 1 : Nat) : Int) B P else none) (fun n => ?_) ?_
    · simp only [arboristref13_below.l0]
      rw [if_pos (by omega), if_pos (by omega), hg, wrap_nat k (by omega)]
    · refine Ev.bind (f := fun n (t : List Int) => if out.length + t.length < 17592186044416 then arboristref13_below.l0 n i (out ++ t) cs ((k + 1 : Nat) : Int) B P else none) (h _ (List.getElem_mem hlt)) ?_
      have o2 : out.length + (post P f cs[k]).length < 17592186044416 := by omega
      simp only [if_pos o2]
      exact this
theorem below_ev (B : List (List Int)) (P : List Int) (h : Ahead P) (hn : P.length < 1000000) : ∀ (f : Nat) (i : Int), 0 ≤ i → i < P.length → (P.length : Int) - i ≤ f → (post P f i).length < 1000000 → Ev (fun k => arboristref13_below.f k B P i) (post P f i) := by
  intro f
  induction f with
  | zero => intro i h0 h1 h2; omega
  | succ f ih =>
    intro i h0 h1 h2 hb
    have hu : post P (f + 1) i = (childI P i).flatMap (post P f) ++ [i] := rfl
    rw [hu] at hb ⊢
    simp only [List.length_append, List.length_singleton] at hb
    have hc : (childI P i).length ≤ P.length := by
      unfold childI
      rw [List.length_map]
      exact Nat.le_trans (List.length_filter_le _ _) (by simp)
    refine Ev.step (f := fun k => (arboristref13_Children.f k B P i).bind fun t => arboristref13_below.l0 k i [] t 0 B P) (fun k => ?_) ?_
    · simp only [arboristref13_below.f]
    · refine Ev.bind (f := fun k t => arboristref13_below.l0 k i [] t 0 B P) (RChildren_ev B P (by omega) i h0) ?_
      refine below_each B P i f (childI P i) (by omega) (fun c hc2 => ?_) (by omega) (childI P i).length 0 [] (by omega) (by simp)
      obtain ⟨h3, h4⟩ := child_gt h h0 hc2
      refine ih c (by omega) h4 (by omega) ?_
      obtain ⟨u, v, e⟩ := List.append_of_mem hc2
      rw [e] at hb
      simp only [List.flatMap_append, List.flatMap_cons, List.length_append] at hb
      omega
theorem RAfter_ev {B : List (List Int)} {P : List Int} (hg : GoodT B P) : Ev (fun k => arboristref13_After.f k B P) (post P P.length 0) := by
  obtain ⟨g1, g2, g3, g4⟩ := hg
  by_cases z : 0 < P.length
  · have hl := root_length g3 P.length (Nat.le_refl _) z
    have e : rd P 0 = -1 := (g3 0 z).1 rfl
    refine Ev.step (f := fun k => (arboristref13_below.f k B P 0).bind fun t => some t) (fun k => ?_) ?_
    · show arboristref13_After.l0 (k + 1) 0 B P = _
      simp only [arboristref13_After.l0]
      rw [if_pos (by omega), if_pos (by omega), if_pos (by omega)]
    · exact Ev.bind (f := fun _ (t : List Int) => some t) (below_ev B P g3 (by omega) P.length 0 (by omega) (by omega) (by omega) (by omega)) (Ev.now _)
  · have e : P = [] := List.length_eq_zero_iff.1 (by omega)
    subst e
    refine Ev.step (f := fun _ => some []) (fun k => ?_) (Ev.now _)
    rfl
theorem uniteL_mem (a m : List Int) (x : Int) : x ∈ uniteL a m ↔ x ∈ a ∨ x ∈ m := by
  fun_induction uniteL a m with
  | case1 r => simp
  | case2 a l => simp
  | case3 a l m r h ih => simp only [List.mem_cons, ih]; clear h; grind
  | case4 a l m r h ih => simp only [List.mem_cons, ih]; clear h; grind
theorem uniteL_rise (a m : List Int) : a.Pairwise (· < ·) → m.Pairwise (· < ·) → (∀ x ∈ m, x ∉ a) → (uniteL a m).Pairwise (· < ·) := by
  fun_induction uniteL a m with
  | case1 r => intro _ h _; exact h
  | case2 a l => intro h _ _; exact h
  | case3 a l m r h ih =>
    intro ha hb hd
    obtain ⟨ha1, ha2⟩ := List.pairwise_cons.1 ha
    obtain ⟨hb1, hb2⟩ := List.pairwise_cons.1 hb
    refine List.pairwise_cons.2 ⟨fun x hx => ?_, ih ha2 hb (fun x hx hc => hd x hx (List.mem_cons_of_mem _ hc))⟩
    rcases (uniteL_mem _ _ _).1 hx with hx | hx
    · exact ha1 x hx
    · rcases List.mem_cons.1 hx with rfl | hx
      · exact h
      · have := hb1 x hx; omega
  | case4 a l m r h ih =>
    intro ha hb hd
    obtain ⟨ha1, ha2⟩ := List.pairwise_cons.1 ha
    obtain ⟨hb1, hb2⟩ := List.pairwise_cons.1 hb
    have hne : m ≠ a := fun e => hd m (by simp) (by simp [e])
    refine List.pairwise_cons.2 ⟨fun x hx => ?_, ih ha hb2 (fun x hx => hd x (List.mem_cons_of_mem _ hx))⟩
    rcases (uniteL_mem _ _ _).1 hx with hx | hx
    · rcases List.mem_cons.1 hx with rfl | hx
      · omega
      · have := ha1 x hx; omega
    · exact hb1 x hx
def GoodU (bags : List (List Int)) (par : List Int) : Prop := bags.length = par.length ∧ par.length ≤ 10 ∧ Ahead par ∧ ∀ b ∈ bags, b.length ≤ 6 ∧ b.Pairwise (· < ·)
theorem GoodU.T {B : List (List Int)} {P : List Int} (h : GoodU B P) : GoodT B P := ⟨h.1, h.2.1, h.2.2.1, fun b hb => (h.2.2.2 b hb).1⟩
theorem unite_one (b : List Int) (v : Int) (h : b.Pairwise (· < ·)) : (uniteL b (withoutL [v] b)).Pairwise (· < ·) := by
  refine uniteL_rise _ _ h ?_ ?_
  · exact List.Pairwise.sublist List.filter_sublist (List.pairwise_singleton _ _)
  · intro x hx hc
    have h2 := (List.mem_filter.1 hx).2
    have : inB b x = true := by
      unfold inB
      rw [List.any_eq_true]
      exact ⟨x, hc, by simp⟩
    rw [this] at h2
    simp at h2
theorem shapeU_l1 (x0 : List Int) (x1 : List (List Int)) (i : Int) (hi0 : 0 ≤ i) (hi1 : i < (x1.length : Int)) (B : List (List Int)) (P : List Int) : ∀ (d k : Nat) (b : List Int), k + d = 6 → b.length ≤ k → b.Pairwise (· < ·) → ∃ b' : List Int, (b'.length ≤ 6 ∧ b'.Pairwise (· < ·)) ∧ ∀ r, Ev (fun n => arboristlaw13_shape.j3 n x0 x1 i b' B P) r → Ev (fun n => arboristlaw13_shape.l1 n x0 x1 i b (k : Int) B P) r := by
  intro d
  induction d with
  | zero =>
    intro k b hk hb hr0
    refine ⟨b, ⟨by omega, hr0⟩, fun r hr => Ev.step (fun n => ?_) hr⟩
    simp only [arboristlaw13_shape.l1]
    rw [if_pos hi0, if_pos hi1]
    by_cases e : (k : Int) < ((rd_L1 x1 i).length : Int)
    · rw [if_pos e, if_neg (by omega)]
    · rw [if_neg e]
  | succ d ih =>
    intro k b hk hb hr0
    by_cases e : (k : Int) < ((rd_L1 x1 i).length : Int)
    · generalize hv : Go.bits .and .i64 (rd (rd_L1 x1 i) (k : Int)) 15 = v
      have hu : Ev (fun n => arboristref01_Unite.f n b [v]) (uniteL b (withoutL [v] b)) := Unite_ev b _ (by simp; omega)
      have hw := withoutL_len [v] b
      simp only [List.length_singleton] at hw
      obtain ⟨b', h1, h2⟩ := ih (k + 1) (uniteL b (withoutL [v] b)) (by omega) (by rw [uniteL_length]; omega) (unite_one b v hr0)
      refine ⟨b', h1, fun r hr => Ev.step (f := fun n => (arboristref01_Unite.f n b [v]).bind fun t => arboristlaw13_shape.l1 n x0 x1 i t ((k + 1 : Nat) : Int) B P) (fun n => ?_) (Ev.bind (f := fun n t => arboristlaw13_shape.l1 n x0 x1 i t ((k + 1 : Nat) : Int) B P) hu (h2 r hr))⟩
      simp only [arboristlaw13_shape.l1]
      rw [if_pos hi0, if_pos hi1, if_pos e, if_pos (by omega), if_pos (by omega), wrap_nat k (by omega), hv]
    · refine ⟨b, ⟨by omega, hr0⟩, fun r hr => Ev.step (fun n => ?_) hr⟩
      simp only [arboristlaw13_shape.l1]
      rw [if_pos hi0, if_pos hi1, if_neg e]
theorem shapeU_l0 (x0 : List Int) (x1 : List (List Int)) : ∀ (d : Nat) (B : List (List Int)) (P : List Int), B.length + d = 10 → GoodU B P → ∃ B' P', GoodU B' P' ∧ Ev (fun n => arboristlaw13_shape.l0 n x0 x1 (B.length : Int) B P) (B', P') := by
  intro d
  induction d with
  | zero =>
    intro B P hd hg
    refine ⟨B, P, hg, ?_⟩
    refine Ev.step (f := fun n => arboristlaw13_shape.j1 n x0 x1 (B.length : Int) false B P) (fun n => ?_) (Ev.step (f := fun _ => some (B, P)) (fun n => ?_) (Ev.now _))
    · simp only [arboristlaw13_shape.l0]
      by_cases e : (B.length : Int) < (x1.length : Int)
      · rw [if_pos e, show decide ((B.length : Int) < 10) = false from decide_eq_false (by omega)]
      · rw [if_neg e]
    · simp only [arboristlaw13_shape.j1]; rw [if_neg (by simp)]
  | succ d ih =>
    intro B P hd hg
    obtain ⟨g1, g2, g3, g4⟩ := hg
    by_cases e : (B.length : Int) < (x1.length : Int)
    · obtain ⟨b', hb, hl⟩ := shapeU_l1 x0 x1 (B.length : Int) (by omega) e B P 6 0 [] (by omega) (by simp) List.Pairwise.nil
      have go : ∀ p : Int, (P.length = 0 → p = -1) → (0 < P.length → 0 ≤ p ∧ p < P.length) → ∃ B' P', GoodU B' P' ∧ Ev (fun n => arboristlaw13_shape.l0 n x0 x1 ((B.length + 1 : Nat) : Int) (B ++ [b']) (P ++ [p])) (B', P') := by
        intro p h0 h1
        have := ih (B ++ [b']) (P ++ [p]) (by simp; omega) ⟨by simp [g1], by simp; omega, ahead_snoc g3 h0 h1, by
          intro b hb2
          simp only [List.mem_append, List.mem_singleton] at hb2
          rcases hb2 with hb2 | rfl
          · exact g4 b hb2
          · exact hb⟩
        rw [show (B ++ [b']).length = B.length + 1 by simp] at this
        exact this
      have pre : ∀ r, Ev (fun n => arboristlaw13_shape.j3 n x0 x1 (B.length : Int) b' B P) r → Ev (fun n => arboristlaw13_shape.l0 n x0 x1 (B.length : Int) B P) r := by
        intro r h
        refine Ev.step (f := fun n => arboristlaw13_shape.j1 n x0 x1 (B.length : Int) true B P) (fun n => ?_) (Ev.step (f := fun n => arboristlaw13_shape.l1 n x0 x1 (B.length : Int) [] 0 B P) (fun n => ?_) (hl r h))
        · simp only [arboristlaw13_shape.l0]
          rw [if_pos e, show decide ((B.length : Int) < 10) = true from decide_eq_true (by omega)]
        · simp only [arboristlaw13_shape.j1]; rw [if_pos trivial]
      by_cases z : B.length = 0
      · obtain ⟨B', P', g, h⟩ := go (-1) (fun _ => rfl) (by omega)
        refine ⟨B', P', g, pre _ (Ev.step (fun n => ?_) h)⟩
        simp only [arboristlaw13_shape.j3]
        rw [if_neg (by omega), if_pos (by omega), if_pos (by omega), wrap_nat _ (by omega)]
      · by_cases y : (B.length : Int) < (x0.length : Int)
        · obtain ⟨B', P', g, h⟩ := go (Int.tmod (Go.bits .and .i64 (rd x0 (B.length : Int)) 65535) (B.length : Int)) (by omega) (fun _ => by
            rw [i64_and65535, Int.tmod_eq_emod_of_nonneg (by omega), ← g1]
            exact ⟨Int.emod_nonneg _ (by omega), Int.emod_lt_of_pos _ (by omega)⟩)
          refine ⟨B', P', g, pre _ (Ev.step (fun n => ?_) h)⟩
          simp only [arboristlaw13_shape.j3]
          rw [if_pos (by omega), if_pos y, if_pos (by omega), if_neg (by omega), if_pos (by omega), if_pos (by omega), wrap_nat _ (by omega)]
        · obtain ⟨B', P', g, h⟩ := go 0 (by omega) (by omega)
          refine ⟨B', P', g, pre _ (Ev.step (fun n => ?_) h)⟩
          simp only [arboristlaw13_shape.j3]
          rw [if_pos (by omega), if_neg y, if_pos (by omega), if_pos (by omega), wrap_nat _ (by omega)]
    · refine ⟨B, P, ⟨g1, g2, g3, g4⟩, ?_⟩
      refine Ev.step (f := fun n => arboristlaw13_shape.j1 n x0 x1 (B.length : Int) false B P) (fun n => ?_) (Ev.step (f := fun _ => some (B, P)) (fun n => ?_) (Ev.now _))
      · simp only [arboristlaw13_shape.l0]
        rw [if_neg e]
      · simp only [arboristlaw13_shape.j1]; rw [if_neg (by simp)]
theorem shapeU_ev (x0 : List Int) (x1 : List (List Int)) : ∃ B P, GoodU B P ∧ Ev (fun n => arboristlaw13_shape.f n x0 x1) (B, P) :=
  shapeU_l0 x0 x1 10 [] [] rfl ⟨rfl, by simp, by intro k hk; simp at hk, by simp⟩
theorem merge_without : ∀ (n : Nat) (a b : List Int), a.length + b.length = n → a.Pairwise (· < ·) → b.Pairwise (· < ·) → mergeL true false false a b = withoutL a b := by
  intro n
  induction n using Nat.strongRecOn with
  | _ n ih =>
    intro a b h ha hb
    match a, b with
    | [], [] => simp [mergeL_nn, withoutL]
    | y :: l, [] =>
      rw [mergeL_cn]
      have := ih l.length (by simp at h; omega) l [] (by simp) (List.pairwise_cons.1 ha).2 hb
      simpa [keepL, withoutL, inB] using this
    | [], z :: m =>
      rw [mergeL_nc]
      have := ih m.length (by simp at h; omega) [] m (by simp) ha (List.pairwise_cons.1 hb).2
      simpa [keepL, withoutL] using this
    | y :: l, z :: m =>
      rw [mergeL_cc]
      obtain ⟨ha1, ha2⟩ := List.pairwise_cons.1 ha
      obtain ⟨hb1, hb2⟩ := List.pairwise_cons.1 hb
      have not_in : ∀ (r : List Int) (x : Int), (∀ w ∈ r, x < w) → inB r x = false := by
        intro r x hr
        unfold inB
        rw [List.any_eq_false]
        intro w hw e
        have e2 : w = x := by simpa using e
        have := hr w hw
        omega
      by_cases h1 : y < z
      · rw [if_pos h1]
        have := ih (l.length + (m.length + 1)) (by simp at h; omega) l (z :: m) (by simp) ha2 hb
        have e : inB (z :: m) y = false := not_in _ _ (by
          intro w hw
          rcases List.mem_cons.1 hw with rfl | hw
          · exact h1
          · have := hb1 w hw; omega)
        simp only [keepL, withoutL, List.filter_cons, e] at this ⊢
        simpa using this
      · rw [if_neg h1]
        by_cases h2 : z < y
        · rw [if_pos h2]
          have := ih (l.length + 1 + m.length) (by simp at h; omega) (y :: l) m (by simp) ha hb2
          have e : withoutL (y :: l) (z :: m) = withoutL (y :: l) m := by
            unfold withoutL
            apply List.filter_congr
            intro w hw
            rw [inB_cons]
            have : (z == w) = false := by
              rcases List.mem_cons.1 hw with rfl | hw
              · simpa using (by omega : ¬ z = w)
              · have := ha1 w hw
                simpa using (by omega : ¬ z = w)
            rw [this, Bool.false_or]
          rw [e]
          simpa [keepL] using this
        · rw [if_neg h2]
          have e : y = z := by omega
          subst e
          have := ih (l.length + m.length) (by simp at h; omega) l m rfl ha2 hb2
          have e2 : withoutL (y :: l) (y :: m) = withoutL l m := by
            unfold withoutL
            rw [List.filter_cons, if_neg (by rw [inB_cons]; simp)]
            apply List.filter_congr
            intro w hw
            rw [inB_cons]
            have h3 := ha1 w hw
            have : (y == w) = false := by simpa using (by omega : ¬ y = w)
            rw [this, Bool.false_or]
          rw [e2]
          simpa [keepL] using this
theorem within_same (a b : List Int) (ha : a.Pairwise (· < ·)) (hb : b.Pairwise (· < ·)) : ((mergeL true false false a b).length : Int) = ((withoutL a b).length : Int) := by rw [merge_without _ a b rfl ha hb]
theorem idx_same {α : Type} (p q : α → Bool) : ∀ (l : List α) (i : Int), (∀ x ∈ l, p x = q x) → idxOf p l i = idxOf q l i := by
  intro l
  induction l with
  | nil => intro i _; rfl
  | cons x l ih =>
    intro i h
    unfold idxOf
    rw [h x (by simp), ih (i + 1) (fun y hy => h y (List.mem_cons_of_mem _ hy))]
theorem RPlace_find (S : List (List Int)) (out : List Int) (j : Nat) (hj : j < S.length) (B : List (List Int)) (P : List Int) (hB : B.length < 1000000) (ho : out.length < 17592186044416) (hj2 : j < 9223372036854775807) (hs : (rd_L1 S (j : Int)).length < 17592186044416) (hb : ∀ b ∈ B, b.length ≤ 9223372036854775807) : ∀ (d i : Nat), B.length = i + d → ∀ r, Ev (fun k => if idxOf (withinR (rd_L1 S (j : Int))) (B.drop i) (i : Int) < 0 then some (([] : List Int), false) else arboristref13_Place.l0 k S (out ++ [idxOf (withinR (rd_L1 S (j : Int))) (B.drop i) (i : Int)]) ((j + 1 : Nat) : Int) B P) r → Ev (fun k => arboristref13_Place.l1 k S out (j : Int) (-1) (i : Int) B P) r := by
  intro d
  induction d with
  | zero =>
    intro i h r hr
    rw [List.drop_eq_nil_of_le (by omega)] at hr
    refine Ev.step (f := fun k => arboristref13_Place.j2 k S out (j : Int) (-1) (i : Int) false B P) (fun k => ?_) (Ev.step (fun k => ?_) hr)
    · simp only [arboristref13_Place.l1]
      rw [if_neg (by omega)]
    · simp only [arboristref13_Place.j2]
      rw [if_neg (by simp), if_pos (by omega), if_pos (show idxOf (withinR (rd_L1 S (j : Int))) [] (i : Int) < 0 from (by decide : (-1 : Int) < 0))]
  | succ d ih =>
    intro i h r hr
    have hi : i < B.length := by omega
    have er : rd_L1 B (i : Int) = B[i] := by
      unfold rd_L1
      rw [List.getD_eq_getElem?_getD, show ((i : Int)).toNat = i from rfl, List.getElem?_eq_getElem hi]
      rfl
    have hw := Within_ev (rd_L1 S (j : Int)) B[i] hs (hb _ (List.getElem_mem hi))
    rw [List.drop_eq_getElem_cons hi] at hr
    refine Ev.step (f := fun k => arboristref13_Place.j2 k S out (j : Int) (-1) (i : Int) true B P) (fun k => ?_) (Ev.step (f := fun k => (arboristref01_Within.f k (rd_L1 S (j : Int)) B[i]).bind fun t => if t = true then arboristref13_Place.l1 k S out (j : Int) (i : Int) ((i + 1 : Nat) : Int) B P else arboristref13_Place.l1 k S out (j : Int) (-1) ((i + 1 : Nat) : Int) B P) (fun k => ?_) ?_)
    · simp only [arboristref13_Place.l1]
      rw [if_pos (by omega)]
      rfl
    · simp only [arboristref13_Place.j2]
      rw [if_pos trivial, if_pos (by omega), if_pos (by omega), if_pos (by omega), if_pos (by omega), er, wrap_nat i (by omega)]
    · refine Ev.bind (f := fun k t => if t = true then arboristref13_Place.l1 k S out (j : Int) (i : Int) ((i + 1 : Nat) : Int) B P else arboristref13_Place.l1 k S out (j : Int) (-1) ((i + 1 : Nat) : Int) B P) hw ?_
      cases hc : withinR (rd_L1 S (j : Int)) B[i] with
      | true =>
        unfold idxOf at hr
        rw [hc] at hr
        have hi0 : ¬ ((i : Int) < 0) := by omega
        simp only [if_true, if_neg hi0] at hr ⊢
        refine Ev.step (f := fun k => arboristref13_Place.j2 k S out (j : Int) (i : Int) ((i + 1 : Nat) : Int) false B P) (fun k => ?_) (Ev.step (fun k => ?_) hr)
        · simp only [arboristref13_Place.l1]
          rw [show decide ((i : Int) < 0) = false from decide_eq_false hi0]
          split <;> rfl
        · simp only [arboristref13_Place.j2]
          rw [if_neg (by simp), if_neg hi0, if_pos ho, wrap_nat j (by omega)]
      | false =>
        unfold idxOf at hr
        rw [hc] at hr
        have := ih (i + 1) (by omega) r (by simpa using hr)
        simpa using this
theorem RPlace_loop (S : List (List Int)) (hS : S.length < 1000000) (B : List (List Int)) (P : List Int) (hB : B.length < 1000000) (hs : ∀ s ∈ S, s.length < 17592186044416 ∧ s.Pairwise (· < ·)) (hb : ∀ b ∈ B, b.length ≤ 9223372036854775807 ∧ b.Pairwise (· < ·)) : ∀ (d j : Nat) (out : List Int), S.length = j + d → out.length ≤ j → Ev (fun k => arboristref13_Place.l0 k S out (j : Int) B P) ((placeL B (S.drop j) out).1, (placeL B (S.drop j) out).2 == 0) := by
  intro d
  induction d with
  | zero =>
    intro j out h ho
    rw [List.drop_eq_nil_of_le (by omega)]
    refine Ev.step (f := fun _ => some (out, true)) (fun k => ?_) (Ev.now _)
    simp only [arboristref13_Place.l0]
    rw [if_neg (by omega)]
  | succ d ih =>
    intro j out h ho
    have hj : j < S.length := by omega
    have er : rd_L1 S (j : Int) = S[j] := by
      unfold rd_L1
      rw [List.getD_eq_getElem?_getD, show ((j : Int)).toNat = j from rfl, List.getElem?_eq_getElem hj]
      rfl
    have hm := hs _ (List.getElem_mem hj)
    have e : idxOf (withinB S[j]) B 0 = idxOf (withinR S[j]) B 0 := idx_same _ _ B 0 (fun b hb2 => by
      unfold withinB withinR
      rw [within_same _ _ hm.2 (hb b hb2).2])
    rw [List.drop_eq_getElem_cons hj]
    unfold placeL
    rw [e]
    refine Ev.step (f := fun k => arboristref13_Place.l1 k S out (j : Int) (-1) 0 B P) (fun k => ?_) (RPlace_find S out j hj B P hB (by omega) (by omega) (by rw [er]; exact hm.1) (fun b hb2 => (hb b hb2).1) B.length 0 (by omega) _ ?_)
    · simp only [arboristref13_Place.l0]
      rw [if_pos (by omega)]
    · rw [er, List.drop_zero]
      show Ev (fun k => if idxOf (withinR S[j]) B 0 < 0 then some (([] : List Int), false) else arboristref13_Place.l0 k S (out ++ [idxOf (withinR S[j]) B 0]) ((j + 1 : Nat) : Int) B P) _
      by_cases c : idxOf (withinR S[j]) B 0 < 0
      · simp only [if_pos c]
        exact Ev.now _
      · simp only [if_neg c]
        exact ih (j + 1) (out ++ [idxOf (withinR S[j]) B 0]) (by omega) (by simp; omega)
end Go.Proofs.Ytpmfdggbccbfaaa.Pr

namespace Go.Proofs.Ytpmfdggbccbfaaa.Pr
open Go.RowKit Go.Proofs.YtpmfdggbccbfaaaW.PrintWords Go.Proofs.YtpmfdggbccbfaaaW.PrintLast
theorem evs0 {ρ : Type} {F : Nat → Option ρ} {r : ρ} (H : ∀ k, F (k + 1) = some r) : Ev F r := ⟨1, fun k hk => by obtain ⟨m, rfl⟩ : ∃ m, k = m + 1 := ⟨k - 1, by omega⟩; exact H m⟩
theorem evu0 {ρ : Type} {F : Nat → Option ρ} {r : ρ} (H : ∀ k, F k = some r) : Ev F r := ⟨0, fun k _ => H k⟩
theorem evu1 {ρ : Type} {F : Nat → Option ρ} {r : ρ} {α1 : Type} {g1 : Nat → Option α1} {a1 : α1} (h1 : Ev g1 a1) (H : ∀ k, g1 k = some a1 → F k = some r) : Ev F r := by
  obtain ⟨K1, e1⟩ := h1
  exact ⟨K1, fun k hk => H k (e1 _ (by omega))⟩
theorem evs1 {ρ : Type} {F : Nat → Option ρ} {r : ρ} {α1 : Type} {g1 : Nat → Option α1} {a1 : α1} (h1 : Ev g1 a1) (H : ∀ k, g1 k = some a1 → F (k + 1) = some r) : Ev F r := by
  obtain ⟨K1, e1⟩ := h1
  refine ⟨K1 + 1, fun k hk => ?_⟩
  obtain ⟨m, rfl⟩ : ∃ m, k = m + 1 := ⟨k - 1, by omega⟩
  exact H m (e1 _ (by omega))
theorem evu2 {ρ : Type} {F : Nat → Option ρ} {r : ρ} {α1 : Type} {g1 : Nat → Option α1} {a1 : α1} {α2 : Type} {g2 : Nat → Option α2} {a2 : α2} (h1 : Ev g1 a1) (h2 : Ev g2 a2) (H : ∀ k, g1 k = some a1 → g2 k = some a2 → F k = some r) : Ev F r := by
  obtain ⟨K1, e1⟩ := h1; obtain ⟨K2, e2⟩ := h2
  exact ⟨K1 + K2, fun k hk => H k (e1 _ (by omega)) (e2 _ (by omega))⟩
theorem evs2 {ρ : Type} {F : Nat → Option ρ} {r : ρ} {α1 : Type} {g1 : Nat → Option α1} {a1 : α1} {α2 : Type} {g2 : Nat → Option α2} {a2 : α2} (h1 : Ev g1 a1) (h2 : Ev g2 a2) (H : ∀ k, g1 k = some a1 → g2 k = some a2 → F (k + 1) = some r) : Ev F r := by
  obtain ⟨K1, e1⟩ := h1; obtain ⟨K2, e2⟩ := h2
  refine ⟨K1 + K2 + 1, fun k hk => ?_⟩
  obtain ⟨m, rfl⟩ : ∃ m, k = m + 1 := ⟨k - 1, by omega⟩
  exact H m (e1 _ (by omega)) (e2 _ (by omega))
theorem evu3 {ρ : Type} {F : Nat → Option ρ} {r : ρ} {α1 : Type} {g1 : Nat → Option α1} {a1 : α1} {α2 : Type} {g2 : Nat → Option α2} {a2 : α2} {α3 : Type} {g3 : Nat → Option α3} {a3 : α3} (h1 : Ev g1 a1) (h2 : Ev g2 a2) (h3 : Ev g3 a3) (H : ∀ k, g1 k = some a1 → g2 k = some a2 → g3 k = some a3 → F k = some r) : Ev F r := by
  obtain ⟨K1, e1⟩ := h1; obtain ⟨K2, e2⟩ := h2; obtain ⟨K3, e3⟩ := h3
  exact ⟨K1 + K2 + K3, fun k hk => H k (e1 _ (by omega)) (e2 _ (by omega)) (e3 _ (by omega))⟩
theorem evs3 {ρ : Type} {F : Nat → Option ρ} {r : ρ} {α1 : Type} {g1 : Nat → Option α1} {a1 : α1} {α2 : Type} {g2 : Nat → Option α2} {a2 : α2} {α3 : Type} {g3 : Nat → Option α3} {a3 : α3} (h1 : Ev g1 a1) (h2 : Ev g2 a2) (h3 : Ev g3 a3) (H : ∀ k, g1 k = some a1 → g2 k = some a2 → g3 k = some a3 → F (k + 1) = some r) : Ev F r := by
  obtain ⟨K1, e1⟩ := h1; obtain ⟨K2, e2⟩ := h2; obtain ⟨K3, e3⟩ := h3
  refine ⟨K1 + K2 + K3 + 1, fun k hk => ?_⟩
  obtain ⟨m, rfl⟩ : ∃ m, k = m + 1 := ⟨k - 1, by omega⟩
  exact H m (e1 _ (by omega)) (e2 _ (by omega)) (e3 _ (by omega))
theorem evu4 {ρ : Type} {F : Nat → Option ρ} {r : ρ} {α1 : Type} {g1 : Nat → Option α1} {a1 : α1} {α2 : Type} {g2 : Nat → Option α2} {a2 : α2} {α3 : Type} {g3 : Nat → Option α3} {a3 : α3} {α4 : Type} {g4 : Nat → Option α4} {a4 : α4} (h1 : Ev g1 a1) (h2 : Ev g2 a2) (h3 : Ev g3 a3) (h4 : Ev g4 a4) (H : ∀ k, g1 k = some a1 → g2 k = some a2 → g3 k = some a3 → g4 k = some a4 → F k = some r) : Ev F r := by
  obtain ⟨K1, e1⟩ := h1; obtain ⟨K2, e2⟩ := h2; obtain ⟨K3, e3⟩ := h3; obtain ⟨K4, e4⟩ := h4
  exact ⟨K1 + K2 + K3 + K4, fun k hk => H k (e1 _ (by omega)) (e2 _ (by omega)) (e3 _ (by omega)) (e4 _ (by omega))⟩
theorem evs4 {ρ : Type} {F : Nat → Option ρ} {r : ρ} {α1 : Type} {g1 : Nat → Option α1} {a1 : α1} {α2 : Type} {g2 : Nat → Option α2} {a2 : α2} {α3 : Type} {g3 : Nat → Option α3} {a3 : α3} {α4 : Type} {g4 : Nat → Option α4} {a4 : α4} (h1 : Ev g1 a1) (h2 : Ev g2 a2) (h3 : Ev g3 a3) (h4 : Ev g4 a4) (H : ∀ k, g1 k = some a1 → g2 k = some a2 → g3 k = some a3 → g4 k = some a4 → F (k + 1) = some r) : Ev F r := by
  obtain ⟨K1, e1⟩ := h1; obtain ⟨K2, e2⟩ := h2; obtain ⟨K3, e3⟩ := h3; obtain ⟨K4, e4⟩ := h4
  refine ⟨K1 + K2 + K3 + K4 + 1, fun k hk => ?_⟩
  obtain ⟨m, rfl⟩ : ∃ m, k = m + 1 := ⟨k - 1, by omega⟩
  exact H m (e1 _ (by omega)) (e2 _ (by omega)) (e3 _ (by omega)) (e4 _ (by omega))
theorem evu5 {ρ : Type} {F : Nat → Option ρ} {r : ρ} {α1 : Type} {g1 : Nat → Option α1} {a1 : α1} {α2 : Type} {g2 : Nat → Option α2} {a2 : α2} {α3 : Type} {g3 : Nat → Option α3} {a3 : α3} {α4 : Type} {g4 : Nat → Option α4} {a4 : α4} {α5 : Type} {g5 : Nat → Option α5} {a5 : α5} (h1 : Ev g1 a1) (h2 : Ev g2 a2) (h3 : Ev g3 a3) (h4 : Ev g4 a4) (h5 : Ev g5 a5) (H : ∀ k, g1 k = some a1 → g2 k = some a2 → g3 k = some a3 → g4 k = some a4 → g5 k = some a5 → F k = some r) : Ev F r := by
  obtain ⟨K1, e1⟩ := h1; obtain ⟨K2, e2⟩ := h2; obtain ⟨K3, e3⟩ := h3; obtain ⟨K4, e4⟩ := h4; obtain ⟨K5, e5⟩ := h5
  exact ⟨K1 + K2 + K3 + K4 + K5, fun k hk => H k (e1 _ (by omega)) (e2 _ (by omega)) (e3 _ (by omega)) (e4 _ (by omega)) (e5 _ (by omega))⟩
theorem evs5 {ρ : Type} {F : Nat → Option ρ} {r : ρ} {α1 : Type} {g1 : Nat → Option α1} {a1 : α1} {α2 : Type} {g2 : Nat → Option α2} {a2 : α2} {α3 : Type} {g3 : Nat → Option α3} {a3 : α3} {α4 : Type} {g4 : Nat → Option α4} {a4 : α4} {α5 : Type} {g5 : Nat → Option α5} {a5 : α5} (h1 : Ev g1 a1) (h2 : Ev g2 a2) (h3 : Ev g3 a3) (h4 : Ev g4 a4) (h5 : Ev g5 a5) (H : ∀ k, g1 k = some a1 → g2 k = some a2 → g3 k = some a3 → g4 k = some a4 → g5 k = some a5 → F (k + 1) = some r) : Ev F r := by
  obtain ⟨K1, e1⟩ := h1; obtain ⟨K2, e2⟩ := h2; obtain ⟨K3, e3⟩ := h3; obtain ⟨K4, e4⟩ := h4; obtain ⟨K5, e5⟩ := h5
  refine ⟨K1 + K2 + K3 + K4 + K5 + 1, fun k hk => ?_⟩
  obtain ⟨m, rfl⟩ : ∃ m, k = m + 1 := ⟨k - 1, by omega⟩
  exact H m (e1 _ (by omega)) (e2 _ (by omega)) (e3 _ (by omega)) (e4 _ (by omega)) (e5 _ (by omega))
theorem evu6 {ρ : Type} {F : Nat → Option ρ} {r : ρ} {α1 : Type} {g1 : Nat → Option α1} {a1 : α1} {α2 : Type} {g2 : Nat → Option α2} {a2 : α2} {α3 : Type} {g3 : Nat → Option α3} {a3 : α3} {α4 : Type} {g4 : Nat → Option α4} {a4 : α4} {α5 : Type} {g5 : Nat → Option α5} {a5 : α5} {α6 : Type} {g6 : Nat → Option α6} {a6 : α6} (h1 : Ev g1 a1) (h2 : Ev g2 a2) (h3 : Ev g3 a3) (h4 : Ev g4 a4) (h5 : Ev g5 a5) (h6 : Ev g6 a6) (H : ∀ k, g1 k = some a1 → g2 k = some a2 → g3 k = some a3 → g4 k = some a4 → g5 k = some a5 → g6 k = some a6 → F k = some r) : Ev F r := by
  obtain ⟨K1, e1⟩ := h1; obtain ⟨K2, e2⟩ := h2; obtain ⟨K3, e3⟩ := h3; obtain ⟨K4, e4⟩ := h4; obtain ⟨K5, e5⟩ := h5; obtain ⟨K6, e6⟩ := h6
  exact ⟨K1 + K2 + K3 + K4 + K5 + K6, fun k hk => H k (e1 _ (by omega)) (e2 _ (by omega)) (e3 _ (by omega)) (e4 _ (by omega)) (e5 _ (by omega)) (e6 _ (by omega))⟩
theorem evs6 {ρ : Type} {F : Nat → Option ρ} {r : ρ} {α1 : Type} {g1 : Nat → Option α1} {a1 : α1} {α2 : Type} {g2 : Nat → Option α2} {a2 : α2} {α3 : Type} {g3 : Nat → Option α3} {a3 : α3} {α4 : Type} {g4 : Nat → Option α4} {a4 : α4} {α5 : Type} {g5 : Nat → Option α5} {a5 : α5} {α6 : Type} {g6 : Nat → Option α6} {a6 : α6} (h1 : Ev g1 a1) (h2 : Ev g2 a2) (h3 : Ev g3 a3) (h4 : Ev g4 a4) (h5 : Ev g5 a5) (h6 : Ev g6 a6) (H : ∀ k, g1 k = some a1 → g2 k = some a2 → g3 k = some a3 → g4 k = some a4 → g5 k = some a5 → g6 k = some a6 → F (k + 1) = some r) : Ev F r := by
  obtain ⟨K1, e1⟩ := h1; obtain ⟨K2, e2⟩ := h2; obtain ⟨K3, e3⟩ := h3; obtain ⟨K4, e4⟩ := h4; obtain ⟨K5, e5⟩ := h5; obtain ⟨K6, e6⟩ := h6
  refine ⟨K1 + K2 + K3 + K4 + K5 + K6 + 1, fun k hk => ?_⟩
  obtain ⟨m, rfl⟩ : ∃ m, k = m + 1 := ⟨k - 1, by omega⟩
  exact H m (e1 _ (by omega)) (e2 _ (by omega)) (e3 _ (by omega)) (e4 _ (by omega)) (e5 _ (by omega)) (e6 _ (by omega))
theorem evu7 {ρ : Type} {F : Nat → Option ρ} {r : ρ} {α1 : Type} {g1 : Nat → Option α1} {a1 : α1} {α2 : Type} {g2 : Nat → Option α2} {a2 : α2} {α3 : Type} {g3 : Nat → Option α3} {a3 : α3} {α4 : Type} {g4 : Nat → Option α4} {a4 : α4} {α5 : Type} {g5 : Nat → Option α5} {a5 : α5} {α6 : Type} {g6 : Nat → Option α6} {a6 : α6} {α7 : Type} {g7 : Nat → Option α7} {a7 : α7} (h1 : Ev g1 a1) (h2 : Ev g2 a2) (h3 : Ev g3 a3) (h4 : Ev g4 a4) (h5 : Ev g5 a5) (h6 : Ev g6 a6) (h7 : Ev g7 a7) (H : ∀ k, g1 k = some a1 → g2 k = some a2 → g3 k = some a3 → g4 k = some a4 → g5 k = some a5 → g6 k = some a6 → g7 k = some a7 → F k = some r) : Ev F r := by
  obtain ⟨K1, e1⟩ := h1; obtain ⟨K2, e2⟩ := h2; obtain ⟨K3, e3⟩ := h3; obtain ⟨K4, e4⟩ := h4; obtain ⟨K5, e5⟩ := h5; obtain ⟨K6, e6⟩ := h6; obtain ⟨K7, e7⟩ := h7
  exact ⟨K1 + K2 + K3 + K4 + K5 + K6 + K7, fun k hk => H k (e1 _ (by omega)) (e2 _ (by omega)) (e3 _ (by omega)) (e4 _ (by omega)) (e5 _ (by omega)) (e6 _ (by omega)) (e7 _ (by omega))⟩
theorem evs7 {ρ : Type} {F : Nat → Option ρ} {r : ρ} {α1 : Type} {g1 : Nat → Option α1} {a1 : α1} {α2 : Type} {g2 : Nat → Option α2} {a2 : α2} {α3 : Type} {g3 : Nat → Option α3} {a3 : α3} {α4 : Type} {g4 : Nat → Option α4} {a4 : α4} {α5 : Type} {g5 : Nat → Option α5} {a5 : α5} {α6 : Type} {g6 : Nat → Option α6} {a6 : α6} {α7 : Type} {g7 : Nat → Option α7} {a7 : α7} (h1 : Ev g1 a1) (h2 : Ev g2 a2) (h3 : Ev g3 a3) (h4 : Ev g4 a4) (h5 : Ev g5 a5) (h6 : Ev g6 a6) (h7 : Ev g7 a7) (H : ∀ k, g1 k = some a1 → g2 k = some a2 → g3 k = some a3 → g4 k = some a4 → g5 k = some a5 → g6 k = some a6 → g7 k = some a7 → F (k + 1) = some r) : Ev F r := by
  obtain ⟨K1, e1⟩ := h1; obtain ⟨K2, e2⟩ := h2; obtain ⟨K3, e3⟩ := h3; obtain ⟨K4, e4⟩ := h4; obtain ⟨K5, e5⟩ := h5; obtain ⟨K6, e6⟩ := h6; obtain ⟨K7, e7⟩ := h7
  refine ⟨K1 + K2 + K3 + K4 + K5 + K6 + K7 + 1, fun k hk => ?_⟩
  obtain ⟨m, rfl⟩ : ∃ m, k = m + 1 := ⟨k - 1, by omega⟩
  exact H m (e1 _ (by omega)) (e2 _ (by omega)) (e3 _ (by omega)) (e4 _ (by omega)) (e5 _ (by omega)) (e6 _ (by omega)) (e7 _ (by omega))
theorem evu8 {ρ : Type} {F : Nat → Option ρ} {r : ρ} {α1 : Type} {g1 : Nat → Option α1} {a1 : α1} {α2 : Type} {g2 : Nat → Option α2} {a2 : α2} {α3 : Type} {g3 : Nat → Option α3} {a3 : α3} {α4 : Type} {g4 : Nat → Option α4} {a4 : α4} {α5 : Type} {g5 : Nat → Option α5} {a5 : α5} {α6 : Type} {g6 : Nat → Option α6} {a6 : α6} {α7 : Type} {g7 : Nat → Option α7} {a7 : α7} {α8 : Type} {g8 : Nat → Option α8} {a8 : α8} (h1 : Ev g1 a1) (h2 : Ev g2 a2) (h3 : Ev g3 a3) (h4 : Ev g4 a4) (h5 : Ev g5 a5) (h6 : Ev g6 a6) (h7 : Ev g7 a7) (h8 : Ev g8 a8) (H : ∀ k, g1 k = some a1 → g2 k = some a2 → g3 k = some a3 → g4 k = some a4 → g5 k = some a5 → g6 k = some a6 → g7 k = some a7 → g8 k = some a8 → F k = some r) : Ev F r := by
  obtain ⟨K1, e1⟩ := h1; obtain ⟨K2, e2⟩ := h2; obtain ⟨K3, e3⟩ := h3; obtain ⟨K4, e4⟩ := h4; obtain ⟨K5, e5⟩ := h5; obtain ⟨K6, e6⟩ := h6; obtain ⟨K7, e7⟩ := h7; obtain ⟨K8, e8⟩ := h8
  exact ⟨K1 + K2 + K3 + K4 + K5 + K6 + K7 + K8, fun k hk => H k (e1 _ (by omega)) (e2 _ (by omega)) (e3 _ (by omega)) (e4 _ (by omega)) (e5 _ (by omega)) (e6 _ (by omega)) (e7 _ (by omega)) (e8 _ (by omega))⟩
theorem evs8 {ρ : Type} {F : Nat → Option ρ} {r : ρ} {α1 : Type} {g1 : Nat → Option α1} {a1 : α1} {α2 : Type} {g2 : Nat → Option α2} {a2 : α2} {α3 : Type} {g3 : Nat → Option α3} {a3 : α3} {α4 : Type} {g4 : Nat → Option α4} {a4 : α4} {α5 : Type} {g5 : Nat → Option α5} {a5 : α5} {α6 : Type} {g6 : Nat → Option α6} {a6 : α6} {α7 : Type} {g7 : Nat → Option α7} {a7 : α7} {α8 : Type} {g8 : Nat → Option α8} {a8 : α8} (h1 : Ev g1 a1) (h2 : Ev g2 a2) (h3 : Ev g3 a3) (h4 : Ev g4 a4) (h5 : Ev g5 a5) (h6 : Ev g6 a6) (h7 : Ev g7 a7) (h8 : Ev g8 a8) (H : ∀ k, g1 k = some a1 → g2 k = some a2 → g3 k = some a3 → g4 k = some a4 → g5 k = some a5 → g6 k = some a6 → g7 k = some a7 → g8 k = some a8 → F (k + 1) = some r) : Ev F r := by
  obtain ⟨K1, e1⟩ := h1; obtain ⟨K2, e2⟩ := h2; obtain ⟨K3, e3⟩ := h3; obtain ⟨K4, e4⟩ := h4; obtain ⟨K5, e5⟩ := h5; obtain ⟨K6, e6⟩ := h6; obtain ⟨K7, e7⟩ := h7; obtain ⟨K8, e8⟩ := h8
  refine ⟨K1 + K2 + K3 + K4 + K5 + K6 + K7 + K8 + 1, fun k hk => ?_⟩
  obtain ⟨m, rfl⟩ : ∃ m, k = m + 1 := ⟨k - 1, by omega⟩
  exact H m (e1 _ (by omega)) (e2 _ (by omega)) (e3 _ (by omega)) (e4 _ (by omega)) (e5 _ (by omega)) (e6 _ (by omega)) (e7 _ (by omega)) (e8 _ (by omega))
end Go.Proofs.Ytpmfdggbccbfaaa.Pr

set_option linter.unusedVariables false
set_option linter.unusedSimpArgs false
namespace Go.Proofs.Ytpmfdggbccbfaaa.Pure
open Go.RowKit Go.Proofs.Ytpmfdggbccbfaaa.Pr Go.Proofs.YtpmfdggbccbfaaaW.PrintWords Go.Proofs.YtpmfdggbccbfaaaW.PrintLast Go.Proofs.Ytpmfdggbccbfaaa.PostL

theorem tells_shown : arboristlaw13_shown.f 60 = some true := by decide +kernel
theorem tells_after {B : List (List Int)} {P : List Int} (hg : GoodT B P) : Ev (fun k => place_After.f k B P) (post P P.length 0) := by
  obtain ⟨g1, g2, g3, g4⟩ := hg
  cases hP : P with
  | nil =>
    refine Ev.congr (f := fun k => place_After.l0 k [] [-1] B []) (fun k => rfl) ?_
    refine Ev.step (f := fun k => place_After.j1 k [] [-1] true B []) (fun k => rfl) (Ev.step (f := fun k => (slices_Reverse_int_int.f k []).bind fun t => some t) (fun k => ?_) ?_)
    · have w : wrap64 ((([-1] : List Int).length : Int) - 1) = 0 := by rw [wrap_in (by simp) (by simp)]; simp
      simp only [place_After.j1]
      rw [w, if_pos trivial, if_pos (by omega), if_pos (by simp), if_pos (by simp)]
      simp only [Option.bind_some]
      rw [if_pos (by decide)]
    exact Ev.bind (f := fun _ (t : List Int) => some t) (Reverse_ev [] (by simp)) (Ev.now _)
  | cons x P' =>
    have hx : P.getD 0 0 = -1 := (g3 0 (by rw [hP]; simp)).1 rfl
    have hx1 : x = -1 := by rw [hP] at hx; exact hx
    have e : slices_Index_int_int.f P (-1) = some 0 := by
      rw [hP, hx1]
      rfl
    rw [← hP]
    have hp0 : 0 < P.length := by rw [hP]; simp
    have hl := root_length g3 P.length (Nat.le_refl _) hp0
    have := After_loop B P g3 (by omega) P.length [] [0] (by intro s hs; simp at hs; subst hs; omega) (by simpa using hl) (by simp) (by simp)
    refine Ev.congr (f := fun k => place_After.l0 k [] [0] B P) (fun k => ?_) (by simpa using this)
    unfold place_After.f
    rw [e]
    rfl
theorem kids_none (par : List Int) (hl : par.length < 17592186044416) (i : Int) (hi : i < 0) : ∀ (d k : Nat), par.length = k + d → Ev (fun n => place_Children.l0 n i [] par (par.length : Int) (k : Int)) [] := by
  intro d
  induction d with
  | zero =>
    intro k h
    refine Ev.step (f := fun _ => some []) (fun n => ?_) (Ev.now _)
    simp only [place_Children.l0]
    rw [if_neg (by omega)]
  | succ d ih =>
    intro k h
    refine Ev.step (f := fun n => place_Children.l0 n i [] par (par.length : Int) ((k + 1 : Nat) : Int)) (fun n => ?_) (ih (k + 1) (by omega))
    simp only [place_Children.l0]
    rw [if_pos (by omega), if_pos (by omega), if_pos (by omega), if_neg (by omega : ¬ i ≥ 0), wrap_nat k (by omega)]
    split <;> rfl
theorem rkids_none (B : List (List Int)) (par : List Int) (hl : par.length < 17592186044416) (i : Int) (hi : i < 0) : ∀ (d k : Nat), par.length = k + d → Ev (fun n => arboristref13_Children.l0 n i [] (k : Int) B par) [] := by
  intro d
  induction d with
  | zero =>
    intro k h
    refine Ev.step (f := fun _ => some []) (fun n => ?_) (Ev.now _)
    simp only [arboristref13_Children.l0]
    rw [if_neg (by omega)]
  | succ d ih =>
    intro k h
    refine Ev.step (f := fun n => arboristref13_Children.l0 n i [] ((k + 1 : Nat) : Int) B par) (fun n => ?_) (ih (k + 1) (by omega))
    simp only [arboristref13_Children.l0]
    rw [if_pos (by omega), if_pos (by omega), if_neg (by omega : ¬ i ≥ 0), wrap_nat k (by omega)]
    split <;> rfl
theorem kids_both (B : List (List Int)) (P : List Int) (hl : P.length < 1000000) (i : Int) : ∃ r : List Int, r.length < 1000000 ∧ Ev (fun n => place_Children.f n B P i) r ∧ Ev (fun n => arboristref13_Children.f n B P i) r := by
  by_cases hi : 0 ≤ i
  · refine ⟨childI P i, ?_, Children_ev B P (by omega) i hi, RChildren_ev B P (by omega) i hi⟩
    unfold childI
    rw [List.length_map]
    exact Nat.lt_of_le_of_lt (List.length_filter_le _ _) (by simpa using hl)
  · exact ⟨[], by simp, kids_none P (by omega) i (by omega) P.length 0 (by omega), rkids_none B P (by omega) i (by omega) P.length 0 (by omega)⟩
theorem rdU {B : List (List Int)} (h : ∀ b ∈ B, b.length ≤ 6 ∧ b.Pairwise (· < ·)) (i : Int) : (rd_L1 B i).length ≤ 6 ∧ (rd_L1 B i).Pairwise (· < ·) := by
  unfold rd_L1
  by_cases e : i.toNat < B.length
  · rw [List.getD_eq_getElem?_getD, List.getElem?_eq_getElem e]; exact h _ (List.getElem_mem e)
  · rw [List.getD_eq_getElem?_getD, List.getElem?_eq_none (by omega)]; simp
theorem sep_both {B : List (List Int)} {P : List Int} (hg : GoodU B P) (i : Int) : ∃ r : List Int, r.length < 1000000 ∧ place_Separator.f B P i = some r ∧ Ev (fun n => arboristref13_Separator.f n B P i) r := by
  obtain ⟨g1, g2, g3, g4⟩ := hg
  by_cases h0 : i < 0
  · refine ⟨[], by simp, ?_, Ev.congr (fun k => ?_) (Ev.now _)⟩
    · unfold place_Separator.f; rw [if_pos h0]
    · unfold arboristref13_Separator.f; rw [if_pos h0]
  by_cases h1 : i ≥ (B.length : Int)
  · refine ⟨[], by simp, ?_, Ev.congr (fun k => ?_) (Ev.now _)⟩
    · unfold place_Separator.f; rw [if_neg h0, if_pos h1]
    · unfold arboristref13_Separator.f; rw [if_neg h0, if_pos h1]
  by_cases h2 : rd P i < 0
  · refine ⟨[], by simp, ?_, Ev.congr (fun k => ?_) (Ev.now _)⟩
    · unfold place_Separator.f; rw [if_neg h0, if_neg h1, if_neg (by omega), if_pos (by omega), if_pos (by omega), if_pos h2]
    · unfold arboristref13_Separator.f; rw [if_neg h0, if_neg h1, if_pos (by omega), if_pos (by omega), if_pos h2]
  · have a := rdU g4 i
    have b := rdU g4 (rd P i)
    have hp : rd P i < i := by
      obtain ⟨j, rfl⟩ := Int.eq_ofNat_of_zero_le (show 0 ≤ i by omega)
      have e : rd P (j : Int) = P.getD j 0 := rfl
      rw [e] at h2 ⊢
      have hj := g3 j (by omega)
      by_cases z : j = 0
      · have := hj.1 z; omega
      · exact (hj.2 (by omega)).2
    refine ⟨meetL (rd_L1 B i) (rd_L1 B (rd P i)), ?_, ?_, ?_⟩
    · have := List.length_filter_le (fun x => inB (rd_L1 B (rd P i)) x) (rd_L1 B i)
      unfold meetL; omega
    · unfold place_Separator.f
      rw [if_neg h0, if_neg h1, if_neg (by omega), if_pos (by omega), if_pos (by omega), if_neg h2, if_neg (by omega), if_pos (by omega), if_pos (by omega), if_pos (by omega)]
      unfold tuple_Meet.f tuple_merge.f
      rw [if_pos (by omega), ← merge_meet _ _ _ rfl a.2 b.2]
      rfl
    · refine Ev.congr (f := fun k => (arboristref01_Meet.f k (rd_L1 B i) (rd_L1 B (rd P i))).bind fun t => some t) (fun k => ?_) (Ev.bind (f := fun _ (t : List Int) => some t) (Meet_ev _ _ (by omega) (by omega)) (Ev.now _))
      unfold arboristref13_Separator.f
      rw [if_neg h0, if_neg h1, if_pos (by omega), if_pos (by omega), if_neg h2, if_pos (by omega), if_pos (by omega), if_pos (by omega)]
theorem placeL_end (B : List (List Int)) : ∀ (S : List (List Int)) (out : List Int), (placeL B S out).2 = 0 ∧ (placeL B S out).1.length = out.length + S.length ∨ placeL B S out = ([], 5)
  | [], out => .inl ⟨rfl, by simp [placeL]⟩
  | s :: S, out => by
    unfold placeL
    split
    · exact .inr rfl
    · rcases placeL_end B S (out ++ [idxOf (withinB s) B 0]) with h | h
      · refine .inl ⟨h.1, ?_⟩
        rw [h.2]; simp; omega
      · exact .inr h
theorem tells_j0 {B : List (List Int)} {P : List Int} (hg : GoodU B P) (i : Int) : Ev (fun k => arboristlaw13_PlaceTells.j0 k i true false B P) true := by
  obtain ⟨r1, l1, s1, s2⟩ := sep_both hg i
  obtain ⟨r2, l2, c1, c2⟩ := kids_both B P (by have := hg.2.1; omega) i
  have a1 := tells_after hg.T
  have a2 := RAfter_ev hg.T
  have hl : (post P P.length 0).length ≤ 9223372036854775807 := by
    by_cases z : 0 < P.length
    · rw [root_length hg.2.2.1 P.length (Nat.le_refl _) z]; have := hg.2.1; omega
    · rw [show P.length = 0 by omega]; simp [post, childI]
  have e1 : Ev (fun k => arboristref01_Compare.f k r1 r1) 0 := by have := Compare_ev r1 r1 (by omega) (by omega); rwa [cmpL_self] at this
  have e2 : Ev (fun k => arboristref01_Compare.f k r2 r2) 0 := by have := Compare_ev r2 r2 (by omega) (by omega); rwa [cmpL_self] at this
  have e3 : Ev (fun k => arboristref01_Compare.f k (post P P.length 0) (post P P.length 0)) 0 := by have := Compare_ev (post P P.length 0) (post P P.length 0) hl hl; rwa [cmpL_self] at this
  refine evs8 s2 e1 c1 c2 e2 a1 a2 e3 (fun k h1 h2 h3 h4 h5 h6 h7 h8 => ?_)
  simp only [arboristlaw13_PlaceTells.j0]
  rw [if_neg (by simp), if_pos trivial, s1, Option.bind_some, h1, Option.bind_some, h2, Option.bind_some, if_pos rfl, h3, Option.bind_some, h4, Option.bind_some, h5, Option.bind_some, if_pos rfl, h6, Option.bind_some, h7, Option.bind_some, h8]
  rfl
theorem PlaceTells : arboristlaw13_PlaceTells.Pure := by
  intro a0 a1 a2 a3 _ _ _ _
  have hs : Ev (fun k => arboristlaw13_shown.f k) true := Ev.of (fun k => arboristlaw13_shown.mono k) tells_shown
  obtain ⟨B, P, hg, he⟩ := shapeU_ev a0 a1
  obtain ⟨L, LP, hG, hE⟩ := shapeU_ev [] a3
  have hcond : (∀ s ∈ L, ∀ b ∈ B, s.length + b.length < 17592186044416) ∧ L.length < 17592186044416 := by
    refine ⟨fun s hs b hb => ?_, ?_⟩
    · have h1 := (hG.2.2.2 s hs).1
      have h2 := (hg.2.2.2 b hb).1
      omega
    · have h1 := hG.1
      have h2 := hG.2.1
      omega
  have hpl : place_Place.f B P L = some (placeL B L []) := by unfold place_Place.f; rw [if_pos hcond]
  have hL : L.length ≤ 10 := by have h1 := hG.1; have h2 := hG.2.1; omega
  have hB : B.length ≤ 10 := by have h1 := hg.1; have h2 := hg.2.1; omega
  have hr : Ev (fun k => arboristref13_Place.f k B P L) ((placeL B L []).1, (placeL B L []).2 == 0) := by
    have := RPlace_loop L (by omega) B P (by omega) (fun s hs => ⟨by have := (hG.2.2.2 s hs).1; omega, (hG.2.2.2 s hs).2⟩) (fun b hb => ⟨by have := (hg.2.2.2 b hb).1; omega, (hg.2.2.2 b hb).2⟩) L.length 0 [] (by omega) (by simp)
    simpa [arboristref13_Place.f] using this
  have hj := tells_j0 hg a2
  have last : Ev (fun k => (if (((placeL B L []).2 == 0) != ((placeL B L []).2 == 0)) = true then (arboristlaw13_PlaceTells.j0 k a2 true true B P) else (if ((placeL B L []).2 == 0) = true then ((arboristref01_Compare.f k (placeL B L []).1 (placeL B L []).1).bind fun t496 => (arboristlaw13_PlaceTells.j0 k a2 true (t496 != 0) B P)) else (if (placeL B L []).2 = 5 then (if ((placeL B L []).1.length : Int) > 0 then (arboristlaw13_PlaceTells.j0 k a2 true true B P) else ((arboristref01_Compare.f k (placeL B L []).1 (placeL B L []).1).bind fun t497 => (arboristlaw13_PlaceTells.j0 k a2 true (t497 != 0) B P))) else (arboristlaw13_PlaceTells.j0 k a2 true true B P))))) true := by
    have hlen : (placeL B L []).1.length ≤ 10 := by
      rcases placeL_end B L [] with h | h
      · rw [h.2]; simpa using hL
      · rw [h]; simp
    have e1 : Ev (fun k => arboristref01_Compare.f k (placeL B L []).1 (placeL B L []).1) 0 := by have := Compare_ev (placeL B L []).1 (placeL B L []).1 (by omega) (by omega); rwa [cmpL_self] at this
    simp only [bne_self_eq_false, Bool.false_eq_true, if_false]
    have go : Ev (fun k => ((arboristref01_Compare.f k (placeL B L []).1 (placeL B L []).1).bind fun t496 => (arboristlaw13_PlaceTells.j0 k a2 true (t496 != 0) B P))) true := Ev.bind (f := fun k (t496 : Int) => (arboristlaw13_PlaceTells.j0 k a2 true (t496 != 0) B P)) e1 (by simpa using hj)
    rcases placeL_end B L [] with h | h
    · rw [h.1]
      simpa using go
    · rw [h] at go ⊢
      simpa using go
  refine (evu4 hs he hE (evu2 hr last (r := true) (F := fun k => (arboristref13_Place.f k B P L).bind fun bt492 => (if (bt492.2 != ((placeL B L []).2 == 0)) = true then (arboristlaw13_PlaceTells.j0 k a2 true true B P) else (if bt492.2 = true then ((arboristref01_Compare.f k (placeL B L []).1 bt492.1).bind fun t496 => (arboristlaw13_PlaceTells.j0 k a2 true (t496 != 0) B P)) else (if (placeL B L []).2 = 5 then (if ((placeL B L []).1.length : Int) > 0 then (arboristlaw13_PlaceTells.j0 k a2 true true B P) else ((arboristref01_Compare.f k (placeL B L []).1 bt492.1).bind fun t497 => (arboristlaw13_PlaceTells.j0 k a2 true (t497 != 0) B P))) else (arboristlaw13_PlaceTells.j0 k a2 true true B P))))) (fun k e1 e2 => ?_)) (fun k e1 e2 e3 e4 => ?_)).rounds
  · rw [e1]; exact e2
  · unfold arboristlaw13_PlaceTells.f
    rw [e1, Option.bind_some, e2, Option.bind_some, e3, Option.bind_some]
    show ((place_Place.f B P L).bind _) = _
    rw [hpl]
    exact e4

end Go.Proofs.Ytpmfdggbccbfaaa.Pure
