/- What the program's post-order (package place) comes to: the stack's bags, each behind its children. -/
-- uses Ref01
-- uses PostL
-- uses Place13
import Derived.Test.YtpmfdggbccbfaaaLmPlace13
import Derived.Test.YtpmfdggbccbfaaaLmPostL
import Derived.Test.YtpmfdggbccbfaaaLmRef01
import Derived.Test.YtpmfdggbccbfaaaPr1
import Derived.Test.YtpmfdggbccbfaaaPr26
import Derived.Test.YtpmfdggbccbfaaaPr27
import Derived.Test.YtpmfdggbccbfaaaPr28
set_option linter.unusedVariables false
set_option linter.unusedSimpArgs false
namespace Go.Proofs.Ytpmfdggbccbfaaa.Pr
open Go.RowKit Go.Proofs.YtpmfdggbccbfaaaW.PrintWords Go.Proofs.YtpmfdggbccbfaaaW.PrintLast Go.Proofs.Ytpmfdggbccbfaaa.PostL

theorem wrap_in {i : Int} (h0 : -9223372036854775808 ≤ i) (h1 : i < 9223372036854775808) : wrap64 i = i := by
  unfold wrap64
  try simp only
  omega
theorem Reverse_loop : ∀ (d : Nat) (a m c : List Int), m.length = d → a.length + m.length + c.length < 4611686018427387904 → Ev (fun k => slices_Reverse_int_int.l0 k (a ++ m ++ c) (a.length : Int) ((a.length : Int) + (m.length : Int) - 1)) (a ++ m.reverse ++ c) := by
  intro d
  induction d using Nat.strongRecOn with
  | _ d ih =>
    intro a m c hd hl
    by_cases h2 : m.length < 2
    · have hm : m.reverse = m := by
        match m with
        | [] => rfl
        | [x] => rfl
        | x :: y :: l => simp at h2; omega
      rw [hm]
      refine Ev.step (f := fun _ => some (a ++ m ++ c)) (fun k => ?_) (Ev.now _)
      simp only [slices_Reverse_int_int.l0]
      rw [if_neg (by omega)]
    · obtain ⟨x, mid, y, rfl⟩ : ∃ x mid y, m = x :: (mid ++ [y]) := by
        match m with
        | [] => simp at h2
        | x :: l =>
          have hne : l ≠ [] := by rintro rfl; simp at h2
          exact ⟨x, l.dropLast, l.getLast hne, by rw [List.dropLast_concat_getLast]⟩
      have e1 : (x :: (mid ++ [y])).length = mid.length + 2 := by simp
      rw [e1] at hl hd ⊢
      have r1 : rd (a ++ x :: (mid ++ [y]) ++ c) (a.length : Int) = x := by
        rw [rd_nat _ _ x (by simp)]
      have r2 : rd (a ++ x :: (mid ++ [y]) ++ c) ((a.length : Int) + ((mid.length + 2 : Nat) : Int) - 1) = y := by
        rw [show (a.length : Int) + ((mid.length + 2 : Nat) : Int) - 1 = ((a.length + mid.length + 1 : Nat) : Int) by omega]
        rw [rd_nat _ _ y ?_]
        rw [show a ++ x :: (mid ++ [y]) ++ c = (a ++ x :: mid) ++ y :: c by simp, List.getElem?_append_right (by simp; omega)]
        simp [show a.length + mid.length + 1 - (a.length + (mid.length + 1)) = 0 by omega]
      have s1 : (a ++ x :: (mid ++ [y]) ++ c).set a.length y = a ++ y :: (mid ++ [y]) ++ c := by simp [List.set_append]
      have s2 : (a ++ y :: (mid ++ [y]) ++ c).set (a.length + mid.length + 1) x = a ++ y :: (mid ++ [x]) ++ c := by
        rw [show a ++ y :: (mid ++ [y]) ++ c = (a ++ y :: mid) ++ y :: c by simp, List.set_append_right _ _ (by simp; omega)]
        simp [show a.length + mid.length + 1 - (a.length + (mid.length + 1)) = 0 by omega]
      have := ih mid.length (by omega) (a ++ [y]) mid (x :: c) rfl (by simp; omega)
      refine Ev.step (f := fun k => slices_Reverse_int_int.l0 k ((a ++ [y]) ++ mid ++ (x :: c)) ((a ++ [y]).length : Int) (((a ++ [y]).length : Int) + (mid.length : Int) - 1)) (fun k => ?_) ?_
      · simp only [slices_Reverse_int_int.l0]
        rw [if_pos (by omega), if_pos (by omega), if_pos (by simp; omega), if_pos (by omega), if_pos (by simp; omega), r1, r2]
        rw [show ((a.length : Int) + ((mid.length + 2 : Nat) : Int) - 1).toNat = a.length + mid.length + 1 by omega, show ((a.length : Int)).toNat = a.length from rfl, s1, s2, wrap_nat a.length (by omega)]
        congr 1
        · simp
        · simp
        · rw [wrap_in (by omega) (by omega)]
          simp
          omega
      · simpa using this
theorem Reverse_ev (l : List Int) (h : l.length < 4611686018427387904) : Ev (fun k => slices_Reverse_int_int.f k l) l.reverse := by
  have := Reverse_loop l.length [] l [] rfl (by simpa using h)
  refine Ev.congr (f := fun k => slices_Reverse_int_int.l0 k l 0 ((l.length : Int) - 1)) (fun k => ?_) (by simpa using this)
  show slices_Reverse_int_int.l0 k l 0 (wrap64 ((l.length : Int) - 1)) = _
  rw [wrap_in (by omega) (by omega)]
theorem After_loop (B : List (List Int)) (P : List Int) (h : Ahead P) (hn : P.length < 1000000) : ∀ (m : Nat) (out st : List Int), (∀ s ∈ st, 0 ≤ s ∧ s < P.length) → (st.flatMap (post P P.length)).length = m → out.length + m ≤ P.length → st.length < 1000000 + out.length * 1000000 → Ev (fun k => place_After.l0 k out st B P) (st.flatMap (post P P.length) ++ out.reverse) := by
  intro m
  induction m with
  | zero =>
    intro out st hs hm ho hb
    have e : st = [] := by
      cases st with
      | nil => rfl
      | cons s st =>
        have hs0 := hs s (by simp)
        have hc := post_self h P.length s hs0.1 hs0.2 (by omega)
        have : 0 < (post P P.length s).length := List.length_pos_of_mem (List.count_pos_iff.1 (by rw [hc]; omega) : s ∈ post P P.length s)
        simp at hm
        simp [hm.1] at this
    subst e
    refine Ev.step (f := fun k => place_After.j1 k out [] false B P) (fun k => ?_) (Ev.step (f := fun k => (slices_Reverse_int_int.f k out).bind fun t => some t) (fun k => ?_) ?_)
    · simp only [place_After.l0]
      rw [if_neg (by simp)]
    · simp only [place_After.j1]
      rw [if_neg (by simp)]
    · simpa using Ev.bind (f := fun _ (t : List Int) => some t) (Reverse_ev out (by omega)) (Ev.now _)
  | succ m ih =>
    intro out st hs hm ho hb
    have hne : st ≠ [] := by rintro rfl; simp at hm
    obtain ⟨st', i, rfl⟩ : ∃ st' i, st = st' ++ [i] := ⟨st.dropLast, st.getLast hne, by rw [List.dropLast_concat_getLast]⟩
    have hi := hs i (by simp)
    have hu : post P P.length i = (childI P i).flatMap (post P P.length) ++ [i] := post_at h i hi.1 hi.2 P.length (P.length + 1) (by omega) (by omega)
    have hc : (childI P i).length ≤ P.length := by
      unfold childI
      rw [List.length_map]
      exact Nat.le_trans (List.length_filter_le _ _) (by simp)
    have e1 : (st' ++ [i]).flatMap (post P P.length) = (st' ++ childI P i).flatMap (post P P.length) ++ [i] := by
      simp [hu]
    rw [e1] at hm ⊢
    simp only [List.length_append, List.length_singleton] at hm hb
    have := ih (out ++ [i]) (st' ++ childI P i) (by
      intro s hs2
      rcases List.mem_append.1 hs2 with hs2 | hs2
      · exact hs s (by simp [hs2])
      · have := child_gt h hi.1 hs2; omega) (by omega) (by simp; omega) (by simp; omega)
    have w : wrap64 (((st' ++ [i]).length : Int) - 1) = (st'.length : Int) := by
      rw [wrap_in (by simp <;> omega) (by simp <;> omega)]; simp
    have rr : rd (st' ++ [i]) (st'.length : Int) = i := rd_nat _ _ i (by simp)
    refine Ev.step (f := fun k => place_After.j1 k out (st' ++ [i]) true B P) (fun k => ?_) (Ev.step (f := fun k => (place_Children.f k B P i).bind fun t => if st'.length + t.length < 17592186044416 then place_After.l0 k (out ++ [i]) (st' ++ t) B P else none) (fun k => ?_) ?_)
    · simp only [place_After.l0]
      rw [if_pos (by simp), show decide ((out.length : Int) ≤ (P.length : Int)) = true from decide_eq_true (by omega)]
    · simp only [place_After.j1]
      rw [w, if_pos trivial, if_pos (by omega), if_pos (by simp; omega), if_pos (by simp; omega), rr]
      simp only [Option.bind_some]
      rw [if_neg (by omega), if_pos (by omega)]
      simp
    · refine Ev.bind (f := fun k (t : List Int) => if st'.length + t.length < 17592186044416 then place_After.l0 k (out ++ [i]) (st' ++ t) B P else none) (Children_ev B P (by omega) i hi.1) ?_
      have o1 : out.length < P.length := by omega
      have o2 : st'.length + (childI P i).length < 17592186044416 := by
        have : out.length * 1000000 < 1000000 * 1000000 := by omega
        omega
      simp only [if_pos o2]
      simpa using this
end Go.Proofs.Ytpmfdggbccbfaaa.Pr
