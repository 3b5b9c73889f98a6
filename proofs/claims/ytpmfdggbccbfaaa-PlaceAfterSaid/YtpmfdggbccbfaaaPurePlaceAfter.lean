/- PlaceAfter: each bag is once, behind all that are below it. For all parents and bags. -/
-- uses Ref01
-- uses PostL
-- uses Place13
-- uses After13
import Derived.Test.YtpmfdggbccbfaaaLmAfter13
import Derived.Test.YtpmfdggbccbfaaaLmPlace13
import Derived.Test.YtpmfdggbccbfaaaLmPostL
import Derived.Test.YtpmfdggbccbfaaaLmRef01
import Derived.Test.YtpmfdggbccbfaaaPr16
import Derived.Test.YtpmfdggbccbfaaaPr27
import Derived.Test.YtpmfdggbccbfaaaPr28
import Derived.Test.YtpmfdggbccbfaaaPr31
import Derived.Test.YtpmfdggbccbfaaaPr33
import Derived.Test.YtpmfdggbccbfaaaPr42
import Derived.Test.YtpmfdggbccbfaaaPr6
set_option linter.unusedVariables false
namespace Go.Proofs.Ytpmfdggbccbfaaa.Pure
open Go.RowKit Go.Proofs.Ytpmfdggbccbfaaa.Pr Go.Proofs.YtpmfdggbccbfaaaW.PrintWords Go.Proofs.YtpmfdggbccbfaaaW.PrintLast Go.Proofs.Ytpmfdggbccbfaaa.PostL

theorem after_shown : arboristlaw13_shown.f 60 = some true := by decide +kernel
theorem after_ev {B : List (List Int)} {P : List Int} (hg : GoodT B P) : Ev (fun k => place_After.f k B P) (post P P.length 0) := by
  obtain ⟨g1, g2, g3, g4⟩ := hg
  cases hP : P with
  | nil =>
    refine Ev.congr (f := fun k => place_After.l0 k [] [-1] B []) (fun k => rfl) ?_
    refine Ev.step (f := fun k => place_After.j1 k [] [-1] true B []) (fun k => rfl) (Ev.step (f := fun k => (slices_Reverse_int_int.f k []).bind fun t => some t) (fun k => ?_) ?_)
    · have w : wrap64 ((([-1] : List Int).length : Int) - 1) = 0 := by rw [wrap_in (by simp) (by simp)]; simp
      simp only [place_After.j1]
      rw [w, if_pos trivial, if_pos (by omega), if_pos (by simp), if_pos (by simp)]
      simp only [Option.bind_some]
      rw [if_pos (by decide)]
    exact Ev.bind (f := fun _ (t : List Int) => some t) (Reverse_ev [] (by simp)) (Ev.now _)
  | cons x P' =>
    have hx : P.getD 0 0 = -1 := (g3 0 (by rw [hP]; simp)).1 rfl
    have hx1 : x = -1 := by rw [hP] at hx; exact hx
    have e : slices_Index_int_int.f P (-1) = some 0 := by
      rw [hP, hx1]
      rfl
    rw [← hP]
    have hp0 : 0 < P.length := by rw [hP]; simp
    have hl := root_length g3 P.length (Nat.le_refl _) hp0
    have := After_loop B P g3 (by omega) P.length [] [0] (by intro s hs; simp at hs; subst hs; omega) (by simpa using hl) (by simp) (by simp)
    refine Ev.congr (f := fun k => place_After.l0 k [] [0] B P) (fun k => ?_) (by simpa using this)
    unfold place_After.f
    rw [e]
    rfl
theorem inB_not {l : List Int} {v : Int} (h : v ∉ l) : inB l v = false := by
  unfold inB
  rw [List.any_eq_false]
  intro y hy e
  have : y = v := by simpa using e
  exact h (this ▸ hy)
theorem after_loop {B : List (List Int)} {P : List Int} (hg : GoodT B P) (hp : 0 < P.length) (L : List Int) (hL : L = post P P.length 0) : ∀ d i : Nat, L.length = i + d → Ev (fun k => arboristlaw13_PlaceAfter.l0 k true L (i : Int) B P) true := by
  obtain ⟨g1, g2, g3, g4⟩ := hg
  have hn := root_nodup g3 P.length (Nat.le_refl _) hp
  have hpm := root_perm g3 P.length (Nat.le_refl _) hp
  have hlen := root_length g3 P.length (Nat.le_refl _) hp
  rw [← hL] at hn hpm hlen
  intro d
  induction d with
  | zero =>
    intro i h
    refine Ev.step (f := fun _ => some true) (fun k => ?_) (Ev.now _)
    simp only [arboristlaw13_PlaceAfter.l0]
    rw [if_neg (by omega)]
  | succ d ih =>
    intro i h
    have hi : i < L.length := by omega
    have hs : L = L.take i ++ rd L (i : Int) :: L.drop (i + 1) := by rw [← drop_at L i hi, List.take_append_drop]
    generalize hx : rd L (i : Int) = x at hs
    have hm : x ∈ L := by rw [hs]; simp
    obtain ⟨j, hj, rfl⟩ : ∃ j : Nat, j < P.length ∧ x = (j : Int) := by
      have := hpm.mem_iff.1 hm
      simp only [List.mem_map, List.mem_range] at this
      obtain ⟨j, h1, h2⟩ := this
      exact ⟨j, h1, h2.symm⟩
    have hd := hn
    rw [hs, List.nodup_append] at hd
    have n1 : (j : Int) ∉ L.take i := fun hc => hd.2.2 _ hc _ (by simp) rfl
    have er : rd P (j : Int) = P.getD j 0 := rfl
    have n2 : P.getD j 0 ≥ 0 → P.getD j 0 ∉ L.take i := by
      intro hge hc
      by_cases z : j = 0
      · subst z
        have := (g3 0 hp).1 rfl
        omega
      · obtain ⟨k, hk, hv⟩ := behind g3 P.length 0 (by omega) (L.take i) (L.drop (i + 1)) (j : Int) (by rw [← hL]; exact hs) (by omega)
        have : k = j := by omega
        subst this
        exact hd.2.2 _ hc _ (List.mem_cons_of_mem _ hv) rfl
    have ht : (L.take i).length ≤ 9223372036854775807 := by rw [List.length_take]; omega
    have v1 := In_ev (L.take i) ht (j : Int)
    rw [inB_not n1] at v1
    refine Ev.step (f := fun k => arboristlaw13_PlaceAfter.j1 k true L (i : Int) false B P) (fun k => ?_) ?_
    · simp only [arboristlaw13_PlaceAfter.l0]
      rw [if_pos (by omega), if_pos (by omega), hx, if_neg (by omega), show decide ((j : Int) ≥ (B.length : Int)) = false from decide_eq_false (by omega)]
    · by_cases hq : P.getD j 0 ≥ 0
      · have v2 := In_ev (L.take i) ht (P.getD j 0)
        rw [inB_not (n2 hq)] at v2
        refine Ev.step (f := fun k => (arboristref01_In.f k (L.take i) (j : Int)).bind fun a => (arboristref01_In.f k (L.take i) (P.getD j 0)).bind fun b => if a = true then some false else if b = true then some false else arboristlaw13_PlaceAfter.l0 k true L ((i + 1 : Nat) : Int) B P) (fun k => ?_) ?_
        · simp only [arboristlaw13_PlaceAfter.j1]
          rw [if_neg (by simp), if_pos (by omega), if_pos (by omega)]
          simp only [Option.bind_some]
          rw [if_pos (by omega), hx, er, wrap_nat i (by omega)]
          have p0 : (0 : Int) ≤ (j : Int) := by omega
          have p1 : (j : Int) < (P.length : Int) := by omega
          simp only [if_pos p0, if_pos p1, if_pos hq, Int.toNat_natCast]
        · refine Ev.bind (f := fun k a => (arboristref01_In.f k (L.take i) (P.getD j 0)).bind fun b => if a = true then some false else if b = true then some false else arboristlaw13_PlaceAfter.l0 k true L ((i + 1 : Nat) : Int) B P) v1 ?_
          refine Ev.bind (f := fun k b => if false = true then some false else if b = true then some false else arboristlaw13_PlaceAfter.l0 k true L ((i + 1 : Nat) : Int) B P) v2 ?_
          simpa using ih (i + 1) (by omega)
      · refine Ev.step (f := fun k => (arboristref01_In.f k (L.take i) (j : Int)).bind fun a => if a = true then some false else arboristlaw13_PlaceAfter.l0 k true L ((i + 1 : Nat) : Int) B P) (fun k => ?_) ?_
        · simp only [arboristlaw13_PlaceAfter.j1]
          rw [if_neg (by simp), if_pos (by omega), if_pos (by omega)]
          simp only [Option.bind_some]
          rw [if_pos (by omega), hx, er, wrap_nat i (by omega)]
          have p0 : (0 : Int) ≤ (j : Int) := by omega
          have p1 : (j : Int) < (P.length : Int) := by omega
          simp only [if_pos p0, if_pos p1, if_neg hq, Int.toNat_natCast]
        · refine Ev.bind (f := fun k a => if a = true then some false else arboristlaw13_PlaceAfter.l0 k true L ((i + 1 : Nat) : Int) B P) v1 ?_
          simpa using ih (i + 1) (by omega)
theorem PlaceAfter : arboristlaw13_PlaceAfter.Pure := by
  intro a0 a1 _ _
  have hs : Ev (fun k => arboristlaw13_shown.f k) true := Ev.of (fun k => arboristlaw13_shown.mono k) after_shown
  obtain ⟨B, P, hg, he⟩ := shape_ev a0 a1
  have ha := after_ev hg
  have g1 := hg.1
  have g3 := hg.2.2.1
  have hl : (post P P.length 0).length = P.length := by
    by_cases z : 0 < P.length
    · exact root_length g3 P.length (Nat.le_refl _) z
    · rw [show P.length = 0 by omega]; rfl
  have last : Ev (fun k => if ((post P P.length 0).length : Int) = (B.length : Int) then arboristlaw13_PlaceAfter.l0 k true (post P P.length 0) 0 B P else some false) true := by
    have c : ((post P P.length 0).length : Int) = (B.length : Int) := by omega
    simp only [if_pos c]
    by_cases z : 0 < P.length
    · exact after_loop hg z _ rfl (post P P.length 0).length 0 (by omega)
    · refine Ev.step (f := fun _ => some true) (fun k => ?_) (Ev.now _)
      simp only [arboristlaw13_PlaceAfter.l0]
      rw [if_neg (by omega)]
  exact (Ev.bind (f := fun k t => (arboristlaw13_shape.f k a0 a1).bind fun bt => (place_After.f k bt.1 bt.2).bind fun l => if (l.length : Int) = (bt.1.length : Int) then arboristlaw13_PlaceAfter.l0 k t l 0 bt.1 bt.2 else some false) hs
    (Ev.bind (f := fun k (bt : List (List Int) × List Int) => (place_After.f k bt.1 bt.2).bind fun l => if (l.length : Int) = (bt.1.length : Int) then arboristlaw13_PlaceAfter.l0 k true l 0 bt.1 bt.2 else some false) he
      (Ev.bind (f := fun k (l : List Int) => if (l.length : Int) = (B.length : Int) then arboristlaw13_PlaceAfter.l0 k true l 0 B P else some false) ha last))).rounds

end Go.Proofs.Ytpmfdggbccbfaaa.Pure
