/- PlaceKin: a bag's children have it as their parent, and all but the root are somebody's. For all parents and bags. -/
-- uses Ref01
-- uses PostL
-- uses Place13
import Derived.Test.YtpmfdggbccbfaaaLmPlace13
import Derived.Test.YtpmfdggbccbfaaaLmPostL
import Derived.Test.YtpmfdggbccbfaaaLmRef01
import Derived.Test.YtpmfdggbccbfaaaPr0
import Derived.Test.YtpmfdggbccbfaaaPr1
import Derived.Test.YtpmfdggbccbfaaaPr17
import Derived.Test.YtpmfdggbccbfaaaPr21
import Derived.Test.YtpmfdggbccbfaaaPr24
import Derived.Test.YtpmfdggbccbfaaaPr25
import Derived.Test.YtpmfdggbccbfaaaPr26
import Derived.Test.YtpmfdggbccbfaaaPr31
import Derived.Test.YtpmfdggbccbfaaaPr33
import Derived.Test.YtpmfdggbccbfaaaPr54
set_option linter.unusedVariables false
namespace Go.Proofs.Ytpmfdggbccbfaaa.Pure
open Go.RowKit Go.Proofs.Ytpmfdggbccbfaaa.Pr Go.Proofs.YtpmfdggbccbfaaaW.PrintWords Go.Proofs.YtpmfdggbccbfaaaW.PrintLast Go.Proofs.Ytpmfdggbccbfaaa.PostL

theorem kin_shown : arboristlaw13_shown.f 60 = some true := by decide +kernel
theorem rdL_short {B : List (List Int)} (h : ∀ b ∈ B, b.length ≤ 6) (i : Int) : (rd_L1 B i).length ≤ 6 := by
  unfold rd_L1
  by_cases e : i.toNat < B.length
  · rw [List.getD_eq_getElem?_getD, List.getElem?_eq_getElem e]; exact h _ (List.getElem_mem e)
  · rw [List.getD_eq_getElem?_getD, List.getElem?_eq_none (by omega)]; simp
theorem sep_low (B : List (List Int)) (P : List Int) (i : Int) (h : i < 0) : place_Separator.f B P i = some [] := by
  unfold place_Separator.f
  rw [if_pos h]
theorem sep_root {B : List (List Int)} {P : List Int} (hg : GoodT B P) : place_Separator.f B P 0 = some [] := by
  obtain ⟨g1, g2, g3, g4⟩ := hg
  unfold place_Separator.f
  rw [if_neg (by omega)]
  by_cases z : B.length = 0
  · rw [if_pos (by omega)]
  · have := (g3 0 (by omega)).1 rfl
    have e : rd P 0 = -1 := this
    rw [if_neg (by omega), if_neg (by omega), if_pos (by omega), if_pos (by omega), e, if_pos (by omega)]
theorem sep_at {B : List (List Int)} {P : List Int} (hg : GoodT B P) (c i : Int) (h0 : 0 ≤ i) (h1 : i < c) (h2 : c < (B.length : Int)) (hp : rd P c = i) : ∃ t, place_Separator.f B P c = some t ∧ t.length < 17592186044416 ∧ (∀ x ∈ t, x ∈ rd_L1 B c) ∧ ∀ x ∈ t, x ∈ rd_L1 B i := by
  obtain ⟨g1, g2, g3, g4⟩ := hg
  have a := rdL_short g4 c
  have b := rdL_short g4 i
  refine ⟨mergeL false true false (rd_L1 B c) (rd_L1 B i), ?_, ?_, fun x hx => (merge_both _ _ x hx).1, fun x hx => (merge_both _ _ x hx).2⟩
  · unfold place_Separator.f
    rw [if_neg (by omega), if_neg (by omega), if_neg (by omega), if_pos (by omega), if_pos (by omega), hp, if_neg (by omega), if_neg (by omega), if_pos (by omega), if_pos (by omega), if_pos (by omega)]
    unfold tuple_Meet.f tuple_merge.f
    rw [if_pos (by omega)]
    rfl
  · have := mergeL_len false true false _ (rd_L1 B c) (rd_L1 B i) rfl
    omega
theorem kids_l1 {B : List (List Int)} {P : List Int} (hg : GoodT B P) (x7 : Int) (i : Int) (h0 : 0 ≤ i) (hi : i < (B.length : Int)) (r : Bool) (hr : Ev (fun n => arboristlaw13_PlaceKin.l0 n true (wrap64 (x7 + ((childI P i).length : Int))) (wrap64 (i + 1)) B P) r) (hc : (childI P i).length < 1000) : ∀ d k : Nat, (childI P i).length = k + d → Ev (fun n => arboristlaw13_PlaceKin.l1 n true x7 i (childI P i) (k : Int) B P) r := by
  intro d
  induction d with
  | zero =>
    intro k h
    refine Ev.step (fun n => ?_) hr
    simp only [arboristlaw13_PlaceKin.l1]
    rw [if_neg (by omega)]
  | succ d ih =>
    intro k h
    have hm : rd (childI P i) (k : Int) ∈ childI P i := by
      have hk : k < (childI P i).length := by omega
      rw [rd_nat _ _ _ (List.getElem?_eq_getElem hk)]
      exact List.getElem_mem hk
    generalize hx : rd (childI P i) (k : Int) = x at hm
    obtain ⟨hx1, hx2⟩ := child_gt hg.2.2.1 h0 hm
    have hp : rd P x = i := by
      obtain ⟨j, hj1, hj2, rfl⟩ := mem_child.1 hm
      exact hj2
    have hgl := hg.1
    obtain ⟨t, t1, t2, t3, t4⟩ := sep_at hg x i h0 hx1 (by omega) hp
    have w1 := Within_ev t (rd_L1 B i) t2 (by have := rdL_short hg.2.2.2 i; omega)
    have w2 := Within_ev t (rd_L1 B x) t2 (by have := rdL_short hg.2.2.2 x; omega)
    rw [(withinR_iff _ _).2 t4] at w1
    rw [(withinR_iff _ _).2 t3] at w2
    refine Ev.step (f := fun n => arboristlaw13_PlaceKin.j2 n true x7 i (childI P i) (k : Int) false B P) (fun n => ?_) (Ev.step (f := fun n => (arboristref01_Within.f n t (rd_L1 B i)).bind fun a => (arboristref01_Within.f n t (rd_L1 B x)).bind fun b => if a = true then (if b = true then arboristlaw13_PlaceKin.l1 n true x7 i (childI P i) ((k + 1 : Nat) : Int) B P else some false) else some false) (fun n => ?_) ?_)
    · simp only [arboristlaw13_PlaceKin.l1]
      rw [if_pos (by omega), if_pos (by omega), hx, if_neg (by omega), if_neg (by omega), if_pos (by omega), if_pos (by omega), hp]
      simp
    · simp only [arboristlaw13_PlaceKin.j2]
      rw [if_neg (by simp), if_pos (by omega), if_pos (by omega), hx, t1, wrap_nat k (by omega)]
      simp only [Option.bind_some]
      rw [if_pos h0, if_pos hi]
      have p0 : 0 ≤ x := by omega
      have p1 : x < (B.length : Int) := by omega
      simp only [if_pos p0, if_pos p1]
    · refine Ev.bind (f := fun n a => (arboristref01_Within.f n t (rd_L1 B x)).bind fun b => if a = true then (if b = true then arboristlaw13_PlaceKin.l1 n true x7 i (childI P i) ((k + 1 : Nat) : Int) B P else some false) else some false) w1 ?_
      refine Ev.bind (f := fun n b => if true = true then (if b = true then arboristlaw13_PlaceKin.l1 n true x7 i (childI P i) ((k + 1 : Nat) : Int) B P else some false) else some false) w2 ?_
      simpa using ih (k + 1) (by omega)
/-- how many stand below the first m -/
def below (P : List Int) (m : Nat) : Nat := ((List.range P.length).filter (fun k => decide (0 ≤ P.getD k 0 ∧ P.getD k 0 < (m : Int)))).length
theorem below_succ (P : List Int) (m : Nat) : below P (m + 1) = below P m + (childI P (m : Int)).length := by
  have key : ∀ l : List Nat, (l.filter (fun k => decide (0 ≤ P.getD k 0 ∧ P.getD k 0 < ((m + 1 : Nat) : Int)))).length = (l.filter (fun k => decide (0 ≤ P.getD k 0 ∧ P.getD k 0 < (m : Int)))).length + (l.filter (fun k => P.getD k 0 == (m : Int))).length := by
    intro l
    induction l with
    | nil => rfl
    | cons a l ih =>
      simp only [List.filter_cons]
      generalize P.getD a 0 = v
      by_cases h1 : v = (m : Int)
      · rw [if_pos (by simp; omega), if_neg (by simp; omega), if_pos (by simpa using h1)]
        simp only [List.length_cons]; omega
      · by_cases h2 : 0 ≤ v ∧ v < (m : Int)
        · rw [if_pos (by simp; omega), if_pos (by simp; omega), if_neg (by simpa using h1)]
          simp only [List.length_cons]; omega
        · rw [if_neg (by simp; omega), if_neg (by simp; omega), if_neg (by simpa using h1)]
          exact ih
  unfold below childI
  rw [List.length_map]
  exact key _
theorem below_zero (P : List Int) : below P 0 = 0 := by
  unfold below
  rw [List.length_eq_zero_iff, List.filter_eq_nil_iff]
  intro a _
  simp only [decide_eq_true_eq]
  omega
theorem below_len (P : List Int) (m : Nat) : below P m ≤ P.length := by
  unfold below
  exact Nat.le_trans (List.length_filter_le _ _) (by simp)
theorem below_all {P : List Int} (h : Ahead P) : below P P.length = P.length - 1 := by
  unfold below
  cases hn : P.length with
  | zero => simp
  | succ m =>
    have z : P.getD 0 0 = -1 := (h 0 (by omega)).1 rfl
    rw [List.range_succ_eq_map, List.filter_cons, if_neg (by rw [z]; simp), List.filter_eq_self.2]
    · simp
    · intro a ha
      simp only [List.mem_map, List.mem_range] at ha
      obtain ⟨b, hb, rfl⟩ := ha
      have := (h (b + 1) (by omega)).2 (by omega)
      rw [show Nat.succ b = b + 1 from rfl]
      exact decide_eq_true (by omega)
theorem child_len (P : List Int) (i : Int) : (childI P i).length ≤ P.length := by
  unfold childI
  rw [List.length_map]
  exact Nat.le_trans (List.length_filter_le _ _) (by simp)
theorem child_end {P : List Int} (h : Ahead P) (n : Int) (hn : n = (P.length : Int)) : childI P n = [] := by
  rw [List.eq_nil_iff_forall_not_mem]
  intro c hc
  have := child_gt h (by omega) hc
  omega
theorem kin_l0 {B : List (List Int)} {P : List Int} (hg : GoodT B P) : ∀ d i : Nat, B.length = i + d → Ev (fun n => arboristlaw13_PlaceKin.l0 n true ((below P i : Nat) : Int) (i : Int) B P) true := by
  have g1 := hg.1
  have g2 := hg.2.1
  intro d
  induction d with
  | zero =>
    intro i h
    have hi : i = P.length := by omega
    have hb := below_all hg.2.2.1
    refine Ev.step (f := fun n => (place_Children.f n B P (B.length : Int)).bind fun t => some ((t.length : Int) == 0)) (fun n => ?_) ?_
    · simp only [arboristlaw13_PlaceKin.l0]
      rw [if_neg (by omega), if_pos trivial, if_pos, sep_root hg]
      · simp only [Option.bind_some]
        rw [if_pos (by simp), sep_low B P (-1) (by omega)]
        simp only [Option.bind_some]
        rw [if_pos (by simp)]
      · rw [hi, hb, g1]
        unfold mx wrap64
        try simp only
        split <;> omega
    · have := Children_ev B P (by omega) (B.length : Int) (by omega)
      rw [child_end hg.2.2.1 _ (by omega)] at this
      exact Ev.bind (f := fun _ (t : List Int) => some ((t.length : Int) == 0)) this (Ev.now true)
  | succ d ih =>
    intro i h
    have hc := child_len P (i : Int)
    have hb := below_len P i
    refine Ev.step (f := fun n => (place_Children.f n B P (i : Int)).bind fun t => arboristlaw13_PlaceKin.l1 n true ((below P i : Nat) : Int) (i : Int) t 0 B P) (fun n => ?_) ?_
    · simp only [arboristlaw13_PlaceKin.l0]
      rw [if_pos (by omega)]
    · refine Ev.bind (f := fun n t => arboristlaw13_PlaceKin.l1 n true ((below P i : Nat) : Int) (i : Int) t 0 B P) (Children_ev B P (by omega) (i : Int) (by omega)) ?_
      refine kids_l1 hg _ _ (by omega) (by omega) true ?_ (by omega) (childI P (i : Int)).length 0 (by omega)
      have e : wrap64 (((below P i : Nat) : Int) + ((childI P (i : Int)).length : Int)) = ((below P (i + 1) : Nat) : Int) := by
        rw [below_succ]
        unfold wrap64
        try simp only
        omega
      rw [e, wrap_nat i (by omega)]
      exact ih (i + 1) (by omega)
theorem PlaceKin : arboristlaw13_PlaceKin.Pure := by
  intro a0 a1 _ _
  have hs : Ev (fun k => arboristlaw13_shown.f k) true := Ev.of (fun k => arboristlaw13_shown.mono k) kin_shown
  obtain ⟨B, P, hg, he⟩ := shape_ev a0 a1
  have := kin_l0 hg B.length 0 (by omega)
  rw [below_zero] at this
  exact (Ev.bind (f := fun k t => (arboristlaw13_shape.f k a0 a1).bind fun bt => arboristlaw13_PlaceKin.l0 k t 0 0 bt.1 bt.2) hs (Ev.bind (f := fun k (bt : List (List Int) × List Int) => arboristlaw13_PlaceKin.l0 k true 0 0 bt.1 bt.2) he this)).rounds

end Go.Proofs.Ytpmfdggbccbfaaa.Pure
