/- Trees whose bags stand behind their parents: who is below whom, in the order of the children; plain lists of numbers. -/
set_option linter.unusedVariables false
set_option linter.unusedSimpArgs false
namespace Go.Proofs.Ytpmfdggbccbfaaa.PostL
def childI (par : List Int) (i : Int) : List Int := ((List.range par.length).filter (fun k => par.getD k 0 == i)).map Int.ofNat
def post (par : List Int) : Nat → Int → List Int
  | 0, _ => []
  | f + 1, i => (childI par i).flatMap (post par f) ++ [i]
/-- parents stand ahead -/
def Ahead (par : List Int) : Prop := ∀ k : Nat, k < par.length → (k = 0 → par.getD k 0 = -1) ∧ (0 < k → 0 ≤ par.getD k 0 ∧ par.getD k 0 < k)
theorem mem_child {par : List Int} {i c : Int} : c ∈ childI par i ↔ ∃ k : Nat, k < par.length ∧ par.getD k 0 = i ∧ c = (k : Int) := by
  unfold childI
  simp only [List.mem_map, List.mem_filter, List.mem_range, beq_iff_eq]
  constructor
  · rintro ⟨k, ⟨h1, h2⟩, rfl⟩; exact ⟨k, h1, h2, rfl⟩
  · rintro ⟨k, h1, h2, rfl⟩; exact ⟨k, ⟨h1, h2⟩, rfl⟩
theorem child_gt {par : List Int} (h : Ahead par) {i c : Int} (hi : 0 ≤ i) (hc : c ∈ childI par i) : i < c ∧ c < par.length := by
  obtain ⟨k, h1, h2, rfl⟩ := mem_child.1 hc
  obtain ⟨h3, h4⟩ := h k h1
  rcases Nat.eq_zero_or_pos k with h0 | h0
  · have := h3 h0; omega
  · have := h4 h0; omega
theorem post_ge {par : List Int} (h : Ahead par) : ∀ (f : Nat) (i : Int), 0 ≤ i → ∀ x ∈ post par f i, i ≤ x ∧ (x = i ∨ x < par.length) := by
  intro f
  induction f with
  | zero => intro i _ x hx; simp [post] at hx
  | succ f ih =>
    intro i hi x hx
    simp only [post, List.mem_append, List.mem_flatMap, List.mem_singleton] at hx
    rcases hx with ⟨c, hc, hx⟩ | rfl
    · obtain ⟨h1, h2⟩ := child_gt h hi hc
      obtain ⟨h3, h4⟩ := ih c (by omega) x hx
      refine ⟨by omega, .inr ?_⟩
      rcases h4 with rfl | h4
      · exact h2
      · exact h4
    · exact ⟨Int.le_refl _, .inl rfl⟩
/-- rounds enough: one more tells the same -/
theorem post_more {par : List Int} (h : Ahead par) : ∀ (f : Nat) (i : Int), 0 ≤ i → i < par.length → (par.length : Int) - i ≤ f → post par (f + 1) i = post par f i := by
  intro f
  induction f with
  | zero => intro i h0 h1 h2; omega
  | succ f ih =>
    intro i h0 h1 h2
    show (childI par i).flatMap (post par (f + 1)) ++ [i] = (childI par i).flatMap (post par f) ++ [i]
    congr 1
    rw [List.flatMap_def, List.flatMap_def]
    congr 1
    apply List.map_congr_left
    intro c hc
    obtain ⟨h3, h4⟩ := child_gt h h0 hc
    exact ih c (by omega) h4 (by omega)
theorem post_at {par : List Int} (h : Ahead par) (i : Int) (h0 : 0 ≤ i) (h1 : i < par.length) (f g : Nat) (hf : (par.length : Int) - i ≤ f) (hg : (par.length : Int) - i ≤ g) : post par f i = post par g i := by
  have key : ∀ d f : Nat, (par.length : Int) - i ≤ f → post par (f + d) i = post par f i := by
    intro d
    induction d with
    | zero => intro f _; rfl
    | succ d ih => intro f hf; rw [show f + (d + 1) = (f + d) + 1 from rfl, post_more h (f + d) i h0 h1 (by omega), ih f hf]
  rcases Nat.le_total f g with hl | hl
  · obtain ⟨d, rfl⟩ := Nat.exists_eq_add_of_le hl; exact (key d f hf).symm
  · obtain ⟨d, rfl⟩ := Nat.exists_eq_add_of_le hl; exact key d g hg
theorem child_nodup (par : List Int) (i : Int) : (childI par i).Nodup := by
  unfold childI
  refine List.Pairwise.map _ (fun a b hab => ?_) ((List.nodup_range).filter _)
  intro e; exact hab (Int.ofNat.inj e)
theorem sum_zero (l : List Int) : (l.map (fun _ => 0)).sum = 0 := by
  induction l with
  | nil => rfl
  | cons a l ih => simp [ih]
theorem sum_one (l : List Int) (x : Int) : (l.map (fun c => if c = x then 1 else 0)).sum = l.count x := by
  induction l with
  | nil => rfl
  | cons a l ih =>
    by_cases e : a = x
    · subst e; simp [ih]; omega
    · simp [ih, e]
theorem post_self {par : List Int} (h : Ahead par) (f : Nat) (i : Int) (h0 : 0 ≤ i) (h1 : i < par.length) (h2 : (par.length : Int) - i ≤ f) : (post par f i).count i = 1 := by
  cases f with
  | zero => omega
  | succ f =>
    simp only [post, List.count_append, List.count_flatMap, List.count_singleton_self]
    have : (childI par i).map (List.count i ∘ post par f) = (childI par i).map (fun _ => 0) := by
      apply List.map_congr_left
      intro c hc
      obtain ⟨h3, h4⟩ := child_gt h h0 hc
      refine List.count_eq_zero.2 fun hm => ?_
      have := (post_ge h f c (by omega) i hm).1
      omega
    rw [this, sum_zero]
/-- how often x is there: as often as its parent -/
theorem post_count {par : List Int} (h : Ahead par) (x : Nat) (hx : x < par.length) (hx0 : 0 < x) : ∀ (f : Nat) (i : Int), 0 ≤ i → i < par.length → (par.length : Int) - i ≤ f → (x : Int) ≠ i →
    (post par f i).count (x : Int) = (post par f i).count (par.getD x 0) := by
  intro f
  induction f with
  | zero => intro i h0 h1 h2; omega
  | succ f ih =>
    intro i h0 h1 h2 hne
    obtain ⟨hp0, hp1⟩ := (h x hx).2 hx0
    simp only [post, List.count_append, List.count_flatMap, List.count_singleton]
    have hnx : (i == (x : Int)) = false := by simpa using fun e => hne e.symm
    rw [hnx]
    by_cases hc : par.getD x 0 = i
    · -- x is a child of i
      have hii : (i == par.getD x 0) = true := by simpa using hc.symm
      rw [hii]
      have e1 : (childI par i).map (List.count (x : Int) ∘ post par f) = (childI par i).map (fun c => if c = (x : Int) then 1 else 0) := by
        apply List.map_congr_left
        intro c hcm
        obtain ⟨h3, h4⟩ := child_gt h h0 hcm
        by_cases e : c = (x : Int)
        · subst e
          simp only [Function.comp, if_pos]
          exact post_self h f x (by omega) h4 (by omega)
        · simp only [Function.comp, if_neg e]
          rw [ih c (by omega) h4 (by omega) (fun q => e q.symm), hc]
          refine List.count_eq_zero.2 fun hm => ?_
          have := (post_ge h f c (by omega) i hm).1
          omega
      have e2 : (childI par i).map (List.count (par.getD x 0) ∘ post par f) = (childI par i).map (fun _ => 0) := by
        apply List.map_congr_left
        intro c hcm
        obtain ⟨h3, h4⟩ := child_gt h h0 hcm
        rw [hc]
        refine List.count_eq_zero.2 fun hm => ?_
        have := (post_ge h f c (by omega) i hm).1
        omega
      rw [e1, e2, sum_one, (child_nodup par i).count]
      rw [if_pos (mem_child.2 ⟨x, hx, hc, rfl⟩), sum_zero]
      rfl
    · have hii : (i == par.getD x 0) = false := by simpa using fun e => hc e.symm
      rw [hii]
      have : (childI par i).map (List.count (x : Int) ∘ post par f) = (childI par i).map (List.count (par.getD x 0) ∘ post par f) := by
        apply List.map_congr_left
        intro c hcm
        obtain ⟨h3, h4⟩ := child_gt h h0 hcm
        refine ih c (by omega) h4 (by omega) ?_
        rintro rfl
        obtain ⟨k, _, hk2, hk3⟩ := mem_child.1 hcm
        have : k = x := by omega
        subst this
        exact hc hk2
      simp [this]
theorem count_root {par : List Int} (h : Ahead par) (f : Nat) (hf : par.length ≤ f) : ∀ x : Nat, x < par.length → (post par f 0).count (x : Int) = 1 := by
  intro x
  induction x using Nat.strongRecOn with
  | _ x ih =>
    intro hx
    rcases Nat.eq_zero_or_pos x with h0 | h0
    · subst h0
      exact post_self h f 0 (by omega) (by omega) (by omega)
    · rw [post_count h x hx h0 f 0 (by omega) (by omega) (by omega) (by omega)]
      obtain ⟨h1, h2⟩ := (h x hx).2 h0
      obtain ⟨p, hp⟩ := Int.eq_ofNat_of_zero_le h1
      rw [hp] at h2 ⊢
      exact ih p (by omega) (by omega)
theorem root_nodup {par : List Int} (h : Ahead par) (f : Nat) (hf : par.length ≤ f) (hn : 0 < par.length) : (post par f 0).Nodup := by
  rw [List.nodup_iff_count]
  intro a
  by_cases ha : a ∈ post par f 0
  · obtain ⟨h1, h2⟩ := post_ge h f 0 (by omega) a ha
    obtain ⟨p, rfl⟩ := Int.eq_ofNat_of_zero_le h1
    rw [count_root h f hf p (by omega)]
    exact Nat.le_refl _
  · rw [List.count_eq_zero.2 ha]; omega
theorem root_perm {par : List Int} (h : Ahead par) (f : Nat) (hf : par.length ≤ f) (hn : 0 < par.length) : (post par f 0).Perm ((List.range par.length).map Int.ofNat) := by
  rw [List.perm_iff_count]
  intro a
  by_cases ha : a ∈ post par f 0
  · obtain ⟨h1, h2⟩ := post_ge h f 0 (by omega) a ha
    obtain ⟨p, rfl⟩ := Int.eq_ofNat_of_zero_le h1
    have hp : p < par.length := by omega
    rw [count_root h f hf p hp]
    have hnd : ((List.range par.length).map Int.ofNat).Nodup := List.Pairwise.map _ (fun a b hab e => hab (Int.ofNat.inj e)) List.nodup_range
    rw [hnd.count, if_pos (show (p : Int) ∈ (List.range par.length).map Int.ofNat from List.mem_map.2 ⟨p, List.mem_range.2 hp, rfl⟩)]
  · rw [List.count_eq_zero.2 ha]
    symm
    refine List.count_eq_zero.2 fun hm => ?_
    obtain ⟨p, hp, rfl⟩ := List.mem_map.1 hm
    have h1 := count_root h f hf p (List.mem_range.1 hp)
    have : (post par f 0).count (Int.ofNat p) = 0 := List.count_eq_zero.2 ha
    rw [show (Int.ofNat p) = (p : Int) from rfl] at this
    omega
theorem root_length {par : List Int} (h : Ahead par) (f : Nat) (hf : par.length ≤ f) (hn : 0 < par.length) : (post par f 0).length = par.length := by
  rw [(root_perm h f hf hn).length_eq]; simp
/-- whoever is no root has its parent behind -/
theorem behind {par : List Int} (h : Ahead par) : ∀ (f : Nat) (i : Int), 0 ≤ i → ∀ (u v : List Int) (x : Int), post par f i = u ++ x :: v → x ≠ i → ∃ k : Nat, x = (k : Int) ∧ par.getD k 0 ∈ v := by
  intro f
  induction f with
  | zero => intro i _ u v x e; simp [post] at e
  | succ f ih =>
    intro i h0 u v x e hne
    have key : ∀ (cs : List Int), (∀ c ∈ cs, c ∈ childI par i) → ∀ u v, cs.flatMap (post par f) ++ [i] = u ++ x :: v → ∃ k : Nat, x = (k : Int) ∧ par.getD k 0 ∈ v := by
      intro cs
      induction cs with
      | nil =>
        intro _ u v e
        simp only [List.flatMap_nil, List.nil_append] at e
        cases u with
        | nil => simp at e; exact absurd e.1.symm hne
        | cons a u => simp at e
      | cons c cs ihc =>
        intro hcs u v e
        rw [List.flatMap_cons, List.append_assoc] at e
        rcases List.append_eq_append_iff.1 e with ⟨as, h1, h2⟩ | ⟨bs, h1, h2⟩
        · -- x lies behind c's part
          exact (ihc (fun c' hc' => hcs c' (List.mem_cons_of_mem _ hc')) as v h2)
        · cases bs with
          | nil =>
            simp at h1 h2
            exact (ihc (fun c' hc' => hcs c' (List.mem_cons_of_mem _ hc')) [] v (by simpa using h2.symm))
          | cons b bs =>
            simp only [List.cons_append, List.cons.injEq] at h2
            obtain ⟨rfl, h2⟩ := h2
            have hcm := hcs c List.mem_cons_self
            obtain ⟨h3, h4⟩ := child_gt h h0 hcm
            by_cases hxc : x = c
            · obtain ⟨k, _, hk2, hk3⟩ := mem_child.1 hcm
              refine ⟨k, hxc.trans hk3, ?_⟩
              rw [hk2, h2]
              simp
            · obtain ⟨k, hk1, hk2⟩ := ih c (by omega) u bs x h1 hxc
              exact ⟨k, hk1, by rw [h2]; exact List.mem_append_left _ hk2⟩
    exact key (childI par i) (fun c hc => hc) u v e

end Go.Proofs.Ytpmfdggbccbfaaa.PostL
