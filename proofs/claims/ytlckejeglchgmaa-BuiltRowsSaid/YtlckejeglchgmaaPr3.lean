-- Printed by a program of this session's own (wip/tools/pp.py) over the kit's print.py; Lean checks it.
import Derived.Test.YtlckejeglchgmaaPr0
import Derived.Test.YtlckejeglchgmaaPr1
import Derived.Test.YtlckejeglchgmaaPr2
namespace Go.Proofs.Ytlckejeglchgmaa.Pr
open Go.RowKit Go.Proofs.YtlckejeglchgmaaW.PrintWords Go.Proofs.YtlckejeglchgmaaW.PrintLast Go.Proofs.YtlckejeglchgmaaW.PrintMore
attribute [local go_sem] max2_int min2_int max_two min_two max_three min_three max_four min_four   -- for this text's walks alone
set_option linter.unusedVariables false
set_option linter.unusedSimpArgs false

-- given by hand
/-! ### built_all: function 43 -/
-- needs slices_Clone_int_int
def rdN (l : List Nat) (k : Nat) : Nat := l.getD k 0
def rdL (l : List (List Int)) (k : Nat) : List Int := l.getD k []
def rdZ (l : List Int) (k : Nat) : Int := l.getD k 0
/-- what is done with a row: the rows that are kept, and whether there are too many -/
def takeR (p : List Int → Bool) (out : List (List Int)) (t : List Int) : List (List Int) := if p t = true then out ++ [t] else out
/-- the walk over all rows, from 'down' (up = false) or from 'up' (up = true) -/
def allL (ds : List (List Int)) (p : List Int → Bool) (most : Int) : Nat → Bool → Nat → List Nat → List Int → List (List Int) → Option (Bool × List (List Int))
  | 0, _, _, _, _, _ => none
  | k + 1, false, i, at_, t, out =>
    if i < ds.length then
      if rdN at_ i < (rdL ds i).length then allL ds p most k false (i + 1) at_ (t.set i (rdZ (rdL ds i) (rdN at_ i))) out
      else allL ds p most k true i (at_.set i 0) t out
    else if ((takeR p out t).length : Int) ≤ most then allL ds p most k true i at_ t (takeR p out t) else some (false, takeR p out t)
  | k + 1, true, i, at_, t, out => if i = 0 then some (true, out) else allL ds p most k false (i - 1) (at_.set (i - 1) (rdN at_ (i - 1) + 1)) t out
def prodL : List (List Int) → List (List Int)
  | [] => [[]]
  | d :: ds => d.flatMap fun x => (prodL ds).map (x :: ·)
def procL (p : List Int → Bool) (most : Int) : List (List Int) → List (List Int) → Bool × List (List Int)
  | [], out => (true, out)
  | t :: l, out => if ((takeR p out t).length : Int) ≤ most then procL p most l (takeR p out t) else (false, takeR p out t)
/-- ends as `procL` does, or goes on with K -/
def thenL (p : List Int → Bool) (most : Int) (l : List (List Int)) (out : List (List Int)) (K : List (List Int) → Bool × List (List Int)) : Bool × List (List Int) := if (procL p most l out).1 = true then K (procL p most l out).2 else procL p most l out
theorem thenL_nil (p : List Int → Bool) (most : Int) (out : List (List Int)) (K : List (List Int) → Bool × List (List Int)) : thenL p most [] out K = K out := rfl
theorem procL_append (p : List Int → Bool) (most : Int) (m : List (List Int)) : ∀ (l out : List (List Int)), procL p most (l ++ m) out = thenL p most l out (procL p most m)
  | [], out => rfl
  | t :: l, out => by
    unfold thenL
    rw [List.cons_append, procL, procL]
    split
    · exact procL_append p most m l _
    · rfl
theorem thenL_append (p : List Int → Bool) (most : Int) (l m out : List (List Int)) (K : List (List Int) → Bool × List (List Int)) : thenL p most (l ++ m) out K = thenL p most l out (fun o => thenL p most m o K) := by
  unfold thenL
  rw [procL_append]
  unfold thenL
  by_cases c : (procL p most l out).1 = true
  · rw [if_pos c, if_pos c]
  · rw [if_neg c, if_neg c, if_neg c]
def Ends (ds : List (List Int)) (p : List Int → Bool) (most : Int) (up : Bool) (i : Nat) (at_ : List Nat) (t : List Int) (out : List (List Int)) (r : Bool × List (List Int)) : Prop := ∃ k, allL ds p most k up i at_ t out = some r
theorem set_take (l : List Int) (i : Nat) (x : Int) (h : i < l.length) : (l.set i x).take (i + 1) = l.take i ++ [x] := by
  rw [List.take_set, List.take_add_one, List.getElem?_eq_getElem h]
  rw [Option.toList_some, List.set_append]
  simp [List.length_take, Nat.min_eq_left (Nat.le_of_lt h)]
/-- from 'down' at a level: all rows with what stands ahead of it; then 'up' -/
theorem ends_down (ds : List (List Int)) (p : List Int → Bool) (most : Int) : ∀ (d i : Nat), i + d = ds.length → ∀ (m a : Nat), a + m = (rdL ds i).length ∨ d = 0 → ∀ (at_ : List Nat) (t : List Int) (out : List (List Int)) (K : List (List Int) → Bool × List (List Int)),
    at_.length = ds.length → t.length = ds.length → (d ≠ 0 → rdN at_ i = a) → (∀ j, i < j → rdN at_ j = 0) →
    (∀ (at' : List Nat) (t' : List Int) (o' : List (List Int)), at'.length = ds.length → t'.length = ds.length → (∀ j, j < i → rdN at' j = rdN at_ j) → (∀ j, i ≤ j → rdN at' j = 0) → t'.take i = t.take i → Ends ds p most true i at' t' o' (K o')) →
    Ends ds p most false i at_ t out (if d = 0 then thenL p most [t] out K else thenL p most (((rdL ds i).drop a).flatMap fun x => (prodL (ds.drop (i + 1))).map fun q => t.take i ++ x :: q) out K)
  | 0, i, hi, m, a, hm, at_, t, out, K, hal, htl, ha, h0, hK => by
    have hn : ¬ i < ds.length := by omega
    rw [if_pos rfl]
    unfold thenL procL procL
    by_cases c : ((takeR p out t).length : Int) ≤ most
    · obtain ⟨k, hk⟩ := hK at_ t (takeR p out t) hal htl (fun _ _ => rfl) (fun j hj => by
        rcases Nat.lt_or_eq_of_le hj with h | h
        · exact h0 j h
        · unfold rdN; rw [List.getD_eq_getElem?_getD, List.getElem?_eq_none (by omega)]; rfl) rfl
      refine ⟨k + 1, ?_⟩
      rw [allL, if_neg hn, if_pos c, if_pos c, if_pos rfl]
      exact hk
    · refine ⟨1, ?_⟩
      rw [allL, if_neg hn, if_neg c, if_neg c, if_neg (fun h => Bool.noConfusion h)]
  | d + 1, i, hi, 0, a, hm, at_, t, out, K, hal, htl, ha, h0, hK => by
    have hn : i < ds.length := by omega
    have ha := ha (by omega)
    have hm : a = (rdL ds i).length := by rcases hm with h | h <;> omega
    rw [if_neg (by omega), List.drop_eq_nil_of_le (show (rdL ds i).length ≤ a by omega), List.flatMap_nil, thenL_nil]
    obtain ⟨k, hk⟩ := hK (at_.set i 0) t out (by rw [List.length_set]; exact hal) htl (fun j hj => by unfold rdN; rw [List.getD_eq_getElem?_getD, List.getD_eq_getElem?_getD, List.getElem?_set_ne (by omega)]) (fun j hj => by
      unfold rdN
      rw [List.getD_eq_getElem?_getD]
      rcases Nat.lt_or_eq_of_le hj with h | h
      · rw [List.getElem?_set_ne (by omega)]
        have := h0 j h
        unfold rdN at this
        rw [List.getD_eq_getElem?_getD] at this
        exact this
      · subst h; rw [List.getElem?_set_self (by omega)]; rfl) rfl
    refine ⟨k + 1, ?_⟩
    rw [allL, if_pos hn, if_neg (by omega)]
    exact hk
  | d + 1, i, hi, m + 1, a, hm, at_, t, out, K, hal, htl, ha, h0, hK => by
    have hn : i < ds.length := by omega
    have ha := ha (by omega)
    have hm : a + (m + 1) = (rdL ds i).length := by rcases hm with h | h <;> omega
    have hit : i < t.length := by omega
    have hx : rdZ (rdL ds i) a = (rdL ds i)[a]'(by omega) := by unfold rdZ; rw [List.getD_eq_getElem?_getD, List.getElem?_eq_getElem (by omega)]; rfl
    rw [if_neg (by omega), List.drop_eq_getElem_cons (show a < (rdL ds i).length by omega), List.flatMap_cons, thenL_append]
    obtain ⟨x, hxx⟩ : ∃ x, x = (rdL ds i)[a]'(by omega) := ⟨_, rfl⟩
    rw [← hxx] at hx ⊢
    have htk := set_take t i x hit
    have hrec := ends_down ds p most d (i + 1) (by omega) ((rdL ds (i + 1)).length) 0 (by omega) at_ (t.set i x) out (fun o => thenL p most (((rdL ds i).drop (a + 1)).flatMap fun x => (prodL (ds.drop (i + 1))).map fun q => t.take i ++ x :: q) o K) hal (by rw [List.length_set]; exact htl) (fun _ => h0 (i + 1) (by omega)) (fun j hj => h0 j (by omega)) (fun at' t' o' h1 h2 h3 h4 h5 => by
      rw [htk] at h5
      have h5a : t'.take i = t.take i := by
        have := congrArg (List.take i) h5
        rw [List.take_take, Nat.min_eq_left (by omega), List.take_append_of_le_length (by rw [List.length_take]; omega), List.take_take, Nat.min_self] at this
        exact this
      have h6 := ends_down ds p most (d + 1) i hi m (a + 1) (.inl (by omega)) (at'.set i (rdN at' i + 1)) t' o' K (by rw [List.length_set]; exact h1) h2 (fun _ => by
        unfold rdN
        rw [List.getD_eq_getElem?_getD, List.getElem?_set_self (by omega)]
        have := h3 i (by omega)
        rw [ha] at this
        unfold rdN at this
        simp only [Option.getD_some]
        omega) (fun j hj => by
        unfold rdN
        rw [List.getD_eq_getElem?_getD, List.getElem?_set_ne (by omega)]
        have := h4 j (by omega)
        unfold rdN at this
        rw [List.getD_eq_getElem?_getD] at this
        exact this) (fun at2 t2 o2 q1 q2 q3 q4 q5 => hK at2 t2 o2 q1 q2 (fun j hj => by
          rw [q3 j hj]
          unfold rdN
          rw [List.getD_eq_getElem?_getD, List.getElem?_set_ne (by omega), ← List.getD_eq_getElem?_getD]
          exact h3 j (by omega)) q4 (q5.trans h5a))
      rw [if_neg (by omega), h5a] at h6
      obtain ⟨k, hk⟩ := h6
      refine ⟨k + 1, ?_⟩
      rw [allL, if_neg (by omega), Nat.add_sub_cancel]
      exact hk)
    obtain ⟨k, hk⟩ := hrec
    refine ⟨k + 1, ?_⟩
    rw [allL, if_pos hn, if_pos (by omega), ha, hx, hk]
    congr 1
    by_cases hd : d = 0
    · subst hd
      rw [if_pos rfl, List.drop_eq_nil_of_le (show ds.length ≤ i + 1 by omega)]
      have : t.set i x = t.take i ++ [x] := by
        rw [← htk, List.take_of_length_le (by rw [List.length_set]; omega)]
      rw [this]
      rfl
    · rw [if_neg hd, htk]
      congr 1
      have hn1 : i + 1 < ds.length := by omega
      have e1 : ds.drop (i + 1) = rdL ds (i + 1) :: ds.drop (i + 2) := by
        rw [List.drop_eq_getElem_cons hn1]
        congr 1
        unfold rdL
        rw [List.getD_eq_getElem?_getD, List.getElem?_eq_getElem hn1]
        rfl
      rw [e1, prodL, List.drop_zero, List.map_flatMap]
      congr 1
      funext y
      rw [List.map_map]
      congr 1
      funext q
      simp
theorem all_ends (ds : List (List Int)) (p : List Int → Bool) (most : Int) : ∃ k, allL ds p most k false 0 (List.replicate ds.length 0) (List.replicate ds.length 0) [] = some (procL p most (prodL ds) []) := by
  have hr : ∀ j, rdN (List.replicate ds.length 0) j = 0 := fun j => by
    unfold rdN
    rw [List.getD_eq_getElem?_getD, List.getElem?_replicate]
    split <;> rfl
  have h := ends_down ds p most ds.length 0 (by omega) (rdL ds 0).length 0 (.inl (by omega)) (List.replicate ds.length 0) (List.replicate ds.length 0) [] (fun o => (true, o)) (by simp) (by simp) (fun _ => hr 0) (fun j _ => hr j) (fun at' t' o' _ _ _ _ _ => ⟨1, by rw [allL, if_pos rfl]⟩)
  have hth : ∀ l, thenL p most l [] (fun o => (true, o)) = procL p most l [] := fun l => by
    unfold thenL
    split
    · rename_i c; exact Prod.ext c.symm rfl
    · rfl
  obtain ⟨k, hk⟩ := h
  refine ⟨k, hk.trans ?_⟩
  congr 1
  by_cases c : ds.length = 0
  · have : ds = [] := List.length_eq_zero_iff.1 c
    subst this
    exact (if_pos rfl).trans (hth _)
  · rw [if_neg c, hth]
    congr 1
    cases ds with
    | nil => simp at c
    | cons d ds =>
      rw [prodL]
      simp [rdL]
theorem procL_out (p : List Int → Bool) (most : Int) : ∀ (l out : List (List Int)), (out.length : Int) ≤ most → (procL p most l out = (true, out ++ l.filter p) ∧ ((out ++ l.filter p).length : Int) ≤ most) ∨ ((procL p most l out).1 = false ∧ most < ((out ++ l.filter p).length : Int))
  | [], out, h => .inl ⟨by simp [procL], by simpa using h⟩
  | t :: l, out, h => by
    have e : out ++ (t :: l).filter p = takeR p out t ++ l.filter p := by
      unfold takeR
      rw [List.filter_cons]
      split <;> simp
    rw [procL, e]
    by_cases c : ((takeR p out t).length : Int) ≤ most
    · rw [if_pos c]
      exact procL_out p most l _ c
    · rw [if_neg c]
      exact .inr ⟨rfl, by rw [List.length_append]; omega⟩
/-! what `rows` keeps in memory: the function that chooses, the answer, the limit -/
section
open Go.RowKit
structure OutW (w0 : World) (X : Nat → Prop) (sw so sm rb : Nat) (fv : Value) (most : Int) (sv rv : Value) (sch : List Int) (out : List (List Int)) (W : World) : Prop where
  hw : W.heap[sw]? = some (.cells #[fv] 43 (0, 0))
  ho : W.heap[so]? = some (.cells #[sv, rv] 28 (0, 0))
  hm : W.heap[sm]? = some (.cells #[.int .i64 most] 3 (0, 0))
  hb : W.heap[rb]? = some (.cells #[.slice none 0 0, .slice none 0 0] 28 (0, 0))
  hs : Kd.R (Kd.int .i64) 3 W w0.heap.size (fun k => k ≠ sm) sv sch
  hr : Kd.S (Kd.slice 3 (Kd.int .i64)) 23 W w0.heap.size (fun k => ¬ X k) rv out
  xm : X sm
  xo : ¬ X so
  xs : ∀ k, sv.ownBlock = some k → X k
  xlt : ∀ k, X k → k < W.heap.size
  bel : Below w0.heap.size w0 W
  lo : w0.heap.size ≤ sw ∧ w0.heap.size ≤ so ∧ w0.heap.size ≤ sm ∧ w0.heap.size ≤ rb ∧ rb ≠ so
variable {w0 W W1 : World} {X : Nat → Prop} {sw so sm rb : Nat} {fv : Value} {most : Int} {sv rv : Value} {sch : List Int} {out : List (List Int)}
theorem OutW.low (h : OutW w0 X sw so sm rb fv most sv rv sch out W) (hb : Below W.heap.size W W1) : OutW w0 X sw so sm rb fv most sv rv sch out W1 :=
  ⟨(hb.block _ (blk_lt h.hw)).trans h.hw, (hb.block _ (blk_lt h.ho)).trans h.ho, (hb.block _ (blk_lt h.hm)).trans h.hm, (hb.block _ (blk_lt h.hb)).trans h.hb, Kd.R_below h.hs hb, Kd.S_below h.hr hb, h.xm, h.xo, h.xs, fun k hk => Nat.lt_of_lt_of_le (h.xlt k hk) hb.size, below_then h.bel h.bel.size hb, h.lo⟩
/-- the answer's rows are set anew -/
theorem OutW.put {v1 : Value} {out1 : List (List Int)} (h : OutW w0 X sw so sm rb fv most sv rv sch out W) (hS : Kd.S (Kd.slice 3 (Kd.int .i64)) 23 W1 w0.heap.size (fun k => ¬ X k) v1 out1) (hb : Below w0.heap.size w0 W1) (hg : W.grownBy W1 rv.ownBlock) : OutW w0 X sw so sm rb fv most sv v1 sch out1 (W1.setCell ⟨so, 1, none⟩ v1) ∧ (∀ k, X k → (W1.setCell ⟨so, 1, none⟩ v1).heap[k]? = W.heap[k]?) ∧ W.heap.size ≤ (W1.setCell ⟨so, 1, none⟩ v1).heap.size := by
  have hne1 := Kd.S_ne h.hr h.hw (by decide)
  have hne2 := Kd.S_ne h.hr h.ho (by decide)
  have hne3 := Kd.S_ne h.hr h.hm (by decide)
  have hne4 := Kd.S_ne h.hr h.hb (by decide)
  have hwso : sw ≠ so := blk_ne h.hw h.ho (by decide)
  have hmso : sm ≠ so := blk_ne h.hm h.ho (by decide)
  have hk : ∀ k o, W.heap[k]? = some o → some k ≠ rv.ownBlock → k ≠ so → (W1.setCell ⟨so, 1, none⟩ v1).heap[k]? = some o := fun k o h1 h2 h3 => (Below.heap_setCell W1 ⟨so, 1, none⟩ _ k h3).trans ((hg.block k (blk_lt h1) h2).trans h1)
  have ho1 : W1.heap[so]? = some (.cells #[sv, rv] 28 (0, 0)) := (hg.block so (blk_lt h.ho) hne2).trans h.ho
  have hxr : ∀ k, X k → some k ≠ rv.ownBlock := fun k hx e => (Kd.S_R h.hr).1 k e.symm hx
  have hX : ∀ k, X k → (W1.setCell ⟨so, 1, none⟩ v1).heap[k]? = W.heap[k]? := fun k hx => (Below.heap_setCell W1 ⟨so, 1, none⟩ _ k (fun e => h.xo (by have e : k = so := e; rw [← e]; exact hx))).trans (hg.block k (h.xlt k hx) (hxr k hx))
  have hsz : W.heap.size ≤ (W1.setCell ⟨so, 1, none⟩ v1).heap.size := Nat.le_trans hg.size ((Below.refl 0 W1).setCell (Nat.zero_le _) _).size
  refine ⟨⟨hk _ _ h.hw hne1 hwso, blk_put ho1 1 _ rfl, hk _ _ h.hm hne3 hmso, hk _ _ h.hb hne4 h.lo.2.2.2.2, ?_, Kd.S_set hS ho1 (by decide) _ _, h.xm, h.xo, h.xs, fun k hx => Nat.lt_of_lt_of_le (h.xlt k hx) hsz, hb.setCell h.lo.2.1 _, h.lo⟩, hX, hsz⟩
  refine Kd.R_mono (Kd.R_step (Kd.R_tight2 rfl h.hs) (fun k hk hlt => ?_)) (fun k hk => hk.2)
  exact hX k (h.xs k hk.1.symm)
set_option maxHeartbeats 4000000 in
theorem yield_walk (p : List Int → Bool) (g : Nat) (lbw : Array Value) (eg : ∀ args w, (callFunc g args).run Try.prog w = .ok (.enter g args) w) (h : OutW w0 X sw so sm rb (.func (.func g) #[] lbw) most sv rv sch out W1) (hW : Below W1.heap.size W1 W) (A : Option Addr) (c : Nat) (t : List Int) (hR : Kd.R (Kd.int .i64) 3 W w0.heap.size (fun k => W1.heap.size ≤ k) (.slice A t.length c) t)
    (hwant : Calls Try.prog g (#[.slice A t.length c] ++ lbw) W fun e w' => e = .returned (.bool (p t)) ∧ Below W.heap.size W w') (hlen : out.length < 1000000) :
    Calls Try.prog 44 #[.slice A t.length c, .pointer (some ⟨sw, 0, none⟩), .pointer (some ⟨so, 0, none⟩), .pointer (some ⟨sm, 0, none⟩)] W fun e w' => e = .returned (.bool (decide (((takeR p out t).length : Int) ≤ most))) ∧ ∃ rv', OutW w0 X sw so sm rb (.func (.func g) #[] lbw) most sv rv' sch (takeR p out t) w' ∧ (∀ k, X k → w'.heap[k]? = W1.heap[k]?) ∧ W1.heap.size ≤ w'.heap.size := by
  have h2 := h.low hW
  obtain ⟨Ar, cr, hrv⟩ := Kd.S_slice h.hr
  subst hrv
  have hcw : W.cell? ⟨sw, 0, none⟩ = some (.func (.func g) #[] lbw) := (blk_cell h2.hw 0).trans rfl
  have HW := Aside0.mk h2
  have HW1 := Aside0.mk h
  have HLOW := Aside0.mk hW
  have HR := Aside0.mk hR
  have HWANT := Aside0.mk hwant
  have HLEN := Aside0.mk hlen
  obtain ⟨n, hn⟩ : ∃ n, n = t.length := ⟨_, rfl⟩
  have HN := Aside0.mk hn
  rw [← hn] at HWANT HR ⊢
  obtain ⟨no, hno⟩ : ∃ no, no = out.length := ⟨_, rfl⟩
  have HNO := Aside0.mk hno
  rw [← hno] at HW
  clear h2 h hW hR hwant hlen hn hno
  cases hp : p t with
  | false =>
    have HP := Aside0.mk hp
    rw [hp] at HWANT
    clear hp
    go_enter Try.func44, Try.ntmps44
    go_upto_region 3 with (go_at_fn g; refine HWANT.out.mono ?_; rintro e w2 ⟨rfl, hb⟩; have HW2 := Aside0.mk (HW.out.low hb); have HLOW2 := Aside0.mk (below_then HLOW.out HLOW.out.size hb); clear hb)
    have hco : w2.cell? ⟨so, 1, none⟩ = some (.slice Ar no cr) := (blk_cell HW2.out.ho 1).trans rfl
    have hcm : w2.cell? ⟨sm, 0, none⟩ = some (.int .i64 most) := (blk_cell HW2.out.hm 0).trans rfl
    go_wp2
    go_ret
    have ht : takeR p out t = out := by unfold takeR; rw [HP.out, if_neg (by decide)]
    rw [ht, ← HNO.out]
    exact ⟨rfl, _, HW2.out, fun k hk => HLOW2.out.block k (HW1.out.xlt k hk), HLOW2.out.size⟩
  | true =>
    have HP := Aside0.mk hp
    rw [hp] at HWANT
    clear hp
    go_enter Try.func44, Try.ntmps44
    go_upto_region 2 with (go_at_fn g; refine HWANT.out.mono ?_; rintro e w2 ⟨rfl, hb⟩; have HW2 := Aside0.mk (HW.out.low hb); have HLOW2 := Aside0.mk (below_then HLOW.out HLOW.out.size hb); have HR2 := Aside0.mk (Kd.R_below HR.out hb); clear hb)
    have hco : w2.cell? ⟨so, 1, none⟩ = some (.slice Ar no cr) := (blk_cell HW2.out.ho 1).trans rfl
    have HSZ := Aside0.mk (show W1.heap.size ≤ w2.heap.size from HLOW2.out.size)
    have HS2 := Aside0.mk (show Kd.S (Kd.slice 3 (Kd.int .i64)) 23 w2 w0.heap.size (fun k => ¬ X k ∧ ¬ W1.heap.size ≤ k) (.slice Ar no cr) out by
      rw [HNO.out]
      exact Kd.S_below (Kd.S_mono (Kd.S_bound HW1.out.hr) (fun k hk => ⟨hk.1, by have := hk.2.2.1; omega⟩)) HLOW2.out)
    have HOW := Aside0.mk (show ∀ k, (Value.slice Ar no cr).ownBlock = some k → k < W1.heap.size by
      rw [HNO.out]
      exact Kd.S_lt HW1.out.hr)
    go_wp2_with (at_builtin; refine Kd.S_append (Kd.slice 3 (Kd.int .i64)) (w0 := w0) w0.heap.size rfl (.tmp 10) (.tmp 12) 22 23 (.slice none 0 0) 24 rfl Try.underlying22 info23 rfl (by decide) (by omega) (.slice Ar no cr) out t [.slice A n c] (fun k => ¬ X k) (fun k => W1.heap.size ≤ k) rfl rfl (Kd.M_row HR2.out) (fun k hk => ⟨fun e => by have := HW1.out.xlt k e; omega, fun e => by have := HOW.out k e.symm; omega⟩) (fun k hk e => by have := HW1.out.xlt k e; have := HSZ.out; omega) HS2.out HW2.out.bel HW2.out.bel.size (by have := HLEN.out; have := HNO.out; omega) ?_; intro v3 w3 hS hb hg hat; have HP3 := Aside0.mk (HW2.out.put hS hb hg); have hrel3 := (hg.block so (blk_lt HW2.out.ho) (Kd.S_ne HW2.out.hr HW2.out.ho (by decide))).trans HW2.out.ho; have hco3 := (blk_cell hrel3 1).trans rfl; have hfo3 := blk_frozen hrel3 1; have hcm3 : w3.cell? ⟨sm, 0, none⟩ = some (.int .i64 most) := (blk_cell ((hg.block sm (blk_lt HW2.out.hm) (Kd.S_ne HW2.out.hr HW2.out.hm (by decide))).trans HW2.out.hm) 0).trans rfl; have hneq : sm ≠ so := blk_ne HW2.out.hm HW2.out.ho (by decide); obtain ⟨A3, c3, e3⟩ := Kd.S_slice hS; subst e3; clear hS hb hg hat hrel3)
    go_ret
    have ht : takeR p out t = out ++ [t] := by unfold takeR; rw [HP.out, if_pos rfl]
    rw [ht]
    have hp3 := HP3.out
    simp only [List.length_append, List.length_cons, List.length_nil, Nat.zero_add] at hp3
    exact ⟨by rw [List.length_append]; rfl, _, hp3.1, fun k hk => (hp3.2.1 k hk).trans (HLOW2.out.block k (HW1.out.xlt k hk)), Nat.le_trans HLOW2.out.size hp3.2.2⟩
end
/-! a scope in which the run jumps back to one of two labels: what holds at each jump, with a count that each pass lowers -/
section
/-- by a goto to label 0 or 1: J of that label; by any other goto: no way out -/
def Jumps (J : Nat → Act → World → Prop) (Q : Exit → Act → World → Prop) : Exit → Act → World → Prop
  | .goto l, a, w => (l = 0 ∨ l = 1) ∧ J l a w
  | e, a, w => Q e a w
variable {P : Program} {a : Act} {w : World} {Q : Exit → Act → World → Prop}
theorem scope_two {c R0 R1 : Code} (J : Nat → Nat → Act → World → Prop) (h0 : findLabel c 0 = some R0) (h1 : findLabel c 1 = some R1)
    (first : c.wp P (Jumps (fun l a w => ∃ n, J n l a w) Q) a w)
    (pass0 : ∀ n a w, J n 0 a w → R0.wp P (Jumps (fun l a w => ∃ m, m < n ∧ J m l a w) Q) a w)
    (pass1 : ∀ n a w, J n 1 a w → R1.wp P (Jumps (fun l a w => ∃ m, m < n ∧ J m l a w) Q) a w) : (Code.scope c).wp P Q a w := by
  intro b k cs
  have hg : ∀ l, l = 0 ∨ l = 1 → ∃ R, gotoIn l (.inScope c :: k) = some (.code R :: .inScope c :: k) ∧ ∀ n a w, J n l a w → R.wp P (Jumps (fun l a w => ∃ m, m < n ∧ J m l a w) Q) a w := fun l hl => by
    rcases hl with rfl | rfl
    · exact ⟨R0, by simp [gotoIn, h0], pass0⟩
    · exact ⟨R1, by simp [gotoIn, h1], pass1⟩
  have key : ∀ n l R a w, gotoIn l (.inScope c :: k) = some (.code R :: .inScope c :: k) → (∀ n a w, J n l a w → R.wp P (Jumps (fun l a w => ∃ m, m < n ∧ J m l a w) Q) a w) → J n l a w → ∃ e a' w', Q e a' w' ∧ Arrives P (lone (b.at a (.code R :: .inScope c :: k)) cs w) b k cs e a' w' := by
    intro n
    induction n using Nat.strongRecOn with
    | _ n ih =>
      intro l R a w hgl hpass hJ
      obtain ⟨e, a1, w1, hq, harr⟩ := hpass n a w hJ b (.inScope c :: k) cs
      cases e with
      | normal => exact ⟨.normal, a1, w1, hq, Steps.trans harr (.one step_inScope)⟩
      | exit id => exact ⟨.exit id, a1, w1, hq, fun k' hk => harr k' (by simp [exitTo, hk])⟩
      | goto l' =>
        obtain ⟨hl', m, hm, hJ'⟩ := hq
        obtain ⟨R', hg', hp'⟩ := hg l' hl'
        obtain ⟨e2, a2, w2, hq2, harr2⟩ := ih m hm l' R' a1 w1 hg' hp' hJ'
        exact ⟨e2, a2, w2, hq2, .of_steps (harr _ hg') harr2⟩
      | ret => exact ⟨_, a1, w1, hq, harr⟩
      | panic ch => exact ⟨_, a1, w1, hq, harr⟩
      | outgrown => exact ⟨_, a1, w1, hq, harr⟩
  obtain ⟨e, a1, w1, hq, harr⟩ := first b (.inScope c :: k) cs
  cases e with
  | normal => exact ⟨.normal, a1, w1, hq, .head step_scope (Steps.trans harr (.one step_inScope))⟩
  | exit id => exact ⟨.exit id, a1, w1, hq, fun k' hk => .head step_scope (harr k' (by simp [exitTo, hk]))⟩
  | goto l =>
    obtain ⟨hl, n, hJ⟩ := hq
    obtain ⟨R, hgl, hp⟩ := hg l hl
    obtain ⟨e2, a2, w2, hq2, harr2⟩ := key n l R a1 w1 hgl hp hJ
    exact ⟨e2, a2, w2, hq2, .of_steps (.head step_scope (harr _ hgl)) harr2⟩
  | ret => exact ⟨_, a1, w1, hq, .of_steps (.one step_scope) harr⟩
  | panic ch => exact ⟨_, a1, w1, hq, .of_steps (.one step_scope) harr⟩
  | outgrown => exact ⟨_, a1, w1, hq, .of_steps (.one step_scope) harr⟩
/-- as Jumps, but to end is to come to label 1 -/
def JumpsN (J : Nat → Act → World → Prop) (Q : Exit → Act → World → Prop) : Exit → Act → World → Prop
  | .normal, a, w => J 1 a w
  | .goto l, a, w => (l = 0 ∨ l = 1) ∧ J l a w
  | e, a, w => Q e a w
/-- one row ahead of the first label, two ahead of the second one -/
theorem scope_top {y C1 C2 Z : Code} (J : Nat → Nat → Act → World → Prop) (hy : findLabel y 0 = none) (hy1 : findLabel y 1 = none) (h1 : findLabel C1 1 = none) (h2 : findLabel C2 1 = none)
    (first : y.wp P (Exit.then (fun a w => ∃ n, J n 0 a w) (fun _ _ _ => False)) a w)
    (pass0 : ∀ n a w, J n 0 a w → C1.wp P (Exit.then (fun a w => C2.wp P (JumpsN (fun l a w => ∃ m, m < n ∧ J m l a w) Q) a w) (JumpsN (fun l a w => ∃ m, m < n ∧ J m l a w) Q)) a w)
    (pass1 : ∀ n a w, J n 1 a w → Z.wp P (Jumps (fun l a w => ∃ m, m < n ∧ J m l a w) Q) a w) : (Code.scope (y.seq ((Code.label 0).seq (C1.seq (C2.seq ((Code.label 1).seq Z)))))).wp P Q a w := by
  have weak : ∀ n m e a w, n ≤ m → Jumps (fun l a w => ∃ k, k < n ∧ J k l a w) Q e a w → Jumps (fun l a w => ∃ k, k < m ∧ J k l a w) Q e a w := fun n m e a w hm h => by
    cases e with
    | goto l => exact ⟨h.1, h.2.imp fun k hk => ⟨Nat.lt_of_lt_of_le hk.1 hm, hk.2⟩⟩
    | _ => exact h
  have weak2 : ∀ n e a w, Jumps (fun l a w => ∃ m, m < n ∧ J m l a w) Q e a w → Jumps (fun l a w => ∃ n, J n l a w) Q e a w := fun n e a w h => by
    cases e with
    | goto l => exact ⟨h.1, h.2.imp fun m hm => hm.2⟩
    | _ => exact h
  have pX : ∀ n a w, J n 0 a w → (C1.seq (C2.seq ((Code.label 1).seq Z))).wp P (Jumps (fun l a w => ∃ m, m < n ∧ J m l a w) Q) a w := fun n a w hJ => by
    refine wp_seq (wp_mono (pass0 n a w hJ) fun e a w h => ?_)
    cases e with
    | normal =>
      refine wp_seq (wp_mono h fun e a w h => ?_)
      cases e with
      | normal =>
        obtain ⟨m, hm, hJ⟩ := h
        exact wp_seq (wp_label (wp_mono (pass1 m a w hJ) (fun e a w h => weak m n e a w (Nat.le_of_lt hm) h)))
      | _ => exact h
    | _ => exact h
  refine scope_two (R0 := Code.skip.seq (C1.seq (C2.seq ((Code.label 1).seq Z)))) (R1 := Code.skip.seq Z) J (by simp [findLabel, hy]) (by simp [findLabel, hy1, h1, h2]) ?_ (fun n a w h => wp_seq (wp_skip (pX n a w h))) (fun n a w h => wp_seq (wp_skip (pass1 n a w h)))
  refine wp_seq (wp_mono first fun e a w h => ?_)
  cases e with
  | normal =>
    obtain ⟨n, hJ⟩ := h
    exact wp_seq (wp_label (wp_mono (pX n a w hJ) (weak2 n)))
  | _ => exact h.elim
end
section
open Go.RowKit
variable {w0 W W1 : World} {X0 : Nat → Prop} {sw so sm rb : Nat} {fv : Value} {most : Int} {sv rv : Value} {sch : List Int} {out : List (List Int)}
/-- a block that `rows` does not know is written -/
theorem OutW.over {X : Nat → Prop} {b : Nat} (h : OutW w0 X sw so sm rb fv most sv rv sch out W) (hg : W.grownBy W1 (some b)) (hb : w0.heap.size ≤ b) (hx : X b) (h1 : sw ≠ b) (h2 : so ≠ b) (h3 : sm ≠ b) (h5 : rb ≠ b) (h4 : ∀ k, sv.ownBlock = some k → k ≠ b) : OutW w0 X sw so sm rb fv most sv rv sch out W1 := by
  have k : ∀ i o, W.heap[i]? = some o → i ≠ b → W1.heap[i]? = some o := fun i o hi hn => (hg.block i (blk_lt hi) (fun e => hn (Option.some.inj e))).trans hi
  refine ⟨k _ _ h.hw h1, k _ _ h.ho h2, k _ _ h.hm h3, k _ _ h.hb h5, ?_, Kd.S_grown h.hr hg (fun j hj e => hj (by rw [Option.some.inj e]; exact hx)), h.xm, h.xo, h.xs, fun j hj => Nat.lt_of_lt_of_le (h.xlt j hj) hg.size, h.bel.grown hg h.bel.size (fun j hj => by rw [← Option.some.inj hj]; exact hb), h.lo⟩
  exact Kd.R_mono (Kd.R_step (Kd.R_tight2 rfl h.hs) (fun j hj hlt => hg.block j hlt (fun e => h4 j hj.1.symm (Option.some.inj e)))) (fun j hj => hj.2)
def natsZ (l : List Nat) : List Int := l.map fun (n : Nat) => (n : Int)
/-- the two rows that `all` works on -/
structure AllW (w0 : World) (X0 : Nat → Prop) (sw so sm rb : Nat) (fv : Value) (most : Int) (sv rv : Value) (sch : List Int) (out : List (List Int)) (ab tb m : Nat) (at_ : List Nat) (t : List Int) (W : World) : Prop where
  o : OutW w0 (fun k => X0 k ∨ k = ab ∨ k = tb) sw so sm rb fv most sv rv sch out W
  ha : Kd.R (Kd.int .i64) 3 W w0.heap.size (fun k => k = ab) (.slice (some ⟨ab, 0, none⟩) m m) (natsZ at_)
  ht : Kd.R (Kd.int .i64) 3 W w0.heap.size (fun k => k = tb) (.slice (some ⟨tb, 0, none⟩) m m) t
  ne : ab ≠ tb ∧ sw ≠ ab ∧ so ≠ ab ∧ sm ≠ ab ∧ sw ≠ tb ∧ so ≠ tb ∧ sm ≠ tb ∧ rb ≠ ab ∧ rb ≠ tb
  nv : ∀ k, sv.ownBlock = some k → k ≠ ab ∧ k ≠ tb
  lo : w0.heap.size ≤ ab ∧ w0.heap.size ≤ tb
variable {ab tb m : Nat} {at_ : List Nat} {t : List Int}
theorem AllW.len (h : AllW w0 X0 sw so sm rb fv most sv rv sch out ab tb m at_ t W) : at_.length = m ∧ t.length = m := by
  have h1 := (Kd.R_reads' h.ha).1
  have h2 := (Kd.R_reads' h.ht).1
  unfold natsZ at h1
  rw [List.length_map] at h1
  exact ⟨h1.symm, h2.symm⟩
theorem AllW.putT (h : AllW w0 X0 sw so sm rb fv most sv rv sch out ab tb m at_ t W) (i : Int) (x : Int) : AllW w0 X0 sw so sm rb fv most sv rv sch out ab tb m at_ (t.set i.toNat x) (W.setCell ⟨tb, i.toNat, none⟩ (.int .i64 x)) := by
  obtain ⟨hR, hg⟩ := Kd.R_putg (enc := Value.int .i64) (h1 := fun _ => rfl) h.ht i x
  exact ⟨h.o.over hg h.lo.2 (.inr (.inr rfl)) h.ne.2.2.2.2.1 h.ne.2.2.2.2.2.1 h.ne.2.2.2.2.2.2.1 h.ne.2.2.2.2.2.2.2.2 (fun k hk => (h.nv k hk).2), Kd.R_step h.ha (fun k hk hlt => hg.block k hlt (fun e => h.ne.1 (by rw [← hk]; exact Option.some.inj e))), hR, h.ne, h.nv, h.lo⟩
theorem natsZ_set (l : List Nat) (i x : Nat) : natsZ (l.set i x) = (natsZ l).set i (x : Int) := by unfold natsZ; rw [List.map_set]
theorem AllW.putA (h : AllW w0 X0 sw so sm rb fv most sv rv sch out ab tb m at_ t W) (i x : Nat) : AllW w0 X0 sw so sm rb fv most sv rv sch out ab tb m (at_.set i x) t (W.setCell ⟨ab, i, none⟩ (.int .i64 (x : Int))) := by
  obtain ⟨hR, hg⟩ := Kd.R_putg (enc := Value.int .i64) (h1 := fun _ => rfl) h.ha (i : Int) (x : Int)
  rw [Int.toNat_natCast] at hR hg
  exact ⟨h.o.over hg h.lo.1 (.inr (.inl rfl)) h.ne.2.1 h.ne.2.2.1 h.ne.2.2.2.1 h.ne.2.2.2.2.2.2.2.1 (fun k hk => (h.nv k hk).1), by rw [natsZ_set]; exact hR, Kd.R_step h.ht (fun k hk hlt => hg.block k hlt (fun e => h.ne.1 (by rw [← hk]; exact (Option.some.inj e).symm))), h.ne, h.nv, h.lo⟩
theorem AllW.out' {rv' : Value} {out' : List (List Int)} (h : AllW w0 X0 sw so sm rb fv most sv rv sch out ab tb m at_ t W) (ho : OutW w0 (fun k => X0 k ∨ k = ab ∨ k = tb) sw so sm rb fv most sv rv' sch out' W1) (hx : ∀ k, (X0 k ∨ k = ab ∨ k = tb) → W1.heap[k]? = W.heap[k]?) : AllW w0 X0 sw so sm rb fv most sv rv' sch out' ab tb m at_ t W1 :=
  ⟨ho, Kd.R_step h.ha (fun k hk _ => hx k (.inr (.inl hk))), Kd.R_step h.ht (fun k hk _ => hx k (.inr (.inr hk))), h.ne, h.nv, h.lo⟩
theorem AllW.low (h : AllW w0 X0 sw so sm rb fv most sv rv sch out ab tb m at_ t W) (hb : Below W.heap.size W W1) : AllW w0 X0 sw so sm rb fv most sv rv sch out ab tb m at_ t W1 :=
  ⟨h.o.low hb, Kd.R_below h.ha hb, Kd.R_below h.ht hb, h.ne, h.nv, h.lo⟩
theorem R_made (W : World) (base e : Nat) (m : Nat) (hb : base ≤ W.heap.size) (hm : m ≤ 9223372036854775807) : (Kd.int .i64).R e (W.alloc (.cells (madeCells #[.int .i64 0] m) e)) base (fun j => j = W.heap.size) (.slice (some ⟨W.heap.size, 0, none⟩) m m) (List.replicate m 0) :=
  Kd.R_of_own (enc := Value.int .i64) (h1 := fun _ => rfl) (own_made_of' (enc := Value.int .i64) (d := 0) W base e m hb hm) (fun k hk => (Option.some.inj hk).symm)
/-- the rows as they are made, in either order -/
theorem made_two (h : OutW w0 X0 sw so sm rb fv most sv (.slice none 0 0) sch [] W) (hm : m ≤ 1000) (hx : ∀ k, X0 k → k = sm ∨ sv.ownBlock = some k) (sw_ : Bool) :
    AllW w0 X0 sw so sm rb fv most sv (.slice none 0 0) sch [] (if sw_ then W.heap.size + 1 else W.heap.size) (if sw_ then W.heap.size else W.heap.size + 1) m (List.replicate m 0) (List.replicate m 0) ((W.alloc (.cells (madeCells #[.int .i64 0] m) 3)).alloc (.cells (madeCells #[.int .i64 0] m) 3)) := by
  have hb2 : Below W.heap.size W ((W.alloc (.cells (madeCells #[.int .i64 0] m) 3)).alloc (.cells (madeCells #[.int .i64 0] m) 3)) := below_alloc (below_alloc (Below.refl _ _) _) _
  have hl := h.low hb2
  have hs1 : (W.alloc (.cells (madeCells #[.int .i64 0] m) 3)).heap.size = W.heap.size + 1 := by simp
  have hs2 : ((W.alloc (.cells (madeCells #[.int .i64 0] m) 3)).alloc (.cells (madeCells #[.int .i64 0] m) 3)).heap.size = W.heap.size + 2 := by simp
  have hb := h.bel.size
  have z1 := blk_lt h.hw
  have z2 := blk_lt h.ho
  have z3 := blk_lt h.hm
  have z4 := blk_lt h.hb
  have hz : natsZ (List.replicate m 0) = List.replicate m (0 : Int) := by simp [natsZ]
  have r1 : Kd.R (Kd.int .i64) 3 ((W.alloc (.cells (madeCells #[.int .i64 0] m) 3)).alloc (.cells (madeCells #[.int .i64 0] m) 3)) w0.heap.size (fun k => k = W.heap.size) (.slice (some ⟨W.heap.size, 0, none⟩) m m) (List.replicate m 0) :=
    Kd.R_alloc (R_made W w0.heap.size 3 m hb (by omega)) _
  have r2 : Kd.R (Kd.int .i64) 3 ((W.alloc (.cells (madeCells #[.int .i64 0] m) 3)).alloc (.cells (madeCells #[.int .i64 0] m) 3)) w0.heap.size (fun k => k = W.heap.size + 1) (.slice (some ⟨W.heap.size + 1, 0, none⟩) m m) (List.replicate m 0) := by
    have := R_made (W.alloc (.cells (madeCells #[.int .i64 0] m) 3)) w0.heap.size 3 m (by omega) (by omega)
    rw [hs1] at this
    exact this
  have hv : ∀ k, sv.ownBlock = some k → k < W.heap.size := fun k hk => h.xlt k (h.xs k hk)
  have mk : ∀ a b : Nat, (a = W.heap.size ∧ b = W.heap.size + 1 ∨ a = W.heap.size + 1 ∧ b = W.heap.size) → OutW w0 (fun k => X0 k ∨ k = a ∨ k = b) sw so sm rb fv most sv (.slice none 0 0) sch [] ((W.alloc (.cells (madeCells #[.int .i64 0] m) 3)).alloc (.cells (madeCells #[.int .i64 0] m) 3)) := fun a b hab =>
    ⟨hl.hw, hl.ho, hl.hm, hl.hb, hl.hs, Kd.S_nil _ _ _ _ _, .inl h.xm, fun e => by rcases e with e | e | e; exact h.xo e; omega; omega, fun k hk => .inl (h.xs k hk), fun k hk => by
      rcases hk with e | e | e
      · have := h.xlt k e; omega
      · omega
      · omega, hl.bel, hl.lo⟩
  cases sw_ with
  | false => exact ⟨mk _ _ (.inl ⟨rfl, rfl⟩), by rw [hz]; exact r1, r2, by simp; omega, fun k hk => by have := hv k hk; simp; omega, by simp; omega⟩
  | true => exact ⟨mk _ _ (.inr ⟨rfl, rfl⟩), by rw [hz]; exact r2, r1, by simp; omega, fun k hk => by have := hv k hk; simp; omega, by simp; omega⟩
end
section
open Go.RowKit
variable {w0 W W1 : World} {X0 : Nat → Prop} {sw so sm rb : Nat} {fv : Value} {most : Int} {sv rv : Value} {sch : List Int} {out : List (List Int)} {ab tb m : Nat} {at_ : List Nat} {t : List Int}
theorem OutW.less {X : Nat → Prop} (h : OutW w0 X sw so sm rb fv most sv rv sch out W) (hx : ∀ k, X0 k → X k) (h1 : X0 sm) (h2 : ∀ k, sv.ownBlock = some k → X0 k) : OutW w0 X0 sw so sm rb fv most sv rv sch out W :=
  ⟨h.hw, h.ho, h.hm, h.hb, h.hs, Kd.S_mono h.hr (fun k hk e => hk (hx k e)), h1, fun e => h.xo (hx _ e), h2, fun k hk => h.xlt k (hx k hk), h.bel, h.lo⟩
theorem allL_mono {ds : List (List Int)} {p : List Int → Bool} {most : Int} : ∀ (k : Nat) (up : Bool) (i : Nat) (A : List Nat) (t : List Int) (out : List (List Int)) (r : Bool × List (List Int)), allL ds p most k up i A t out = some r → out.length ≤ r.2.length
  | 0, _, _, _, _, _, _, h => by cases h
  | k + 1, false, i, A, t, out, r, h => by
    rw [allL] at h
    split at h
    · split at h
      · exact allL_mono k _ _ _ _ _ _ h
      · exact allL_mono k _ _ _ _ _ _ h
    · have hl : out.length ≤ (takeR p out t).length := by unfold takeR; split <;> simp
      split at h
      · exact Nat.le_trans hl (allL_mono k _ _ _ _ _ _ h)
      · rw [← Option.some.inj h]; exact hl
  | k + 1, true, i, A, t, out, r, h => by
    rw [allL] at h
    split at h
    · rw [← Option.some.inj h]; exact Nat.le_refl _
    · exact allL_mono k _ _ _ _ _ _ h
theorem natsZ_rd (l : List Nat) (i : Nat) : rd (natsZ l) (i : Int) = (rdN l i : Int) := by
  unfold rd natsZ rdN
  rw [Int.toNat_natCast, List.getD_eq_getElem?_getD, List.getD_eq_getElem?_getD, List.getElem?_map]
  cases l[i]? <;> rfl
/-- a call's slots, one by one -/
structure Slots65 where
  (u0 u1 u2 u3 u4 u5 u6 u7 u8 u9 u10 u11 u12 u13 u14 u15 u16 u17 u18 u19 u20 u21 u22 u23 u24 u25 u26 u27 u28 u29 u30 u31 u32 u33 u34 u35 u36 u37 u38 u39 u40 u41 u42 u43 u44 u45 u46 u47 u48 u49 u50 u51 u52 u53 u54 u55 u56 u57 u58 u59 u60 u61 u62 u63 u64 : Value)
theorem len_one {n : Nat} {l : List Value} (h : l.length = n + 1) : ∃ x t, l = x :: t ∧ t.length = n := by
  cases l with
  | nil => cases h
  | cons x t => exact ⟨x, t, rfl, Nat.succ.inj h⟩
theorem slots_lit (a : Array Value) (h : a.size = 65) : ∃ U : Slots65, a = #[U.u0, U.u1, U.u2, U.u3, U.u4, U.u5, U.u6, U.u7, U.u8, U.u9, U.u10, U.u11, U.u12, U.u13, U.u14, U.u15, U.u16, U.u17, U.u18, U.u19, U.u20, U.u21, U.u22, U.u23, U.u24, U.u25, U.u26, U.u27, U.u28, U.u29, U.u30, U.u31, U.u32, U.u33, U.u34, U.u35, U.u36, U.u37, U.u38, U.u39, U.u40, U.u41, U.u42, U.u43, U.u44, U.u45, U.u46, U.u47, U.u48, U.u49, U.u50, U.u51, U.u52, U.u53, U.u54, U.u55, U.u56, U.u57, U.u58, U.u59, U.u60, U.u61, U.u62, U.u63, U.u64] := by
  obtain ⟨l0⟩ := a
  have h : l0.length = 65 := h
  obtain ⟨u0, l1, rfl, h1⟩ := len_one h
  obtain ⟨u1, l2, rfl, h2⟩ := len_one h1
  obtain ⟨u2, l3, rfl, h3⟩ := len_one h2
  obtain ⟨u3, l4, rfl, h4⟩ := len_one h3
  obtain ⟨u4, l5, rfl, h5⟩ := len_one h4
  obtain ⟨u5, l6, rfl, h6⟩ := len_one h5
  obtain ⟨u6, l7, rfl, h7⟩ := len_one h6
  obtain ⟨u7, l8, rfl, h8⟩ := len_one h7
  obtain ⟨u8, l9, rfl, h9⟩ := len_one h8
  obtain ⟨u9, l10, rfl, h10⟩ := len_one h9
  obtain ⟨u10, l11, rfl, h11⟩ := len_one h10
  obtain ⟨u11, l12, rfl, h12⟩ := len_one h11
  obtain ⟨u12, l13, rfl, h13⟩ := len_one h12
  obtain ⟨u13, l14, rfl, h14⟩ := len_one h13
  obtain ⟨u14, l15, rfl, h15⟩ := len_one h14
  obtain ⟨u15, l16, rfl, h16⟩ := len_one h15
  obtain ⟨u16, l17, rfl, h17⟩ := len_one h16
  obtain ⟨u17, l18, rfl, h18⟩ := len_one h17
  obtain ⟨u18, l19, rfl, h19⟩ := len_one h18
  obtain ⟨u19, l20, rfl, h20⟩ := len_one h19
  obtain ⟨u20, l21, rfl, h21⟩ := len_one h20
  obtain ⟨u21, l22, rfl, h22⟩ := len_one h21
  obtain ⟨u22, l23, rfl, h23⟩ := len_one h22
  obtain ⟨u23, l24, rfl, h24⟩ := len_one h23
  obtain ⟨u24, l25, rfl, h25⟩ := len_one h24
  obtain ⟨u25, l26, rfl, h26⟩ := len_one h25
  obtain ⟨u26, l27, rfl, h27⟩ := len_one h26
  obtain ⟨u27, l28, rfl, h28⟩ := len_one h27
  obtain ⟨u28, l29, rfl, h29⟩ := len_one h28
  obtain ⟨u29, l30, rfl, h30⟩ := len_one h29
  obtain ⟨u30, l31, rfl, h31⟩ := len_one h30
  obtain ⟨u31, l32, rfl, h32⟩ := len_one h31
  obtain ⟨u32, l33, rfl, h33⟩ := len_one h32
  obtain ⟨u33, l34, rfl, h34⟩ := len_one h33
  obtain ⟨u34, l35, rfl, h35⟩ := len_one h34
  obtain ⟨u35, l36, rfl, h36⟩ := len_one h35
  obtain ⟨u36, l37, rfl, h37⟩ := len_one h36
  obtain ⟨u37, l38, rfl, h38⟩ := len_one h37
  obtain ⟨u38, l39, rfl, h39⟩ := len_one h38
  obtain ⟨u39, l40, rfl, h40⟩ := len_one h39
  obtain ⟨u40, l41, rfl, h41⟩ := len_one h40
  obtain ⟨u41, l42, rfl, h42⟩ := len_one h41
  obtain ⟨u42, l43, rfl, h43⟩ := len_one h42
  obtain ⟨u43, l44, rfl, h44⟩ := len_one h43
  obtain ⟨u44, l45, rfl, h45⟩ := len_one h44
  obtain ⟨u45, l46, rfl, h46⟩ := len_one h45
  obtain ⟨u46, l47, rfl, h47⟩ := len_one h46
  obtain ⟨u47, l48, rfl, h48⟩ := len_one h47
  obtain ⟨u48, l49, rfl, h49⟩ := len_one h48
  obtain ⟨u49, l50, rfl, h50⟩ := len_one h49
  obtain ⟨u50, l51, rfl, h51⟩ := len_one h50
  obtain ⟨u51, l52, rfl, h52⟩ := len_one h51
  obtain ⟨u52, l53, rfl, h53⟩ := len_one h52
  obtain ⟨u53, l54, rfl, h54⟩ := len_one h53
  obtain ⟨u54, l55, rfl, h55⟩ := len_one h54
  obtain ⟨u55, l56, rfl, h56⟩ := len_one h55
  obtain ⟨u56, l57, rfl, h57⟩ := len_one h56
  obtain ⟨u57, l58, rfl, h58⟩ := len_one h57
  obtain ⟨u58, l59, rfl, h59⟩ := len_one h58
  obtain ⟨u59, l60, rfl, h60⟩ := len_one h59
  obtain ⟨u60, l61, rfl, h61⟩ := len_one h60
  obtain ⟨u61, l62, rfl, h62⟩ := len_one h61
  obtain ⟨u62, l63, rfl, h63⟩ := len_one h62
  obtain ⟨u63, l64, rfl, h64⟩ := len_one h63
  obtain ⟨u64, l65, rfl, h65⟩ := len_one h64
  obtain rfl := List.length_eq_zero_iff.1 h65
  exact ⟨⟨u0, u1, u2, u3, u4, u5, u6, u7, u8, u9, u10, u11, u12, u13, u14, u15, u16, u17, u18, u19, u20, u21, u22, u23, u24, u25, u26, u27, u28, u29, u30, u31, u32, u33, u34, u35, u36, u37, u38, u39, u40, u41, u42, u43, u44, u45, u46, u47, u48, u49, u50, u51, u52, u53, u54, u55, u56, u57, u58, u59, u60, u61, u62, u63, u64⟩, rfl⟩
/-- what stands in the slots at a label -/
def AtLabel (A0 : Option Addr) (n0 c0 : Nat) (A1 : Option Addr) (m c1 : Nat) (fv va vt : Value) (z : Int) (a : Act) : Prop :=
  a.defers = [] ∧ a.tmps.size = 65 ∧ a.tmps[0]? = some (.slice A0 n0 c0) ∧ a.tmps[1]? = some (.slice A1 m c1) ∧ a.tmps[2]? = some fv ∧ a.tmps[6]? = some (.bool false) ∧ a.tmps[7]? = some va ∧ a.tmps[8]? = some vt ∧ a.tmps[9]? = some (.int .i64 z)
theorem at_lit {A0 : Option Addr} {n0 c0 : Nat} {A1 : Option Addr} {m c1 : Nat} {fv va vt : Value} {z : Int} {a : Act} (h : AtLabel A0 n0 c0 A1 m c1 fv va vt z a) : ∃ U : Slots65, a = { tmps := #[.slice A0 n0 c0, .slice A1 m c1, fv, U.u3, U.u4, U.u5, .bool false, va, vt, .int .i64 z, U.u10, U.u11, U.u12, U.u13, U.u14, U.u15, U.u16, U.u17, U.u18, U.u19, U.u20, U.u21, U.u22, U.u23, U.u24, U.u25, U.u26, U.u27, U.u28, U.u29, U.u30, U.u31, U.u32, U.u33, U.u34, U.u35, U.u36, U.u37, U.u38, U.u39, U.u40, U.u41, U.u42, U.u43, U.u44, U.u45, U.u46, U.u47, U.u48, U.u49, U.u50, U.u51, U.u52, U.u53, U.u54, U.u55, U.u56, U.u57, U.u58, U.u59, U.u60, U.u61, U.u62, U.u63, U.u64], defers := [] } := by
  obtain ⟨h0, h1, e0, e1, e2, e6, e7, e8, e9⟩ := h
  obtain ⟨tm, df⟩ := a
  obtain ⟨U, hU⟩ := slots_lit tm h1
  dsimp only at h0 hU e0 e1 e2 e6 e7 e8 e9
  subst h0 hU
  refine ⟨U, ?_⟩
  have e0 := Option.some.inj (show some U.u0 = _ from e0)
  have e1 := Option.some.inj (show some U.u1 = _ from e1)
  have e2 := Option.some.inj (show some U.u2 = _ from e2)
  have e6 := Option.some.inj (show some U.u6 = _ from e6)
  have e7 := Option.some.inj (show some U.u7 = _ from e7)
  have e8 := Option.some.inj (show some U.u8 = _ from e8)
  have e9 := Option.some.inj (show some U.u9 = _ from e9)
  rw [e0, e1, e2, e6, e7, e8, e9]
def AtOk (i : Nat) (l : List Nat) : Prop := (∀ j, j < i → rdN l j < 1000000) ∧ ∀ j, rdN l j ≤ 1000000
theorem rdN_set (l : List Nat) (i x j : Nat) : rdN (l.set i x) j = if i = j then (if j < l.length then x else 0) else rdN l j := by
  unfold rdN
  rw [List.getD_eq_getElem?_getD, List.getD_eq_getElem?_getD]
  by_cases c : i = j
  · subst c
    rw [if_pos rfl]
    by_cases d : i < l.length
    · rw [List.getElem?_set_self d, if_pos d]; rfl
    · rw [List.getElem?_eq_none (by rw [List.length_set]; omega), if_neg d]; rfl
  · rw [List.getElem?_set_ne c, if_neg c]
theorem AtOk.down {i : Nat} {l : List Nat} (h : AtOk i l) (hi : rdN l i < 1000000) : AtOk (i + 1) l := ⟨fun j hj => by
  by_cases c : j = i
  · rw [c]; exact hi
  · exact h.1 j (by omega), h.2⟩
theorem AtOk.zero {i : Nat} {l : List Nat} (h : AtOk i l) : AtOk i (l.set i 0) := ⟨fun j hj => by
  rw [rdN_set, if_neg (by omega)]; exact h.1 j hj, fun j => by
  rw [rdN_set]
  have := h.2 j
  split
  · split <;> omega
  · exact this⟩
theorem AtOk.up {j : Nat} {l : List Nat} (h : AtOk (j + 1) l) : AtOk j (l.set j (rdN l j + 1)) := ⟨fun k hk => by
  rw [rdN_set, if_neg (by omega)]; exact h.1 k (by omega), fun k => by
  rw [rdN_set]
  have h1 := h.2 k
  have h2 := h.1 j (Nat.lt_succ_self _)
  split
  · split <;> omega
  · exact h1⟩
set_option maxHeartbeats 8000000 in
set_option maxRecDepth 100000 in
theorem all_walk (p : List Int → Bool) (g : Nat) (lbw : Array Value) (eg : ∀ args w, (callFunc g args).run Try.prog w = .ok (.enter g args) w) (A0 : Option Addr) (n0 c0 : Nat) (l0 : List (List Int)) (hr0 : Kd.C (Kd.slice 3 (Kd.int .i64)) w0 A0 n0 l0) (A1 : Option Addr) (c1 : Nat) (l1 : List Int) (hr1 : Kd.C (Kd.int .i64) w0 A1 m l1) (hm2 : m ≤ 1000) (hok : ∀ v ∈ l1, 0 ≤ v ∧ v < (n0 : Int))
    (h : OutW w0 X0 sw so sm rb (.func (.func g) #[] lbw) most sv (.slice none 0 0) sch [] W) (hx : ∀ k, X0 k → k = sm ∨ sv.ownBlock = some k) (ds : List (List Int)) (hds : ds = l1.map fun v => l0.getD v.toNat []) (hdl0 : ∀ d ∈ l0, d.length ≤ 1000000)
    (hwant : ∀ (t : List Int) (W' : World) (A : Option Addr) (c : Nat), t.length = m → Below w0.heap.size w0 W' → Kd.C (Kd.int .i64) W' A t.length t → t.length ≤ c → Calls Try.prog g (#[.slice A t.length c] ++ lbw) W' fun e w' => e = .returned (.bool (p t)) ∧ Below W'.heap.size W' w')
    (K : Nat) (r : Bool × List (List Int)) (hrun : allL ds p most K false 0 (List.replicate m 0) (List.replicate m 0) [] = some r) (hrl : r.2.length < 1000000) :
    Calls Try.prog 43 #[.slice A0 n0 c0, .slice A1 m c1, .func (.func 44) #[] #[.pointer (some ⟨sw, 0, none⟩), .pointer (some ⟨so, 0, none⟩), .pointer (some ⟨sm, 0, none⟩)]] W fun e w' => e = .returned (.bool r.1) ∧ ∃ rv', OutW w0 X0 sw so sm rb (.func (.func g) #[] lbw) most sv rv' sch r.2 w' := by
  have HR0 := Aside0.mk hr0
  have HR1 := Aside0.mk hr1
  have HOK := Aside0.mk hok
  have HX := Aside0.mk hx
  have HW := Aside0.mk h
  have HDS := Aside0.mk hds
  have HDL := Aside0.mk hdl0
  have HWANT := Aside0.mk hwant
  have HRUN := Aside0.mk hrun
  have HRL := Aside0.mk hrl
  have HMK := print_make (P := Try.prog) 23 3 .i64 8 Try.underlying23 info3 (by decide) m (by omega)
  clear hr0 hr1 hok hx h hds hdl0 hwant hrun hrl
  go_enter Try.func43, Try.ntmps43
  go_wp2
  refine scope_top (fun k l a' w' => ∃ (z : Int) (i : Nat) (at_ : List Nat) (t : List Int) (out : List (List Int)) (rv : Value) (ab tb : Nat), AtLabel A0 n0 c0 A1 m c1 (.func (.func 44) #[] #[.pointer (some ⟨sw, 0, none⟩), .pointer (some ⟨so, 0, none⟩), .pointer (some ⟨sm, 0, none⟩)]) (.slice (some ⟨ab, 0, none⟩) m m) (.slice (some ⟨tb, 0, none⟩) m m) z a' ∧ z = (i : Int) ∧ i ≤ m ∧ Aside0 (allL ds p most k (l == 1) i at_ t out = some r) ∧ Aside0 (AllW w0 X0 sw so sm rb (.func (.func g) #[] lbw) most sv rv sch out ab tb m at_ t w') ∧ Aside0 (AtOk i at_)) (by kernel_rfl) (by kernel_rfl) (by kernel_rfl) (by kernel_rfl) ?_ ?_ ?_
  · have hzero : AtOk 0 (List.replicate m 0) := ⟨fun j hj => by omega, fun j => by
      unfold rdN
      rw [List.getD_eq_getElem?_getD, List.getElem?_replicate]
      split <;> simp⟩
    go_region_with fail
    · simp only [Exit.then]
      exact ⟨K, 0, 0, List.replicate m 0, List.replicate m 0, [], .slice none 0 0, W.heap.size, W.heap.size + 1, ⟨rfl, rfl, rfl, rfl, rfl, rfl, rfl, rfl, rfl⟩, rfl, Nat.zero_le _, HRUN, ⟨(made_two HW.out hm2 HX.out false).low (below_drew (Below.refl _ _))⟩, ⟨hzero⟩⟩
    · simp only [Exit.then]
      exact ⟨K, 0, 0, List.replicate m 0, List.replicate m 0, [], .slice none 0 0, W.heap.size + 1, W.heap.size, ⟨rfl, rfl, rfl, rfl, rfl, rfl, rfl, rfl, rfl⟩, rfl, Nat.zero_le _, HRUN, ⟨(made_two HW.out hm2 HX.out true).low (below_drew (Below.refl _ _))⟩, ⟨hzero⟩⟩
  · rintro k a' w' ⟨_, i, at_, t, out, rv, ab, tb, hL, rfl, hi, HF, HA, HAT⟩
    obtain ⟨U, rfl⟩ := at_lit hL
    clear hL
    cases k with
    | zero => exact absurd HF.out (by simp [allL])
    | succ k =>
      have HFF : allL ds p most (k + 1) false i at_ t out = some r := HF.out
      have hl1 : l1.length = m := (HR1.out).1
      have hdl : ds.length = m := by rw [HDS.out, List.length_map]; exact hl1
      have hlen_ := HA.out.len
      by_cases hlt : i < m
      · have hltz : (i : Int) < (m : Int) := by omega
        have hi0 : (0 : Int) ≤ (i : Int) := by omega
        rw [allL, if_pos (by omega)] at HFF
        obtain ⟨ad1, e1, hc1⟩ := Kd.at_int HR1.out (i : Int) (by omega) (by omega)
        subst e1
        rw [Int.toNat_natCast] at hc1
        have hil : i < l1.length := by omega
        have hrd : rd l1 (i : Int) = l1[i] := rd_nat l1 i _ (List.getElem?_eq_getElem hil)
        have hv := HOK.out _ (List.getElem_mem hil)
        rw [hrd] at hc1
        obtain ⟨v, hvv⟩ : ∃ v, v = l1[i] := ⟨_, rfl⟩
        rw [← hvv] at hc1 hv
        obtain ⟨vn, rfl⟩ := Int.eq_ofNat_of_zero_le hv.1
        have hc1w := (HA.out.o.bel.cell (World.block_lt_of_cell? w0 _ hc1)).trans hc1
        obtain ⟨ad0, val, d, rfl, hd, hdm, hk, hc0⟩ := elem_one (d := Kd.slice 3 (Kd.int .i64)) rfl HR0.out HA.out.o.bel vn (by omega)
        obtain ⟨Ad, cd, e, hld, hC⟩ := hk
        obtain rfl : val = .slice Ad d.length cd := by injection e
        have hdd : rdL ds i = d := by
          unfold rdL
          rw [HDS.out, List.getD_eq_getElem?_getD, List.getElem?_map, List.getElem?_eq_getElem hil, ← hvv]
          simp [hd]
        rw [hdd] at HFF
        obtain ⟨hce1, hce2⟩ := Kd.R_celln (enc := Value.int .i64) (h1 := fun _ => rfl) (0 : Int) HA.out.ha (i : Int) (by omega) (by omega)
        obtain ⟨hct1, hct2⟩ := Kd.R_celln (enc := Value.int .i64) (h1 := fun _ => rfl) (0 : Int) HA.out.ht (i : Int) (by omega) (by omega)
        have hra : rdOf 0 (natsZ at_) (i : Int) = ((rdN at_ i : Nat) : Int) := natsZ_rd at_ i
        rw [hra] at hce1
        rw [Int.toNat_natCast] at hce1 hce2 hct1 hct2
        obtain ⟨a, ha⟩ : ∃ a, a = rdN at_ i := ⟨_, rfl⟩
        rw [← ha] at hce1 HFF
        have ha0 : (0 : Int) ≤ (a : Int) := by omega
        have hv0 : (0 : Int) ≤ (vn : Int) := by omega
        have hvn := hv.2
        have HAA := Aside0.mk ha
        have hdlen := HDL.out d hdm
        clear hlen_ e hdd hd hdm hld hv hvv hrd hil hl1 hdl hra HF hc1 ha
        by_cases hq : a < d.length
        · rw [if_pos hq] at HFF
          have hqz : (a : Int) < (d.length : Int) := by omega
          obtain ⟨ad2, e2, hc2⟩ := Kd.at_int hC (a : Int) (by omega) (by omega)
          subst e2
          rw [Int.toNat_natCast] at hc2
          have hc2w := (HA.out.o.bel.cell (World.block_lt_of_cell? w0 _ hc2)).trans hc2
          have hdz : rdZ d a = rd d (a : Int) := rfl
          rw [hdz] at HFF
          obtain ⟨x, hx⟩ : ∃ x, x = rd d (a : Int) := ⟨_, rfl⟩
          rw [← hx] at hc2w HFF
          have HF2 := Aside0.mk HFF
          clear hx hc2 hdz hC HFF hq
          go_wp2
          go_step3
          simp only [Exit.then]
          refine ⟨.inl rfl, k, Nat.lt_succ_self _, (i : Int) + 1, i + 1, at_, t.set i x, out, rv, ab, tb, ⟨rfl, rfl, rfl, rfl, rfl, rfl, rfl, rfl, rfl⟩, by omega, by omega, HF2, ⟨?_⟩, ⟨HAT.out.down (by have := HAA.out; omega)⟩⟩
          have hT := HA.out.putT (i : Int) x
          rw [Int.toNat_natCast] at hT
          exact hT
        · rw [if_neg hq] at HFF
          have hqz : ¬ (a : Int) < (d.length : Int) := by omega
          have HF2 := Aside0.mk HFF
          clear HFF hq hC
          go_wp2
          go_step3
          (try simp only [Exit.then])
          exact ⟨.inr rfl, k, Nat.lt_succ_self _, (i : Int), i, at_.set i 0, t, out, rv, ab, tb, ⟨rfl, rfl, rfl, rfl, rfl, rfl, rfl, rfl, rfl⟩, rfl, hi, HF2, ⟨HA.out.putA i 0⟩, ⟨HAT.out.zero⟩⟩
      · have him : i = m := by omega
        have hltz : ¬ (i : Int) < (m : Int) := by omega
        have hol := allL_mono _ _ _ _ _ _ _ HFF
        rw [allL, if_neg (by omega)] at HFF
        obtain ⟨htm, _, hC⟩ := Kd.R_reads' HA.out.ht
        have HCL := Aside0.mk (slices_Clone_int_int.calls (some ⟨tb, 0, none⟩) m t t w' hC (by omega) (by unfold slices_Clone_int_int.f; rw [if_pos (by omega)]))
        rw [← htm] at HCL
        have HTM := Aside0.mk htm
        have HOL := Aside0.mk (show out.length < 1000000 by have := HRL.out; omega)
        have HY := Aside0.mk (fun (w1 : World) (A : Option Addr) (c : Nat) (hb : Below w'.heap.size w' w1) (hR : Kd.R (Kd.int .i64) 3 w1 w'.heap.size (fun _ => True) (.slice A t.length c) t) => yield_walk p g lbw eg HA.out.o hb A c t (Kd.R_lower (Kd.R_mono (Kd.R_bound hR) (fun k hk => hk.2.1)) HA.out.o.bel.size) (HWANT.out t w1 A c (by have := HTM.out; omega) (below_then HA.out.o.bel HA.out.o.bel.size hb) (Kd.R_reads' hR).2.2 (Kd.R_reads' hR).2.1) HOL.out)
        clear hl1 hdl hlen_ hol htm hC HF
        by_cases hq : ((takeR p out t).length : Int) ≤ most
        · rw [if_pos hq] at HFF
          have HF2 := Aside0.mk HFF
          have hqz : decide (((takeR p out t).length : Int) ≤ most) = true := decide_eq_true hq
          have HQ := Aside0.mk hqz
          clear HFF hq hqz
          go_wp2_with (first
            | (go_at_call 42; refine HCL.out.mono ?_; rintro e w1 ⟨v1, rfl, ho, hb⟩; obtain ⟨A3, c3, e3⟩ := Kd.R_slice ho; subst e3; have hy := HY.out w1 A3 c3 hb ho; rw [HQ.out] at hy; have HY1 := Aside0.mk hy; clear ho hb hy)
            | (go_at_call 44; refine HY1.out.mono ?_; rintro e w2 ⟨rfl, rv', ho2, hx2, hs2⟩; have HO2 := Aside0.mk ho2; have HX2 := Aside0.mk hx2; clear ho2 hx2 hs2))
          (try simp only [Exit.then])
          exact ⟨k, Nat.lt_succ_self _, (m : Int), i, at_, t, takeR p out t, rv', ab, tb, ⟨rfl, rfl, rfl, rfl, rfl, rfl, rfl, rfl, rfl⟩, by omega, hi, HF2, ⟨HA.out.out' HO2.out HX2.out⟩, HAT⟩
        · rw [if_neg hq] at HFF
          have hr : (false, takeR p out t) = r := Option.some.inj HFF
          subst hr
          have hqz : decide (((takeR p out t).length : Int) ≤ most) = false := decide_eq_false hq
          have HQ := Aside0.mk hqz
          clear HFF hq hqz
          go_wp2_with (first
            | (go_at_call 42; refine HCL.out.mono ?_; rintro e w1 ⟨v1, rfl, ho, hb⟩; obtain ⟨A3, c3, e3⟩ := Kd.R_slice ho; subst e3; have hy := HY.out w1 A3 c3 hb ho; rw [HQ.out] at hy; have HY1 := Aside0.mk hy; clear ho hb hy)
            | (go_at_call 44; refine HY1.out.mono ?_; rintro e w2 ⟨rfl, rv', ho2, hx2, hs2⟩; have HO2 := Aside0.mk ho2; have HX2 := Aside0.mk hx2; clear ho2 hx2 hs2))
          (try simp only [Exit.then, JumpsN])
          go_ret
          exact ⟨rfl, rv', HO2.out.less (fun k hk => .inl hk) HW.out.xm HW.out.xs⟩
  · rintro k a' w' ⟨_, i, at_, t, out, rv, ab, tb, hL, rfl, hi, HF, HA, HAT⟩
    obtain ⟨U, rfl⟩ := at_lit hL
    clear hL
    cases k with
    | zero => exact absurd HF.out (by simp [allL])
    | succ k =>
      have HFF : allL ds p most (k + 1) true i at_ t out = some r := HF.out
      rw [allL] at HFF
      cases i with
      | zero =>
        have hr : (true, out) = r := Option.some.inj HFF
        subst hr
        go_wp2
        (try simp only [Exit.then, Jumps])
        go_ret
        exact ⟨rfl, rv, HA.out.o.less (fun k hk => .inl hk) HW.out.xm HW.out.xs⟩
      | succ j =>
        have HF2 := Aside0.mk (show allL ds p most k false j (at_.set j (rdN at_ j + 1)) t out = some r from HFF)
        have hja := HAT.out.1 j (Nat.lt_succ_self _)
        have hz : ((j + 1 : Nat) : Int) - 1 = (j : Int) := by omega
        have hj0 : (0 : Int) ≤ (j : Int) := by omega
        have hjm : (j : Int) < (m : Int) := by omega
        obtain ⟨hce1, hce2⟩ := Kd.R_celln (enc := Value.int .i64) (h1 := fun _ => rfl) (0 : Int) HA.out.ha (j : Int) (by omega) (by omega)
        have hra : rdOf 0 (natsZ at_) (j : Int) = ((rdN at_ j : Nat) : Int) := natsZ_rd at_ j
        rw [hra] at hce1
        rw [Int.toNat_natCast] at hce1 hce2
        obtain ⟨a, ha⟩ : ∃ a, a = rdN at_ j := ⟨_, rfl⟩
        rw [← ha] at hce1 hja HF2
        have HAA := Aside0.mk ha
        clear ha hra HFF HF
        have hP := HA.out.putA j (a + 1)
        rw [show ((a + 1 : Nat) : Int) = (a : Int) + 1 from rfl] at hP
        have HP := Aside0.mk hP
        have HUP := HAT.out.up
        rw [← HAA.out] at HUP
        have HUP2 := Aside0.mk HUP
        clear hP HUP
        go_wp2
        go_step3
        (try simp only [Exit.then])
        exact ⟨.inl rfl, k, Nat.lt_succ_self _, (j : Int), j, at_.set j (a + 1), t, out, rv, ab, tb, ⟨rfl, rfl, rfl, rfl, rfl, rfl, rfl, rfl, rfl⟩, rfl, by omega, HF2, HP, HUP2⟩
end
section
open Go.RowKit
def domsL (l0 : List (List Int)) (l1 : List Int) : List (List Int) := l1.map fun v => l0.getD v.toNat []
def rowsF (p : List Int → Bool) (l0 : List (List Int)) (l1 : List Int) (most : Int) : Option (List Int × List (List Int) × Int) :=
  if l1.length ≤ 1000 ∧ (∀ d ∈ l0, d.length ≤ 1000000) ∧ (prodL (domsL l0 l1)).length < 1000000 then
    (if ∀ v ∈ l1, 0 ≤ v ∧ v < (l0.length : Int) then some (if (procL p most (prodL (domsL l0 l1)) []).1 = true ∧ ((procL p most (prodL (domsL l0 l1)) []).2.length : Int) ≤ most then (l1, (procL p most (prodL (domsL l0 l1)) []).2, 0) else ([], [], 9)) else some ([], [], 1))
  else none
theorem procL_len (p : List Int → Bool) (most : Int) : ∀ (l out : List (List Int)), (procL p most l out).2.length ≤ out.length + l.length
  | [], out => Nat.le_refl _
  | t :: l, out => by
    have hl : (takeR p out t).length ≤ out.length + 1 := by unfold takeR; split <;> simp
    rw [procL]
    split
    · have := procL_len p most l (takeR p out t)
      rw [List.length_cons]
      omega
    · rw [List.length_cons]
      show (takeR p out t).length ≤ _
      omega
theorem three_blocks (w : World) (o1 o2 o3 : Obj) : (((w.alloc o1).alloc o2).alloc o3).heap[w.heap.size]? = some o1 ∧ (((w.alloc o1).alloc o2).alloc o3).heap[w.heap.size + 1]? = some o2 ∧ (((w.alloc o1).alloc o2).alloc o3).heap[w.heap.size + 1 + 1]? = some o3 ∧ Below w.heap.size w (((w.alloc o1).alloc o2).alloc o3) ∧ (((w.alloc o1).alloc o2).alloc o3).heap.size = w.heap.size + 1 + 1 + 1 := by
  have hz1 : (w.alloc o1).heap.size = w.heap.size + 1 := by simp
  have hz2 : ((w.alloc o1).alloc o2).heap.size = w.heap.size + 1 + 1 := by simp
  have n1 : ∀ (W : World) (o : Obj), (W.alloc o).heap[W.heap.size]? = some o := fun W o => blk_new W o
  refine ⟨(Below.heap_alloc _ _ _ (by rw [hz2]; omega)).trans ((Below.heap_alloc _ _ _ (by rw [hz1]; omega)).trans (n1 w o1)), ?_, ?_, below_alloc (below_alloc (below_alloc (Below.refl _ _) _) _) _, by simp⟩
  · refine (Below.heap_alloc _ _ _ (by rw [hz2]; omega)).trans ?_
    rw [← hz1]
    exact n1 _ _
  · rw [← hz2]
    exact n1 _ _
set_option maxHeartbeats 8000000 in
set_option maxRecDepth 100000 in
theorem rows_walk (p : List Int → Bool) (g : Nat) (lbw : Array Value) (eg : ∀ args w, (callFunc g args).run Try.prog w = .ok (.enter g args) w) (A0 : Option Addr) (c0 : Nat) (l0 : List (List Int)) (A1 : Option Addr) (c1 : Nat) (l1 : List Int) (most : Int) (r1 : List Int) (r2 : List (List Int)) (r3 : Int) (w : World)
    (hr0 : Kd.C (Kd.slice 3 (Kd.int .i64)) w A0 l0.length l0) (hr1 : Kd.C (Kd.int .i64) w A1 l1.length l1) (hc1 : l1.length ≤ c1)
    (hwant : ∀ (t : List Int) (W' : World) (A : Option Addr) (c : Nat), t.length = l1.length → Below w.heap.size w W' → Kd.C (Kd.int .i64) W' A t.length t → t.length ≤ c → Calls Try.prog g (#[.slice A t.length c] ++ lbw) W' fun e w' => e = .returned (.bool (p t)) ∧ Below W'.heap.size W' w')
    (h : rowsF p l0 l1 most = some (r1, r2, r3)) :
    Calls Try.prog 28 #[.slice A0 l0.length c0, .slice A1 l1.length c1, .int .i64 most, .func (.func g) #[] lbw] w fun e w' => ∃ (v0_ v1_ : Value), e = .returned (.tuple #[.agg #[v0_, v1_], .int .i64 r3]) ∧ Kd.R (Kd.int .i64) 3 w' w.heap.size (fun _ => True) v0_ r1 ∧ Kd.S (Kd.slice 3 (Kd.int .i64)) 23 w' w.heap.size (fun k_ => some k_ ≠ v0_.ownBlock) v1_ r2 ∧ Below w.heap.size w w' := by
  unfold rowsF at h
  split at h
  case isFalse => cases h
  rename_i hg
  have HG := Aside0.mk hg
  have HR0 := Aside0.mk hr0
  have HR1 := Aside0.mk hr1
  have HWANT := Aside0.mk hwant
  have HH := Aside0.mk h
  have HCL := Aside0.mk (fun (W : World) (hW : Below w.heap.size w W) => slices_Clone_int_int.calls A1 c1 l1 l1 W (Kd.C_below hr1 hW) hc1 (by unfold slices_Clone_int_int.f; rw [if_pos (by have := hg.1; omega)]))
  obtain ⟨n0, hn0⟩ : ∃ n0, n0 = l0.length := ⟨_, rfl⟩
  obtain ⟨m, hm⟩ : ∃ m, m = l1.length := ⟨_, rfl⟩
  rw [← hn0] at HR0 HH ⊢
  rw [← hm] at HR1 HWANT HCL ⊢
  have HN0 := Aside0.mk hn0
  have HM := Aside0.mk hm
  have hm2 : m ≤ 1000 := by rw [hm]; exact hg.1
  clear hr0 hr1 hc1 hwant h hg hn0 hm
  go_enter Try.func28, Try.ntmps28
  go_upto_region 2 with (go_at_call 42; refine (HCL.out _ (three_blocks w _ _ _).2.2.2.1).mono ?_; rintro e w2 ⟨v2, rfl, ho, hb⟩; obtain ⟨A2, c2, e2⟩ := Kd.R_slice ho; subst e2; have h3 := three_blocks w (.cells #[.int .i64 most] 3 (0, 0)) (.cells #[.func (.func g) #[] lbw] 43 (0, 0)) (.cells #[.slice none 0 0, .slice none 0 0] 28 (0, 0)); have HM2 := Aside0.mk ((hb.block _ (blk_lt h3.1)).trans h3.1); have HW2 := Aside0.mk ((hb.block _ (blk_lt h3.2.1)).trans h3.2.1); have HRB2 := Aside0.mk ((hb.block _ (blk_lt h3.2.2.1)).trans h3.2.2.1); have HB2 := Aside0.mk (below_then h3.2.2.2.1 h3.2.2.2.1.size hb); have HZ2 := Aside0.mk (show w.heap.size + 1 + 1 + 1 ≤ w2.heap.size by have := hb.size; have := h3.2.2.2.2; omega); have ho' := Kd.R_bound ho; rw [h3.2.2.2.2] at ho'; have HO2 := Aside0.mk ho'; clear ho ho' hb h3)
  rw [← HM.out] at HO2 ⊢
  obtain ⟨w3, hw3⟩ : ∃ w3, w3 = w2.alloc (.cells #[.slice A2 m c2, .slice none 0 0] 28 (0, 0)) := ⟨_, rfl⟩
  have hb3 : Below w2.heap.size w2 w3 := by rw [hw3]; exact below_alloc (Below.refl _ _) _
  have ho3 : w3.heap[w2.heap.size]? = some (.cells #[.slice A2 m c2, .slice none 0 0] 28 (0, 0)) := by rw [hw3]; exact blk_new _ _
  have hown : ∀ k, (Value.slice A2 m c2).ownBlock = some k → w.heap.size + 1 + 1 + 1 ≤ k ∧ k < w2.heap.size := fun k hk => by
    have h1 := (HO2.out).1 k hk
    exact ⟨h1.2.1, h1.2.2.1⟩
  have hs3 : w2.heap.size < w3.heap.size := blk_lt ho3
  have hz2 := HZ2.out
  have HOUT : OutW w (fun k => k = w.heap.size ∨ (Value.slice A2 m c2).ownBlock = some k) (w.heap.size + 1) w2.heap.size w.heap.size (w.heap.size + 1 + 1) (.func (.func g) #[] lbw) most (.slice A2 m c2) (.slice none 0 0) l1 [] w3 :=
    ⟨(hb3.block _ (blk_lt HW2.out)).trans HW2.out, ho3, (hb3.block _ (blk_lt HM2.out)).trans HM2.out, (hb3.block _ (blk_lt HRB2.out)).trans HRB2.out, Kd.R_lower (Kd.R_mono (Kd.R_below HO2.out hb3) (fun k hk => by have := hk.2.1; omega)) (by omega), Kd.S_nil _ _ _ _ _, .inl rfl, fun e => by
      rcases e with e | e
      · omega
      · have := hown _ e; omega, fun k hk => .inr hk, fun k hk => by
      rcases hk with e | e
      · omega
      · have := hown _ e; omega, below_then HB2.out HB2.out.size hb3, by omega, by omega, by omega, by omega, by omega⟩
  rw [← hw3]
  obtain ⟨so, hso⟩ : ∃ so, so = w2.heap.size := ⟨_, rfl⟩
  rw [← hso] at HOUT ⊢
  obtain ⟨X0, hX0⟩ : ∃ X0, X0 = (fun k => k = w.heap.size ∨ (Value.slice A2 m c2).ownBlock = some k) := ⟨_, rfl⟩
  rw [← hX0] at HOUT
  have HX := Aside0.mk (show ∀ k, X0 k → k = w.heap.size ∨ (Value.slice A2 m c2).ownBlock = some k by rw [hX0]; exact fun k h => h)
  obtain ⟨sm, hsm⟩ : ∃ sm, sm = w.heap.size := ⟨_, rfl⟩
  obtain ⟨sw, hsw⟩ : ∃ sw, sw = w.heap.size + 1 := ⟨_, rfl⟩
  obtain ⟨rb, hrb⟩ : ∃ rb, rb = w.heap.size + 1 + 1 := ⟨_, rfl⟩
  have HXX := HX
  have HB := Aside0.mk HOUT.bel
  replace HOUT := Aside0.mk (show OutW w X0 sw so sm rb (.func (.func g) #[] lbw) most (.slice A2 m c2) (.slice none 0 0) l1 [] w3 by rw [hsm, hsw, hrb]; exact HOUT)
  replace HX := Aside0.mk (show ∀ k, X0 k → k = sm ∨ (Value.slice A2 m c2).ownBlock = some k by rw [hsm]; exact HX.out)
  rw [← hrb, ← hsw, ← hsm]
  clear HXX hX0 hsm hsw hrb hso hw3 hb3 ho3 hown hs3 hz2 HM2 HW2 HRB2 HB2 HZ2 HO2 HCL
  go_wp2
  go_loopg [19] m (fun gg s19 wr => ∃ kk : Nat, s19 = .int .i64 kk ∧ kk ≤ m ∧ Aside0 (m - kk ≤ gg) ∧ Aside0 (∀ j (h : j < l1.length), j < kk → 0 ≤ l1[j] ∧ l1[j] < (n0 : Int)) ∧ wr = w3)
  case atStart => exact ⟨0, rfl, Nat.zero_le _, ⟨Nat.le_refl _⟩, ⟨fun j _ hj => by omega⟩, rfl⟩
  case round =>
    obtain ⟨kk, rfl, hkk, HK, HV, rfl⟩ := hrel
    have HL1 := Aside0.mk (show l1.length = m from HM.out.symm)
    by_cases hlt : kk < m
    · have hltz : (kk : Int) < (m : Int) := by omega
      have hk0 : (0 : Int) ≤ (kk : Int) := by omega
      obtain ⟨ad1, e1, hc1⟩ := Kd.at_int HR1.out (kk : Int) (by omega) (by omega)
      subst e1
      have hil : kk < l1.length := by rw [HL1.out]; exact hlt
      have hrd : rd l1 (kk : Int) = l1[kk] := rd_nat l1 kk _ (List.getElem?_eq_getElem hil)
      rw [Int.toNat_natCast, hrd] at hc1
      have hc1w := (HB.out.cell (World.block_lt_of_cell? w _ hc1)).trans hc1
      obtain ⟨v, hv⟩ : ∃ v, v = l1[kk] := ⟨_, rfl⟩
      rw [← hv] at hc1w
      have HVV := Aside0.mk (show l1[kk]? = some v by rw [hv]; exact List.getElem?_eq_getElem hil)
      clear hv hc1 hrd hil
      have HBX := Aside0.mk (HOUT.out.hb)
      have HLO := Aside0.mk (HOUT.out.lo)
      have HBB := Aside0.mk (HOUT.out.bel)
      have hcr0 : wr.cell? ⟨rb, 0, none⟩ = some (.slice none 0 0) := (blk_cell HBX.out 0).trans rfl
      have hcr1 : wr.cell? ⟨rb, 1, none⟩ = some (.slice none 0 0) := (blk_cell HBX.out 1).trans rfl
      have hfr0 := blk_frozen HBX.out 0
      have hfr1 := blk_frozen HBX.out 1
      have HBAD := Aside0.mk (show ¬ (0 ≤ v ∧ v < (n0 : Int)) → [] = r1 ∧ [] = r2 ∧ 1 = r3 from fun hn => by
        have := HH.out
        rw [if_neg (fun e => hn (e v (List.mem_of_getElem? HVV.out)))] at this
        simpa using this)
      by_cases c1 : v < 0
      · have hd1 : decide (v < 0) = true := decide_eq_true c1
        have HE1 := Aside0.mk (HBAD.out (by omega))
        clear c1
        go_wp2
        (try simp only [Exit.inBlock, Exit.then])
        have p1 := blk_put (cs' := #[(.slice none 0 0), .slice none 0 0]) HBX.out 0 (.slice none 0 0) rfl
        have p2 := blk_put (cs' := #[(.slice none 0 0), (.slice none 0 0)]) p1 1 (.slice none 0 0) rfl
        refine bodyPost_ret (results_ct rfl _ _ rb 28 #[(.slice none 0 0), (.slice none 0 0)] (0, 0) _ rfl p2 Try.underlying28 rfl (by kernel_rfl)) rfl ?_
        rw [← HE1.out.1, ← HE1.out.2.1, ← HE1.out.2.2]
        exact ⟨_, _, rfl, Kd.R_nil _ _ _ _ _, Kd.S_nil _ _ _ _ _, (HBB.out.setCell HLO.out.2.2.2.1 _).setCell HLO.out.2.2.2.1 _⟩
      · have hd1 : decide (v < 0) = false := decide_eq_false c1
        by_cases c2 : v ≥ (n0 : Int)
        · have hd2 : decide (v ≥ (n0 : Int)) = true := decide_eq_true c2
          have HE1 := Aside0.mk (HBAD.out (by omega))
          clear c1 c2
          go_wp2
          (try simp only [Exit.inBlock, Exit.then])
          have p1 := blk_put (cs' := #[(.slice none 0 0), .slice none 0 0]) HBX.out 0 (.slice none 0 0) rfl
          have p2 := blk_put (cs' := #[(.slice none 0 0), (.slice none 0 0)]) p1 1 (.slice none 0 0) rfl
          refine bodyPost_ret (results_ct rfl _ _ rb 28 #[(.slice none 0 0), (.slice none 0 0)] (0, 0) _ rfl p2 Try.underlying28 rfl (by kernel_rfl)) rfl ?_
          rw [← HE1.out.1, ← HE1.out.2.1, ← HE1.out.2.2]
          exact ⟨_, _, rfl, Kd.R_nil _ _ _ _ _, Kd.S_nil _ _ _ _ _, (HBB.out.setCell HLO.out.2.2.2.1 _).setCell HLO.out.2.2.2.1 _⟩
        · have hd2 : decide (v ≥ (n0 : Int)) = false := decide_eq_false c2
          have HV2 := Aside0.mk (show ∀ j (h : j < l1.length), j < kk + 1 → 0 ≤ l1[j] ∧ l1[j] < (n0 : Int) from fun j hj hj2 => by
            rcases Nat.lt_succ_iff_lt_or_eq.1 hj2 with h | h
            · exact HV.out j hj h
            · subst h
              have := (List.getElem?_eq_some_iff.1 HVV.out).2
              rw [this]; omega)
          clear c1 c2
          go_wp2
          go_roundg (m - (kk + 1))
          case measure => have := HK.out; omega
          case rel => exact ⟨kk + 1, by go_num, by omega, ⟨Nat.le_refl _⟩, HV2, rfl⟩
    · have hltz : ¬ (kk : Int) < (m : Int) := by omega
      have HOKV := Aside0.mk (show ∀ v ∈ l1, 0 ≤ v ∧ v < (n0 : Int) from fun v hv => by
        obtain ⟨j, hj, rfl⟩ := List.getElem_of_mem hv
        exact HV.out j hj (by have := HL1.out; omega))
      have hHH := HH.out
      rw [if_pos HOKV.out] at hHH
      have hdl : (domsL l0 l1).length = m := by unfold domsL; rw [List.length_map]; exact HL1.out
      obtain ⟨K, hK⟩ := all_ends (domsL l0 l1) p most
      rw [hdl] at hK
      have hpl := procL_len p most (prodL (domsL l0 l1)) []
      obtain ⟨R, hR⟩ : ∃ R, R = procL p most (prodL (domsL l0 l1)) [] := ⟨_, rfl⟩
      rw [← hR] at hHH hK hpl
      have HALL := Aside0.mk (all_walk (W := wr) p g lbw eg A0 n0 c0 l0 HR0.out A1 c1 l1 HR1.out hm2 HOKV.out HOUT.out HX.out (domsL l0 l1) rfl HG.out.2.1 HWANT.out K R hK (by have := HG.out.2.2; rw [List.length_nil] at hpl; omega))
      clear hdl hK hpl hR
      obtain ⟨rk, ro⟩ := R
      dsimp only at hHH HALL
      cases rk with
      | false =>
        have HE1 := Aside0.mk (show [] = r1 ∧ [] = r2 ∧ 9 = r3 by simpa using hHH)
        clear hHH
        go_wp2_with (go_at_call 43; refine HALL.out.mono ?_; rintro e w5 ⟨rfl, rv', ho⟩; have HO5 := Aside0.mk ho; have HBX := Aside0.mk ho.hb; have HLO := Aside0.mk ho.lo; have HBB := Aside0.mk ho.bel; have hcr0 : w5.cell? ⟨rb, 0, none⟩ = some (.slice none 0 0) := (blk_cell ho.hb 0).trans rfl; have hcr1 : w5.cell? ⟨rb, 1, none⟩ = some (.slice none 0 0) := (blk_cell ho.hb 1).trans rfl; have hfr0 := blk_frozen ho.hb 0; have hfr1 := blk_frozen ho.hb 1; clear ho)
        (try simp only [Exit.inBlock, Exit.then])
        have p1 := blk_put (cs' := #[(.slice none 0 0), .slice none 0 0]) HBX.out 0 (.slice none 0 0) rfl
        have p2 := blk_put (cs' := #[(.slice none 0 0), (.slice none 0 0)]) p1 1 (.slice none 0 0) rfl
        refine bodyPost_ret (results_ct rfl _ _ rb 28 #[(.slice none 0 0), (.slice none 0 0)] (0, 0) _ rfl p2 Try.underlying28 rfl (by kernel_rfl)) rfl ?_
        rw [← HE1.out.1, ← HE1.out.2.1, ← HE1.out.2.2]
        exact ⟨_, _, rfl, Kd.R_nil _ _ _ _ _, Kd.S_nil _ _ _ _ _, (HBB.out.setCell HLO.out.2.2.2.1 _).setCell HLO.out.2.2.2.1 _⟩
      | true =>
        obtain ⟨q, hq⟩ : ∃ q, q = ro.length := ⟨_, rfl⟩
        by_cases c3 : (ro.length : Int) ≤ most
        · have HE1 := Aside0.mk (show l1 = r1 ∧ ro = r2 ∧ 0 = r3 by rw [if_pos ⟨rfl, c3⟩] at hHH; simpa using hHH)
          have hd3 : decide ((q : Int) > most) = false := decide_eq_false (by omega)
          have HQ := Aside0.mk hq
          clear hHH c3 hq
          go_wp2_with (go_at_call 43; refine HALL.out.mono ?_; rintro e w5 ⟨rfl, rv', ho⟩; obtain ⟨Ar, cr, er⟩ := Kd.S_slice ho.hr; subst er; rw [← HQ.out] at ho; have HO5 := Aside0.mk ho; have HBX := Aside0.mk ho.hb; have HLO := Aside0.mk ho.lo; have HBB := Aside0.mk ho.bel; have hcr0 : w5.cell? ⟨rb, 0, none⟩ = some (.slice none 0 0) := (blk_cell ho.hb 0).trans rfl; have hcr1 : w5.cell? ⟨rb, 1, none⟩ = some (.slice none 0 0) := (blk_cell ho.hb 1).trans rfl; have hfr0 := blk_frozen ho.hb 0; have hfr1 := blk_frozen ho.hb 1; have hco0 : w5.cell? ⟨so, 0, none⟩ = some (.slice A2 m c2) := (blk_cell ho.ho 0).trans rfl; have hco1 : w5.cell? ⟨so, 1, none⟩ = some (.slice Ar q cr) := (blk_cell ho.ho 1).trans rfl; have hcm : w5.cell? ⟨sm, 0, none⟩ = some (.int .i64 most) := (blk_cell ho.hm 0).trans rfl; clear ho)
          (try simp only [Exit.inBlock, Exit.then])
          have p1 := blk_put (cs' := #[(.slice A2 m c2), .slice none 0 0]) HBX.out 0 (.slice A2 m c2) rfl
          have p2 := blk_put (cs' := #[(.slice A2 m c2), (.slice Ar q cr)]) p1 1 (.slice Ar q cr) rfl
          refine bodyPost_ret (results_ct rfl _ _ rb 28 #[(.slice A2 m c2), (.slice Ar q cr)] (0, 0) _ rfl p2 Try.underlying28 rfl (by kernel_rfl)) rfl ?_
          rw [← HE1.out.1, ← HE1.out.2.1, ← HE1.out.2.2]
          exact ⟨_, _, rfl, Kd.R_mono (Kd.R_set (Kd.R_set HO5.out.hs HBX.out (by decide) _ _) p1 (by decide) _ _) (fun _ _ => trivial), Kd.S_mono (Kd.S_set (Kd.S_set HO5.out.hr HBX.out (by decide) _ _) p1 (by decide) _ _) (fun k hk e => hk (HO5.out.xs k e.symm)), (HBB.out.setCell HLO.out.2.2.2.1 _).setCell HLO.out.2.2.2.1 _⟩
        · have HE1 := Aside0.mk (show [] = r1 ∧ [] = r2 ∧ 9 = r3 by rw [if_neg (fun e => c3 e.2)] at hHH; simpa using hHH)
          have hd3 : decide ((q : Int) > most) = true := decide_eq_true (by omega)
          have HQ := Aside0.mk hq
          clear hHH c3 hq
          go_wp2_with (go_at_call 43; refine HALL.out.mono ?_; rintro e w5 ⟨rfl, rv', ho⟩; obtain ⟨Ar, cr, er⟩ := Kd.S_slice ho.hr; subst er; rw [← HQ.out] at ho; have HO5 := Aside0.mk ho; have HBX := Aside0.mk ho.hb; have HLO := Aside0.mk ho.lo; have HBB := Aside0.mk ho.bel; have hcr0 : w5.cell? ⟨rb, 0, none⟩ = some (.slice none 0 0) := (blk_cell ho.hb 0).trans rfl; have hcr1 : w5.cell? ⟨rb, 1, none⟩ = some (.slice none 0 0) := (blk_cell ho.hb 1).trans rfl; have hfr0 := blk_frozen ho.hb 0; have hfr1 := blk_frozen ho.hb 1; have hco0 : w5.cell? ⟨so, 0, none⟩ = some (.slice A2 m c2) := (blk_cell ho.ho 0).trans rfl; have hco1 : w5.cell? ⟨so, 1, none⟩ = some (.slice Ar q cr) := (blk_cell ho.ho 1).trans rfl; have hcm : w5.cell? ⟨sm, 0, none⟩ = some (.int .i64 most) := (blk_cell ho.hm 0).trans rfl; clear ho)
          (try simp only [Exit.inBlock, Exit.then])
          have p1 := blk_put (cs' := #[(.slice none 0 0), .slice none 0 0]) HBX.out 0 (.slice none 0 0) rfl
          have p2 := blk_put (cs' := #[(.slice none 0 0), (.slice none 0 0)]) p1 1 (.slice none 0 0) rfl
          refine bodyPost_ret (results_ct rfl _ _ rb 28 #[(.slice none 0 0), (.slice none 0 0)] (0, 0) _ rfl p2 Try.underlying28 rfl (by kernel_rfl)) rfl ?_
          rw [← HE1.out.1, ← HE1.out.2.1, ← HE1.out.2.2]
          exact ⟨_, _, rfl, Kd.R_nil _ _ _ _ _, Kd.S_nil _ _ _ _ _, (HBB.out.setCell HLO.out.2.2.2.1 _).setCell HLO.out.2.2.2.1 _⟩
end

end Go.Proofs.Ytlckejeglchgmaa.Pr
