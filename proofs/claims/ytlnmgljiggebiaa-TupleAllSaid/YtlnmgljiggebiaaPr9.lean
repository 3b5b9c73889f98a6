-- Printed by a program of this session's own (wip/tools/pp.py) over the kit's print.py; Lean checks it.
import Derived.Test.YtlnmgljiggebiaaPr0
import Derived.Test.YtlnmgljiggebiaaPr1
import Derived.Test.YtlnmgljiggebiaaPr2
import Derived.Test.YtlnmgljiggebiaaPr4
import Derived.Test.YtlnmgljiggebiaaPr5
import Derived.Test.YtlnmgljiggebiaaPr8
namespace Go.Proofs.Ytlnmgljiggebiaa.Pr
open Go.RowKit Go.Proofs.YtlnmgljiggebiaaW.PrintWords Go.Proofs.YtlnmgljiggebiaaW.PrintLast Go.Proofs.YtlnmgljiggebiaaW.PrintMore
attribute [local go_sem] max2_int min2_int max_two min_two max_three min_three max_four min_four   -- for this text's walks alone
set_option linter.unusedVariables false
set_option linter.unusedSimpArgs false

-- given by hand
/-! ### tuple_Sort: function 14 -/
-- needs slices_SortFunc_int_int slices_CompactFunc_int_int slices_Clone_int_int
def dedupP : Option (List Int) → List (List Int) → List (List Int)
  | _, [] => []
  | p, y :: l => if p == some y then dedupP (some y) l else y :: dedupP (some y) l
def leT (a b : List Int) : Bool := decide (cmpT a b ≤ 0)
def insT (x : List Int) : List (List Int) → List (List Int)
  | [] => [x]
  | y :: l => if leT x y = true then x :: y :: l else y :: insT x l
def isoT : List (List Int) → List (List Int)
  | [] => []
  | x :: l => insT x (isoT l)
def sortT (l : List (List Int)) : List (List Int) := dedupP none (isoT l)
def sortOk (l : List (List Int)) : Prop := l.length < 5864062014805 ∧ ∀ x ∈ l, x.length < 17592186044416
instance (l : List (List Int)) : Decidable (sortOk l) := by unfold sortOk; exact inferInstance
def tuple_Sort.f (l0 : List (List Int)) : Option (List (List Int)) := if sortOk l0 then some (sortT l0) else none
theorem dedupP_snoc : ∀ (l : List (List Int)) (p : Option (List Int)) (y : List Int), dedupP p (l ++ [y]) = dedupP p l ++ (if (l.getLast?.or p) == some y then [] else [y])
  | [], p, y => by
    simp only [List.nil_append, dedupP, List.getLast?_nil, Option.none_or]
    by_cases h : (p == some y) = true <;> simp only [h] <;> rfl
  | x :: l, p, y => by
    have ih := dedupP_snoc l (some x) y
    have e : (x :: l).getLast?.or p = l.getLast?.or (some x) := by
      cases l with
      | nil => rfl
      | cons z m => simp [List.getLast?_cons]
    rw [List.cons_append, dedupP, dedupP, e, ih]
    split
    · rfl
    · rfl
theorem cpt_dedup (ct : Nat → List Int) (d : Array Nat) : ∀ m, m ≤ d.size → (cptE ct d m).map ct = dedupP none ((d.toList.map ct).take m) := by
  intro m
  induction m with
  | zero => intro _; rfl
  | succ m ih =>
    intro h
    have hm : m < (d.toList.map ct).length := by simp; omega
    have hg : (d.toList.map ct)[m] = ct d[m]! := by simp [getElem!_pos, show m < d.size by omega]
    rw [cptE_succ, List.map_append, ih (by omega), List.take_succ_eq_append_getElem hm, dedupP_snoc, hg]
    congr 1
    by_cases hz : m = 0
    · subst hz
      rfl
    · have hl : ((d.toList.map ct).take m).getLast? = some (ct d[m - 1]!) := by
        rw [List.getLast?_eq_getElem?, List.length_take, Nat.min_eq_left (by omega), List.getElem?_take_of_lt (by omega), List.getElem?_map, Array.getElem?_toList]
        simp [getElem!_pos, show m - 1 < d.size by omega]
      rw [hl]
      have hk : keepE ct d m = !(ct d[m]! == ct d[m - 1]!) := by
        unfold keepE
        rw [show (m == 0) = false from beq_false_of_ne hz, Bool.false_or]
      rw [hk]
      by_cases e : ct d[m]! = ct d[m - 1]!
      · rw [e]; simp
      · have e2 : ¬ ct d[m - 1]! = ct d[m]! := fun h => e h.symm
        simp [e, e2]
theorem leT_total (a b : List Int) : (leT a b || leT b a) = true := by
  unfold leT
  rw [cmpT_swap a b]
  by_cases h : cmpT a b ≤ 0
  · simp [h]
  · have : -cmpT a b ≤ 0 := by omega
    simp [this]
theorem leT_trans (a b c : List Int) (h1 : leT a b = true) (h2 : leT b c = true) : leT a c = true := by
  unfold leT at *
  simp only [decide_eq_true_eq] at *
  exact cmpT_trans a b c h1 h2
theorem insT_perm (x : List Int) : ∀ l, (insT x l).Perm (x :: l)
  | [] => List.Perm.refl _
  | y :: l => by
    unfold insT
    split
    · exact List.Perm.refl _
    · exact ((insT_perm x l).cons y).trans (List.Perm.swap x y l)
theorem isoT_perm : ∀ l, (isoT l).Perm l
  | [] => List.Perm.refl _
  | x :: l => (insT_perm x (isoT l)).trans ((isoT_perm l).cons x)
theorem insT_sorted (x : List Int) : ∀ l, l.Pairwise (fun a b => leT a b = true) → (insT x l).Pairwise (fun a b => leT a b = true)
  | [], _ => List.pairwise_singleton _ _
  | y :: l, h => by
    obtain ⟨h1, h2⟩ := List.pairwise_cons.1 h
    unfold insT
    split
    · rename_i hxy
      refine List.pairwise_cons.2 ⟨fun z hz => ?_, h⟩
      rcases List.mem_cons.1 hz with rfl | hz
      · exact hxy
      · exact leT_trans x y z hxy (h1 z hz)
    · rename_i hxy
      refine List.pairwise_cons.2 ⟨fun z hz => ?_, insT_sorted x l h2⟩
      rcases List.mem_cons.1 ((insT_perm x l).mem_iff.1 hz) with rfl | hz
      · have := leT_total z y
        rw [Bool.or_eq_true] at this
        rcases this with h | h
        · exact absurd h hxy
        · exact h
      · exact h1 z hz
theorem isoT_sorted : ∀ l, (isoT l).Pairwise (fun a b => leT a b = true)
  | [] => List.Pairwise.nil
  | x :: l => insT_sorted x _ (isoT_sorted l)
section
open Go.Sort Go.Shelf Go.Lib
theorem sort_tells (l : List (List Int)) (d' : Array Nat) (hp : PermIn 0 l.length (Array.range l.length) d') (hs : SortedIn (ltOf (fun i j => cmpT (l.getD i []) (l.getD j []))) 0 l.length d') : (cptE (fun i => l.getD i []) d' l.length).map (fun i => l.getD i []) = sortT l := by
  have hsz : d'.size = l.length := by rw [hp.1]; simp
  rw [cpt_dedup _ d' _ (by omega), List.take_of_length_le (by simp; omega)]
  unfold sortT
  congr 1
  have hperm : (d'.toList.map (fun i => l.getD i [])).Perm l := by
    have h1 := hp.2.2
    rw [show d'.extract 0 l.length = d' by rw [← hsz]; simp, show (Array.range l.length).extract 0 l.length = Array.range l.length by simp] at h1
    have h2 := h1.map (fun i => l.getD i [])
    have h3 : (Array.range l.length).toList.map (fun i => l.getD i []) = l := by
      apply List.ext_getElem
      · simp
      · intro i a b
        simp [List.getD_eq_getElem?_getD, List.getElem?_eq_getElem b]
    rwa [h3] at h2
  refine List.Perm.eq_of_pairwise (le := fun a b => leT a b = true) (fun a b _ _ h1 h2 => ?_) ?_ (isoT_sorted l) (hperm.trans (isoT_perm l).symm)
  · unfold leT at h1 h2
    rw [cmpT_swap a b] at h2
    simp only [decide_eq_true_eq] at h1 h2
    exact cmpT_eq a b (by omega)
  · rw [List.pairwise_map, List.pairwise_iff_getElem]
    intro i j hi hj hij
    have h1 := hs i j (Nat.zero_le _) hij (by rw [← hsz]; simpa using hj)
    unfold ltOf at h1
    have ei : d'[i]! = d'.toList[i] := by simp [getElem!_pos, show i < d'.size by simpa using hi]
    have ej : d'[j]! = d'.toList[j] := by simp [getElem!_pos, show j < d'.size by simpa using hj]
    simp only [decide_eq_false_iff_not] at h1
    rw [ei, ej, cmpT_swap] at h1
    unfold leT
    exact decide_eq_true (by omega)
end
section
open Go.Sort Go.Shelf Go.Lib
theorem put_block {w : World} {g q : Nat} {cur : Array Value} {e : TypeId} {fr : Nat × Nat} (enc : Nat → Value) (d : Array Nat) (hb : w.heap[g]? = some (.cells cur e fr)) : (putRow enc (Sort.ahead w q) g 0 d).heap[g]? = some (.cells (putCells enc 0 d cur) e fr) := by
  simp [putRow, mapBlock, Sort.ahead, Array.getElem?_modify, hb, onCells]
theorem sort_block {w : World} {g q : Nat} {os : Array Obj} {cur : Array Value} {e : TypeId} {fr : Nat × Nat} (enc : Nat → Value) (d : Array Nat) (hb : w.heap[g]? = some (.cells cur e fr)) : (sortWorld enc w g 0 q d os).heap[g]? = some (.cells (putCells enc 0 d cur) e fr) := by
  unfold sortWorld
  rw [heap_grow_old _ _ (by have := blk_lt hb; simpa [putRow, mapBlock, Sort.ahead] using this)]
  exact put_block enc d hb
theorem sort_below (enc : Nat → Value) (w : World) (g q : Nat) (d : Array Nat) (os : Array Obj) {B : Nat} (hB : B ≤ w.heap.size) (hg : B ≤ g) : Go.RowKit.Below B w (sortWorld enc w g 0 q d os) := by
  refine ⟨rfl, rfl, rfl, ?_, fun i hi => sort_heap enc w g q d os i (by omega) (by omega)⟩
  unfold sortWorld
  simp [grow, putRow, mapBlock, Sort.ahead]
theorem put_below (enc : Nat → Value) (w : World) (g q : Nat) (d : Array Nat) {B : Nat} (hB : B ≤ w.heap.size) (hg : B ≤ g) : Go.RowKit.Below B w (putRow enc (Sort.ahead w q) g 0 d) := by
  refine ⟨rfl, rfl, rfl, ?_, fun i hi => put_heap enc w q g d i (by omega)⟩
  simp [putRow, mapBlock, Sort.ahead]
theorem take_put (enc : Nat → Value) (cur : Array Value) (dk : Array Nat) (c : List Nat) (h : c.length ≤ dk.size) (h2 : dk.size ≤ cur.size) (hc : ∀ j, j < c.length → c[j]? = some dk[j]!) : (putCells enc 0 dk cur).toList.take c.length = c.map enc := by
  apply List.ext_getElem?
  intro j
  by_cases hj : j < c.length
  · rw [List.getElem?_take_of_lt hj, Array.getElem?_toList, List.getElem?_map, hc j hj]
    simp [putCells, show j < cur.size by omega, show j < dk.size by omega]
  · rw [List.getElem?_take_eq_none (by omega), List.getElem?_eq_none (by simp; omega)]
def ET (f : Nat → Nat) (i : Nat) (W : World) (base g : Nat) (x : List Int) (v : Value) : Prop := (Kd.slice 3 (Kd.int .i64)).M W base (fun k => k ≠ g ∧ f k = i) x [v]
theorem ET_move {f : Nat → Nat} {i : Nat} {W W1 : World} {base g : Nat} {x : List Int} {v : Value} (h : ET f i W base g x v) (hm : ∀ k, k ≠ g → k < W.heap.size → W1.heap[k]? = W.heap[k]?) : ET f i W1 base g x v := Kd.M_step h (fun k hk hl => hm k hk.1 hl)
theorem ET_EL {f : Nat → Nat} {i : Nat} {W : World} {base g : Nat} {x : List Int} {v : Value} (h : ET f i W base g x v) : EL W base g x v := (Kd.slice 3 (Kd.int .i64)).M_mono (fun k hk => hk.1) h
theorem ET_next {f f1 : Nat → Nat} {i : Nat} {W W1 : World} {base g : Nat} {x : List Int} {v : Value} (h : ET f i W base g x v) (hf : ∀ k, k < W.heap.size → f1 k = f k) (hm : ∀ k, k ≠ g → k < W.heap.size → W1.heap[k]? = W.heap[k]?) : ET f1 i W1 base g x v :=
  Kd.M_step ((Kd.slice 3 (Kd.int .i64)).M_mono (fun k hk => ⟨hk.1.1, (hf k hk.2.2.1).trans hk.1.2⟩) ((Kd.slice 3 (Kd.int .i64)).M_bound h)) (fun k hk hl => hm k hk.1 hl)
theorem cpt_nodup (ct : Nat → List Int) (d : Array Nat) (n : Nat) (hp : PermIn 0 n (Array.range n) d) : (cptE ct d n).Nodup := by
  have hsz : d.size = n := by rw [hp.1]; simp
  have hperm : d.toList.Perm (List.range n) := by
    have h1 := hp.2.2
    rw [show d.extract 0 n = d by rw [← hsz]; simp, show (Array.range n).extract 0 n = Array.range n by simp] at h1
    simpa using h1
  have hnd : d.toList.Nodup := hperm.nodup_iff.2 List.nodup_range
  unfold cptE
  refine List.Pairwise.map _ (R := fun i j => i < j ∧ j < n) (fun i j hij => ?_) (List.Pairwise.imp_of_mem (fun {a b} ha hb h => ⟨h, by have := (List.mem_filter.1 hb).1; simpa using this⟩) (List.Pairwise.filter _ (List.pairwise_lt_range (n := n))))
  have h1 := List.pairwise_iff_getElem.1 hnd i j (by simp; omega) (by simp; omega) hij.1
  simpa [getElem!_pos, show i < d.size by omega, show j < d.size by omega] using h1
/-- the row that is handed back -/
theorem sort_result (base g n cap : Nat) (enc : Nat → Value) (ct : Nat → List Int) (W : World) (cur : Array Value) (dk : Array Nat) (c : List Nat) (hbg : base ≤ g) (hb : W.heap[g]? = some (.cells (putCells enc 0 dk cur) 23 (0, 0))) (hcur : cur.size = n) (hdk : dk.size = n) (hn : n < 5864062014805) (hcl : c.length ≤ n) (hc : ∀ j, j < c.length → c[j]? = some dk[j]!) (hnd : c.Nodup) (f : Nat → Nat) (hE : ∀ i, ET f i W base g (ct i) (enc i)) :
    (Kd.S (Kd.slice 3 (Kd.int .i64)) 23 W base (fun _ => True) (.slice (some ⟨g, 0, none⟩) c.length n) (c.map ct)) := by
  refine ⟨fun k => c.idxOf (f k), fun _ _ => trivial, c.map enc, ⟨by simp [Kd.slice, Kd.tag], .inr ⟨g, n, _, by simp, hbg, hb, by simpa using hcl, by simp only [maxLen]; omega, by simp [putCells, hcur, Kd.slice, Kd.tag], ?_⟩⟩, by simp [Kd.slice, Kd.tag], fun j p hj => ?_⟩
  · have := take_put enc cur dk c (by omega) (by omega) hc
    simpa [Kd.slice, Kd.tag] using this
  · rw [List.getElem?_zipIdx, Nat.zero_add, List.getElem?_map] at hj
    obtain ⟨x, hx, rfl⟩ := Option.map_eq_some_iff.1 hj
    obtain ⟨i, hi, rfl⟩ := Option.map_eq_some_iff.1 hx
    obtain ⟨hjl, hji⟩ := List.getElem?_eq_some_iff.1 hi
    have e : ((c.map enc).drop (j * (Kd.slice 3 (Kd.int .i64)).sz)).take (Kd.slice 3 (Kd.int .i64)).sz = [enc i] := by
      show ((c.map enc).drop (j * 1)).take 1 = [enc i]
      rw [Nat.mul_one, List.drop_eq_getElem_cons (by simpa using hjl), List.take_succ_cons, List.take_zero]
      congr 1
      rw [List.getElem_map, hji]
    show (Kd.slice 3 (Kd.int .i64)).M W base _ (ct i) (((c.map enc).drop (j * (Kd.slice 3 (Kd.int .i64)).sz)).take (Kd.slice 3 (Kd.int .i64)).sz)
    rw [e]
    refine (Kd.slice 3 (Kd.int .i64)).M_mono (fun k hk => ⟨⟨trivial, by simp [Value.ownBlock]; exact hk.1⟩, ?_⟩) (hE i)
    show c.idxOf (f k) = j
    rw [hk.2, ← hji]
    exact hnd.idxOf_getElem j hjl
end
section
open Go.Sort Go.Shelf Go.Lib
set_option maxHeartbeats 8000000 in
set_option maxRecDepth 100000 in
theorem tuple_Sort.calls (A0 : Option Addr) (c0 : Nat) (l0 : List (List Int)) (r : List (List Int)) (w : World) (hr0 : Kd.C (Kd.slice 3 (Kd.int .i64)) w A0 l0.length l0) (hc0 : l0.length ≤ c0) (h : tuple_Sort.f l0 = some r) :
    Calls Try.prog 14 #[.slice A0 l0.length c0] w fun e w' => ∃ v0_ : Value, e = .returned (v0_) ∧ Kd.S (Kd.slice 3 (Kd.int .i64)) 23 w' w.heap.size (fun _ => True) v0_ r ∧ Go.RowKit.Below w.heap.size w w' := by
  unfold tuple_Sort.f at h
  split at h
  case isFalse => cases h
  rename_i hok
  have HE := Aside0.mk (Option.some.inj h)
  have HLEN := Aside0.mk hok.1
  have HROW := Aside0.mk hok.2
  have HR0 := Aside0.mk hr0
  obtain ⟨n, hn⟩ : ∃ n, n = l0.length := ⟨_, rfl⟩
  have HN := Aside0.mk hn
  have hnb : n < 5864062014805 := by rw [hn]; exact hok.1
  rw [← hn] at ⊢
  have hmk := print_make_of (P := Try.prog) 22 23 (.slice none 0 0) 24 Try.underlying22 info23 rfl (by decide) n (by omega)
  clear hr0 hc0 h hok hn
  go_enter Try.func14, Try.ntmps14
  go_wp2
  clear hmk
  go_loopg [11] n (fun gg s11 wr => ∃ (kk : Nat) (cs : Array Value), s11 = .int .i64 kk ∧ kk ≤ n ∧ Aside0 (n - kk ≤ gg) ∧ Aside0 (Go.RowKit.Below w.heap.size w wr) ∧ Aside0 (w.heap.size < wr.heap.size) ∧ Aside0 (wr.heap[w.heap.size]? = some (.cells cs 23 (0, 0))) ∧ Aside0 (cs.size = n) ∧ Aside0 (∃ f : Nat → Nat, ∀ j, j < kk → ET f j wr w.heap.size w.heap.size (l0.getD j []) (cs.getD j (.slice none 0 0))))
  case atStart => exact ⟨0, _, rfl, Nat.zero_le _, ⟨Nat.le_refl _⟩, ⟨below_alloc (Go.RowKit.Below.refl _ _) _⟩, ⟨by simp⟩, ⟨blk_new _ _⟩, ⟨by simp [size_madeCells]⟩, ⟨fun _ => 0, fun j hj => by omega⟩⟩
  case round =>
    obtain ⟨kk, cs, rfl, hkk, HG, HB, HZ, HX, HS, HEL⟩ := hrel
    by_cases hlt : kk < n
    · have hltz : (kk : Int) < (n : Int) := by omega
      obtain ⟨ad, v, x, rfl, hx, hxm, hk, hcell⟩ := elem_one (d := Kd.slice 3 (Kd.int .i64)) rfl HR0.out HB.out kk (by rw [← HN.out]; exact hlt)
      obtain ⟨Ax, cx, e, hlx, hCx⟩ := hk
      have HXL := Aside0.mk (HROW.out x hxm)
      have hcl := slices_Clone_int_int.calls Ax cx x x wr (Kd.C_below hCx HB.out) hlx (by unfold slices_Clone_int_int.f; rw [if_pos HXL.out])
      obtain ⟨q, hq⟩ : ∃ q, x.length = q := ⟨_, rfl⟩
      rw [hq] at e hcl
      obtain rfl : v = .slice Ax q cx := by injection e
      have HCL := Aside0.mk hcl
      have HXD := Aside0.mk (show l0.getD kk [] = x by rw [List.getD_eq_getElem?_getD, hx]; rfl)
      have HQ := Aside0.mk hq
      clear e hlx hCx hx hxm hq hcl
      go_wp2_with (go_at_call 34; refine HCL.out.mono ?_; rintro e w1 ⟨v0, rfl, ho, hb⟩; have HO := Aside0.mk ho; obtain ⟨Av, cv, hv, _, _⟩ := Kd.R_reads ho; (rw [HQ.out] at hv); subst hv; have HB1 := Aside0.mk (below_then HB.out (Nat.le_of_lt HZ.out) hb); have HX1 := Aside0.mk (blk_below HX.out hb); have HZ1 := Aside0.mk (Nat.lt_of_lt_of_le HZ.out hb.size); have HB0 := Aside0.mk hb; have hcc : w1.cell? ⟨w.heap.size, kk, none⟩ = some (cs[kk]'(by rw [HS.out]; exact hlt)) := (blk_cell HX1.out kk).trans (Array.getElem?_eq_getElem (by rw [HS.out]; exact hlt)); have hff := blk_frozen HX1.out kk; clear ho hb)
      go_roundg (n - (kk + 1))
      case measure => have := HG.out; omega
      case rel =>
        refine ⟨kk + 1, cs.setIfInBounds kk (.slice Av q cv), by go_num, by omega, ⟨Nat.le_refl _⟩, ⟨HB1.out.setCell (Nat.le_refl _) _⟩, ⟨by simpa using HZ1.out⟩, ⟨blk_set HX1.out kk _⟩, ⟨by simpa using HS.out⟩, ⟨?_⟩⟩
        obtain ⟨f, hf⟩ := HEL.out
        refine ⟨fun k => if k < wr.heap.size then f k else kk, fun j hj => ?_⟩
        have hmv : ∀ k, k ≠ w.heap.size → (w1.setCell ⟨w.heap.size, kk, none⟩ (.slice Av q cv)).heap[k]? = w1.heap[k]? := fun k hk => Go.RowKit.Below.heap_setCell w1 ⟨w.heap.size, kk, none⟩ _ k hk
        by_cases e : j = kk
        · subst e
          rw [HXD.out]
          have hsz : j < cs.size := by rw [HS.out]; exact hlt
          have hg : (cs.setIfInBounds j (.slice Av q cv)).getD j (.slice none 0 0) = .slice Av q cv := by simp [Array.getD_eq_getD_getElem?, hsz]
          rw [hg]
          have h1 := Kd.R_mono (ok' := fun k => k ≠ w.heap.size ∧ (if k < wr.heap.size then f k else j) = j) (Kd.R_bound HO.out) (fun k hk => ⟨by have := hk.2.1; have := HZ.out; omega, if_neg (by have := hk.2.1; omega)⟩)
          exact ET_move (f := fun k => if k < wr.heap.size then f k else j) (Kd.M_row (Kd.R_lower h1 (Nat.le_of_lt HZ.out))) (fun k hk _ => hmv k hk)
        · have hg : (cs.setIfInBounds kk (.slice Av q cv)).getD j (.slice none 0 0) = cs.getD j (.slice none 0 0) := by
            rw [Array.getD_eq_getD_getElem?, Array.getD_eq_getD_getElem?, Array.getElem?_setIfInBounds, if_neg (fun h => e h.symm)]
          rw [hg]
          exact ET_next (hf j (by omega)) (fun k hk => if_pos hk) (fun k hk hl => (hmv k hk).trans (HB0.out.block k hl))
    · have hltz : ¬ (kk : Int) < (n : Int) := by omega
      obtain rfl : kk = n := by omega
      obtain ⟨enc, henc⟩ : ∃ enc : Nat → Value, enc = fun i => if i < kk then cs.getD i (.slice none 0 0) else .slice none 0 0 := ⟨_, rfl⟩
      obtain ⟨ct, hct⟩ : ∃ ct : Nat → List Int, ct = fun i => l0.getD i [] := ⟨_, rfl⟩
      have HCT := Aside0.mk hct
      obtain ⟨f, hf⟩ := HEL.out
      have hT : ∀ i, ET f i wr w.heap.size w.heap.size (ct i) (enc i) := fun i => by
        rw [henc, hct]
        by_cases hi : i < kk
        · simp only [if_pos hi]
          exact hf i hi
        · simp only [if_neg hi]
          rw [show l0.getD i [] = [] by rw [List.getD_eq_getElem?_getD, List.getElem?_eq_none (by rw [← HN.out]; omega)]; rfl]
          exact ⟨_, rfl, Kd.R_nil _ _ _ _ _⟩
      have hE : ∀ i, EL wr w.heap.size w.heap.size (ct i) (enc i) := fun i => ET_EL (hT i)
      have HEE := Aside0.mk hE
      have HTT := Aside0.mk hT
      have hds : (Array.range kk).size = kk := by simp
      have hH : Holds enc wr w.heap.size 0 (Array.range kk) := fun j hj => by
        rw [hds] at hj
        refine ⟨?_, by rw [Nat.zero_add]; exact blk_frozen HX.out j⟩
        rw [Nat.zero_add, blk_cell HX.out j, show (Array.range kk)[j]! = j by simp [getElem!_pos, hj], henc]
        simp only [if_pos hj]
        rw [Array.getD_eq_getD_getElem?, Array.getElem?_eq_getElem (by rw [HS.out]; exact hj)]
        rfl
      have HHH := Aside0.mk hH
      have HSO := Aside0.mk (slices_SortFunc_int_int.callsC enc ct w.heap.size kk w.heap.size (Array.range kk) wr HZ.out (by rw [hds]; omega) hH hE)
      rw [hds] at HSO
      have HZN := Aside0.mk (show enc kk = .slice none 0 0 by rw [henc]; simp)
      have HCO := Aside0.mk (fun (d' : Array Nat) (q : Nat) (os : Array Obj) (hd : d'.size = kk) => by
        have h1 : (sortWorld enc wr w.heap.size 0 q d' os).heap[w.heap.size]? = some (.cells (putCells enc 0 d' cs) 23 (0, 0)) := sort_block enc d' HX.out
        have h2 := slices_CompactFunc_int_int.callsC enc ct w.heap.size kk w.heap.size d' (sortWorld enc wr w.heap.size 0 q d' os) (blk_lt h1) (by rw [hd]; omega) (by rw [hd]; exact Nat.le_refl _)
          (SW.holds (W := sortWorld enc wr w.heap.size 0 q d' os) ⟨q, os, rfl⟩ HZ.out HHH.out (by rw [hd]; simp))
          (fun i => EL_move (HEE.out i) (fun k hk hl => sort_heap enc wr w.heap.size q d' os k hk hl)) kk HZN.out
        rw [hd] at h2
        exact h2)
      clear henc hct hE hH hds hT hf
      go_wp2_with (first | (go_at_call 35; refine HSO.out.mono ?_; rintro e w1 ⟨rfl, d', q, os, hp, hs, rfl⟩; have HP := Aside0.mk hp; have HSS := Aside0.mk hs; have HDS := Aside0.mk (show d'.size = kk by have := hp.1; simpa using this); clear hp hs) | (go_at_call 36; refine (HCO.out d' q os HDS.out).mono ?_; rintro e w2 ⟨rfl, q2, dk, hk1, hk2, rfl⟩; have HK1 := Aside0.mk hk1; have HK2 := Aside0.mk hk2; clear hk1 hk2))
      go_ret
      refine ⟨_, rfl, ?_, ?_⟩
      · have hres := sort_result w.heap.size w.heap.size kk kk enc ct (putRow enc (Sort.ahead (sortWorld enc wr w.heap.size 0 q d' os) q2) w.heap.size 0 dk) (putCells enc 0 d' cs) dk (cptE ct d' kk) (Nat.le_refl _)
          (put_block enc dk (sort_block enc d' HX.out)) (by simp [putCells, HS.out]) HK1.out hnb
          (by unfold cptE; rw [List.length_map]; exact Nat.le_trans (List.length_filter_le _ _) (by simp)) HK2.out
          (by have h9 := HP.out; exact cpt_nodup ct d' kk h9) f
          (fun i => ET_move (ET_move (HTT.out i) (fun k hk hl => sort_heap enc wr w.heap.size q d' os k hk hl)) (fun k hk _ => put_heap enc (sortWorld enc wr w.heap.size 0 q d' os) q2 w.heap.size dk k hk))
        have hrr : (cptE ct d' kk).map ct = r := by
          rw [← HE.out, HCT.out]
          have h1 := HP.out
          have h2 := HSS.out
          rw [HCT.out] at h2
          rw [HN.out] at h1 h2 ⊢
          exact sort_tells l0 d' h1 h2
        rw [hrr] at hres
        exact hres
      · have hb1 := sort_below enc wr w.heap.size q d' os (Nat.le_of_lt HZ.out) (Nat.le_refl _)
        exact (HB.out.trans hb1).trans (put_below enc _ w.heap.size q2 dk (Nat.le_trans (Nat.le_of_lt HZ.out) hb1.size) (Nat.le_refl _))
end

end Go.Proofs.Ytlnmgljiggebiaa.Pr
