-- Printed by a program of this session's own (wip/tools/pp.py) over the kit's print.py; Lean checks it.
import Derived.Sort.WalkA
import Derived.Lib.SlicesCompact
import Derived.Test.YtlnmgljiggebiaaPr0
import Derived.Test.YtlnmgljiggebiaaPr1
import Derived.Test.YtlnmgljiggebiaaPr3
namespace Go.Proofs.Ytlnmgljiggebiaa.Pr
open Go.RowKit Go.Proofs.YtlnmgljiggebiaaW.PrintWords Go.Proofs.YtlnmgljiggebiaaW.PrintLast Go.Proofs.YtlnmgljiggebiaaW.PrintMore
attribute [local go_sem] max2_int min2_int max_two min_two max_three min_three max_four min_four   -- for this text's walks alone
set_option linter.unusedVariables false
set_option linter.unusedSimpArgs false

-- given by hand
/-! ### slices_CompactFunc_int_int: function 36 -/
-- IMPORT Derived.Lib.SlicesCompact
-- IMPORT Derived.Sort.WalkA
-- needs slices_Equal_int_int
theorem equal_loop (a b : List Int) (ha : a.length ≤ 9223372036854775807) (hl : a.length = b.length) : ∀ d i k : Nat, a.length = i + d → d < k → slices_Equal_int_int.l0 k a b (a.length : Int) (i : Int) = some (a.drop i == b.drop i) := by
  intro d
  induction d with
  | zero =>
    intro i k h hk
    obtain ⟨k, rfl⟩ : ∃ m, k = m + 1 := ⟨k - 1, by omega⟩
    simp only [slices_Equal_int_int.l0]
    rw [if_neg (by omega), List.drop_eq_nil_of_le (show a.length ≤ i by omega), List.drop_eq_nil_of_le (show b.length ≤ i by omega)]
    rfl
  | succ d ih =>
    intro i k h hk
    obtain ⟨k, rfl⟩ : ∃ m, k = m + 1 := ⟨k - 1, by omega⟩
    have hi : i < a.length := by omega
    have hj : i < b.length := by omega
    have ra : rd a (i : Int) = a[i] := rd_nat a i _ (List.getElem?_eq_getElem hi)
    have rb : rd b (i : Int) = b[i] := rd_nat b i _ (List.getElem?_eq_getElem hj)
    simp only [slices_Equal_int_int.l0]
    rw [if_pos (by omega), if_pos (by omega), if_pos (by omega), if_pos (by omega), ra, rb, List.drop_eq_getElem_cons hi, List.drop_eq_getElem_cons hj]
    by_cases c : a[i] = b[i]
    · rw [if_pos c, wrap_succ (by omega) (by omega), show ((i : Int) + 1) = ((i + 1 : Nat) : Int) from rfl, ih (i + 1) k (by omega) (by omega), c]
      show some _ = some ((b[i] == b[i]) && (a.drop (i + 1) == b.drop (i + 1)))
      rw [beq_self_eq_true, Bool.true_and]
    · rw [if_neg c]
      show some false = some ((a[i] == b[i]) && (a.drop (i + 1) == b.drop (i + 1)))
      rw [beq_false_of_ne c]
      rfl
theorem equal_tells (a b : List Int) (ha : a.length ≤ 9223372036854775807) : slices_Equal_int_int.f (a.length + 1) a b = some (a == b) := by
  unfold slices_Equal_int_int.f
  by_cases hl : a.length = b.length
  · rw [if_pos (by omega)]
    have := equal_loop a b ha hl a.length 0 (a.length + 1) (by omega) (by omega)
    simpa using this
  · rw [if_neg (by omega)]
    have : (a == b) = false := beq_false_of_ne (fun e => hl (by rw [e]))
    rw [this]
/-- an element of a row of rows: its head v reads as x, and goes on doing so while nothing but block g turns -/
def EL (W : World) (base g : Nat) (x : List Int) (v : Value) : Prop := (Kd.slice 3 (Kd.int .i64)).M W base (fun k => k ≠ g) x [v]
theorem EL_move {W W1 : World} {base g : Nat} {x : List Int} {v : Value} (h : EL W base g x v) (hm : ∀ k, k ≠ g → k < W.heap.size → W1.heap[k]? = W.heap[k]?) : EL W1 base g x v := Kd.M_step h hm
theorem EL_reads {W : World} {base g : Nat} {x : List Int} {v : Value} (h : EL W base g x v) : ∃ A c, v = .slice A x.length c ∧ x.length ≤ c ∧ (Kd.int .i64).C W A x.length x := by
  obtain ⟨A, c, e, h1, h2⟩ := (Kd.slice 3 (Kd.int .i64)).K_of_M h
  exact ⟨A, c, by injection e, h1, h2⟩
theorem equal_call {W : World} {base g : Nat} {x y : List Int} {u v : Value} (hx : EL W base g x u) (hy : EL W base g y v) (z : Bool) (hz : (x == y) = z) :
    Calls Try.prog 37 #[u, v] W fun e W' => e = .returned (.bool z) ∧ Drawn0 W W' := by
  subst hz
  obtain ⟨A, c, rfl, h1, h2⟩ := EL_reads hx
  obtain ⟨B, d, rfl, h3, h4⟩ := EL_reads hy
  exact slices_Equal_int_int.calls (x.length + 1) A c x B d y _ W h2 h1 h4 h3 (equal_tells x y h2.2.1)
section
open Go.Sort
theorem put_heap {α : Type} [Inhabited α] (enc : α → Value) (w : World) (q g : Nat) (d : Array α) (k : Nat) (h : k ≠ g) : (putRow enc (Sort.ahead w q) g 0 d).heap[k]? = w.heap[k]? := by
  have : g ≠ k := fun e => h e.symm
  simp [putRow, mapBlock, Sort.ahead, Array.getElem?_modify, this]
def keepE (ct : Nat → List Int) (d : Array Nat) (j : Nat) : Bool := j == 0 || !(ct d[j]! == ct d[j - 1]!)
def cptE (ct : Nat → List Int) (d : Array Nat) (m : Nat) : List Nat := ((List.range m).filter (keepE ct d)).map (d[·]!)
theorem cptE_succ (ct : Nat → List Int) (d : Array Nat) (m : Nat) : cptE ct d (m + 1) = cptE ct d m ++ (if keepE ct d m = true then [d[m]!] else []) := by
  unfold cptE
  rw [List.range_succ, List.filter_append, List.map_append]
  congr 1
  by_cases h : keepE ct d m = true <;> simp [h]
theorem cptE_all (ct : Nat → List Int) (d : Array Nat) (m : Nat) (h : ∀ j, j < m → keepE ct d j = true) : cptE ct d m = (List.range m).map (d[·]!) := by
  unfold cptE
  rw [List.filter_eq_self.2 (fun j hj => h j (List.mem_range.1 hj))]
theorem get_all (d : Array Nat) : (List.range d.size).map (d[·]!) = d.toList := by
  apply List.ext_getElem
  · simp
  · intro i h1 h2
    have hi : i < d.size := by simpa using h2
    simp [getElem!_pos, hi]
structure CInv (ct : Nat → List Int) (d : Array Nat) (m k : Nat) (dk : Array Nat) : Prop where
  size : dk.size = d.size
  len : (cptE ct d m).length = k
  lt : k < m
  low : ∀ j, j < k → (cptE ct d m)[j]? = some dk[j]!
  high : ∀ j, k ≤ j → dk[j]! = d[j]!
variable {ct : Nat → List Int}
theorem CInv.start {d : Array Nat} {k0 : Nat} (hall : ∀ j, j < k0 → keepE ct d j = true) (hdup : keepE ct d k0 = false) : CInv ct d (k0 + 1) k0 d where
  size := rfl
  len := by rw [cptE_succ, hdup, cptE_all ct d k0 hall]; simp
  lt := Nat.lt_succ_self _
  low := fun j hj => by rw [cptE_succ, hdup, cptE_all ct d k0 hall]; simp [hj]
  high := fun _ _ => rfl
theorem CInv.keep {d dk : Array Nat} {m k : Nat} (h : CInv ct d m k dk) (hm : m < d.size) (hk : keepE ct d m = true) : CInv ct d (m + 1) (k + 1) (dk.setIfInBounds k d[m]!) where
  size := by simp [h.size]
  len := by rw [cptE_succ, hk]; simp [h.len]
  lt := by have := h.lt; omega
  low := fun j hj => by
    rw [cptE_succ, hk, if_pos rfl]
    by_cases e : j = k
    · subst e
      rw [List.getElem?_append_right (by rw [h.len]; exact Nat.le_refl _), h.len, Nat.sub_self, getElem!_set_same dk j _ (by have := h.lt; have := h.size; omega)]
      rfl
    · rw [List.getElem?_append_left (by rw [h.len]; omega), h.low j (by omega), getElem!_set_other dk k j _ e]
  high := fun j hj => by rw [getElem!_set_other dk k j _ (by omega), h.high j (by omega)]
theorem CInv.skip {d dk : Array Nat} {m k : Nat} (h : CInv ct d m k dk) (hk : keepE ct d m = false) : CInv ct d (m + 1) k dk where
  size := h.size
  len := by rw [cptE_succ, hk]; simpa using h.len
  lt := by have := h.lt; omega
  low := fun j hj => by rw [cptE_succ, hk]; simpa using h.low j hj
  high := h.high
theorem keepE_lt {d : Array Nat} : ∀ j, j < 1 → keepE ct d j = true := by
  intro j hj
  have : j = 0 := by omega
  subst this
  rfl
theorem keepE_pos {d : Array Nat} {m : Nat} {z : Bool} (h : (ct d[m]! == ct d[m - 1]!) = z) (hz : z = false) : keepE ct d m = true := by simp [keepE, h, hz]
theorem keepE_neg {d : Array Nat} {m : Nat} (hm : 0 < m) (h : (ct d[m]! == ct d[m - 1]!) = true) : keepE ct d m = false := by
  have : (m == 0) = false := beq_false_of_ne (by omega)
  simp [keepE, h, this]
theorem store_put (enc : Nat → Value) {w W : World} {q g : Nat} {d : Array Nat} {i : Nat} (hi : i < d.size) (hW : W = putRow enc (Sort.ahead w q) g 0 d) (x : Nat) (u : Value) (hu : u = enc x) {m : Nat} : ∃ q', (W.drewN m).setCell ⟨g, i, none⟩ u = putRow enc (Sort.ahead w q') g 0 (d.setIfInBounds i x) := by
  subst hW hu
  refine ⟨q + m, ?_⟩
  rw [putRow_drewN]
  have := putRow_set enc (Sort.ahead w (q + m)) g 0 d i x hi
  rwa [Nat.zero_add] at this
theorem Drawn0.ahead {w W1 : World} (enc : Nat → Value) {q g : Nat} {d : Array Nat} (h : Drawn0 (putRow enc (Sort.ahead w q) g 0 d) W1) : ∃ q', W1 = putRow enc (Sort.ahead w q') g 0 d := by
  obtain ⟨m, rfl⟩ := h.out
  exact ⟨q + m, by rw [putRow_drewN]⟩
end
theorem compact_zero (w : World) : (zeroValue 23).run Try.prog w = .ok (.slice none 0 0) w := by kernel_rfl
section
open Go.Sort
set_option maxHeartbeats 8000000 in
set_option maxRecDepth 100000 in
theorem slices_CompactFunc_int_int.callsC (enc : Nat → Value) (ct : Nat → List Int) (g cap base : Nat) (d : Array Nat) (w : World) (hlt : g < w.heap.size) (hsz : d.size < 17592186044416) (hcap : d.size ≤ cap) (hH : Holds enc w g 0 d) (hE : ∀ i, EL w base g (ct i) (enc i)) (zn : Nat) (hzn : enc zn = .slice none 0 0) :
    Calls Try.prog 36 #[.slice (some ⟨g, 0, none⟩) d.size cap, .func (.func 37) #[] #[]] w fun e w' =>
      e = .returned (.slice (some ⟨g, 0, none⟩) (cptE ct d d.size).length cap) ∧ ∃ (q : Nat) (dk : Array Nat), dk.size = d.size ∧ (∀ j, j < (cptE ct d d.size).length → (cptE ct d d.size)[j]? = some dk[j]!) ∧ w' = putRow enc (Sort.ahead w q) g 0 dk := by
  have HH := Aside0.mk hH
  have HE := Aside0.mk hE
  have HZ := Aside0.mk hzn
  obtain ⟨n, hn⟩ : ∃ n, n = d.size := ⟨_, rfl⟩
  have HN := Aside0.mk hn
  have same : ∀ W : World, (∀ j, j < n → keepE ct d j = true) → Drawn0 w W → (cptE ct d n).length = n ∧ ∃ (q : Nat) (dk : Array Nat), dk.size = n ∧ (∀ j, j < n → (cptE ct d n)[j]? = some dk[j]!) ∧ W = putRow enc (Sort.ahead w q) g 0 dk := fun W hall hd => by
    have e : cptE ct d n = d.toList := by rw [cptE_all ct d _ hall, HN.out, get_all]
    have e0 := putRow_self enc w g 0 d HH.out
    obtain ⟨q, rfl⟩ := hd.out
    refine ⟨by rw [e, HN.out]; simp, q, d, HN.out.symm, fun j hj => ?_, ?_⟩
    · rw [e]
      have : j < d.size := by rw [← HN.out]; exact hj
      simp [getElem!_pos, this]
    · exact (putRow_self enc (Sort.ahead w q) g 0 d (holds_ahead enc w q g 0 d HH.out)).symm
  have HS := Aside0.mk same
  have HPW := Aside0.mk (fun (W : World) (hd : Drawn0 w W) => (by obtain ⟨q, rfl⟩ := hd.out; exact ⟨q, (putRow_self enc (Sort.ahead w q) g 0 d (holds_ahead enc w q g 0 d HH.out)).symm⟩ : ∃ q, W = putRow enc (Sort.ahead w q) g 0 d))
  have hnb : n ≤ 9223372036854775807 := by omega
  rw [← hn] at hsz hcap ⊢
  clear hH hE hzn hn same
  by_cases h2 : n < 2
  · have h2z : decide ((n : Int) < 2) = true := decide_eq_true (by omega)
    have HB := Aside0.mk (HS.out w (fun j hj => keepE_lt j (by omega)) (Drawn0.refl w))
    go_enter Try.func36, Try.ntmps36
    go_wp2
    go_ret
    exact ⟨by rw [HB.out.1]; rfl, by rw [HB.out.1]; exact HB.out.2⟩
  · have h2z : decide ((n : Int) < 2) = false := decide_eq_false (by omega)
    go_enter Try.func36, Try.ntmps36
    go_wp2
    go_loopg [5] n (fun gg s5 wr => ∃ k : Nat, 1 ≤ k ∧ k ≤ n ∧ n - k ≤ gg ∧ s5 = .int .i64 k ∧ Aside0 (Drawn0 w wr) ∧ Aside0 (∀ j, j < k → keepE ct d j = true))
    case atStart => exact ⟨1, Nat.le_refl _, by omega, by omega, rfl, ⟨Drawn0.refl _⟩, ⟨keepE_lt⟩⟩
    case round =>
      obtain ⟨k, hk1, hk, hg, rfl, HD, HA⟩ := hrel
      by_cases hlt : k < n
      · have hkz : (k : Int) < (n : Int) := by omega
        have hc1 : wr.cell? ⟨g, k, none⟩ = some (enc d[k]!) := by
          have := (HH.out k (by rw [← HN.out]; exact hlt)).1
          rw [Nat.zero_add] at this
          exact pw_cell_below HD.out.below this
        have hc0 : wr.cell? ⟨g, k - 1, none⟩ = some (enc d[k - 1]!) := by
          have := (HH.out (k - 1) (by rw [← HN.out]; omega)).1
          rw [Nat.zero_add] at this
          exact pw_cell_below HD.out.below this
        obtain ⟨u, hu⟩ : ∃ u, u = enc d[k]! := ⟨_, rfl⟩
        obtain ⟨v, hv⟩ : ∃ v, v = enc d[k - 1]! := ⟨_, rfl⟩
        rw [← hu] at hc1
        rw [← hv] at hc0
        have HEQ := Aside0.mk (fun m z hz => by
          have h1 := EL_move (HE.out d[k]!) (W1 := wr.drewN m) (fun i _ hi => HD.out.below.block i hi)
          have h2 := EL_move (HE.out d[k - 1]!) (W1 := wr.drewN m) (fun i _ hi => HD.out.below.block i hi)
          rw [← hu] at h1
          rw [← hv] at h2
          exact equal_call h1 h2 z hz)
        obtain ⟨z, hz⟩ : ∃ z, (ct d[k]! == ct d[k - 1]!) = z := ⟨_, rfl⟩
        have HQ := Aside0.mk (fun m => HEQ.out m z hz)
        have HZZ := Aside0.mk hz
        clear hu hv hz HEQ
        cases z with
        | false =>
          go_wp2
          go_quiet (first | (go_at_call 37; refine (HQ.out _).mono ?_; rintro e w' ⟨rfl, ⟨⟨m, rfl⟩⟩⟩; first | exact ⟨rfl, _, World.drewN_drewN _ _ _⟩ | exact ⟨rfl, _, Eq.trans (World.drewN_drewN _ _ _) (congrArg (World.drewN _) (Nat.add_assoc _ _ _))⟩))
          go_wp2
          go_roundg (n - (k + 1))
          case measure => omega
          case rel => exact ⟨k + 1, by omega, by omega, Nat.le_refl _, by go_num, ⟨by obtain ⟨a, ha⟩ := HD.out.out; exact ⟨⟨_, by rw [ha, World.drewN_drewN]⟩⟩⟩, ⟨fun j hj => by
            by_cases e : j = k
            · subst e
              exact keepE_pos HZZ.out rfl
            · exact HA.out j (by omega)⟩⟩
        | true =>
          have HST := Aside0.mk (CInv.start HA.out (keepE_neg (by omega) HZZ.out))
          have hcut : ∀ W : World, (Instr.slice 22 (.slice (some ⟨g, 0, none⟩) n cap) (some (.int .i64 (k : Int))) none none).run Try.prog W = .ok (.slice (some ⟨g, k, none⟩) (n - k) (cap - k)) W := fun W => by
            obtain ⟨i0, hi0, _, hsz0, _⟩ := info_parts info23
            have := cut_from (P := Try.prog) 22 23 .i64 Try.underlying22 hi0 1 hsz0 (some ⟨g, 0, none⟩) n cap (k : Int) (by omega) (by omega) W
            rw [Int.toNat_natCast, if_neg (by omega)] at this
            rw [this]
            simp [add_plain]
          go_wp2
          go_quiet (first | (go_at_call 37; refine (HQ.out _).mono ?_; rintro e w' ⟨rfl, ⟨⟨m, rfl⟩⟩⟩; first | exact ⟨rfl, _, World.drewN_drewN _ _ _⟩ | exact ⟨rfl, _, Eq.trans (World.drewN_drewN _ _ _) (congrArg (World.drewN _) (Nat.add_assoc _ _ _))⟩))
          go_wp2
          clear hc1 hc0 hcut
          go_loopg [5, 7] n (fun gh s5 s7 wi => ∃ (kk k2 : Nat) (dk : Array Nat), s5 = .int .i64 kk ∧ s7 = .int .i64 k2 ∧ 1 ≤ k2 ∧ k + k2 ≤ n ∧ n - (k + k2) ≤ gh ∧ Aside0 (∃ q2, wi = putRow enc (Sort.ahead w q2) g 0 dk) ∧ Aside0 (CInv ct d (k + k2) kk dk))
          case atStart => exact ⟨k, 1, d, rfl, rfl, Nat.le_refl _, by omega, by omega, ⟨HPW.out _ (by obtain ⟨a, ha⟩ := HD.out.out; exact ⟨⟨_, by rw [ha, World.drewN_drewN]⟩⟩)⟩, HST⟩
          case round =>
            obtain ⟨kk, k2, dk, rfl, rfl, h1, hle, hg2, HW, HI⟩ := hrel
            have hkk : kk < n := by have := HI.out.lt; omega
            have hkkz : (kk : Int) < (n : Int) := by omega
            have HHK := Aside0.mk (show Holds enc wr g 0 dk by obtain ⟨q2, hq2⟩ := HW.out; rw [hq2]; exact holds_putRow enc _ g 0 d dk (holds_ahead enc w q2 g 0 d HH.out) HI.out.size)
            have HDS := Aside0.mk (show dk.size = n by rw [HI.out.size, HN.out])
            by_cases hlt2 : k + k2 < n
            · have hk2z : (k2 : Int) < ((n - k : Nat) : Int) := by omega
              have hcm : wr.cell? ⟨g, k + k2, none⟩ = some (enc d[k + k2]!) := by
                have := (HHK.out (k + k2) (by rw [HDS.out]; exact hlt2)).1
                rw [Nat.zero_add, HI.out.high (k + k2) (by have := HI.out.lt; omega)] at this
                exact this
              have hcp : wr.cell? ⟨g, k + (k2 - 1), none⟩ = some (enc d[k + k2 - 1]!) := by
                have := (HHK.out (k + k2 - 1) (by rw [HDS.out]; omega)).1
                rw [Nat.zero_add, HI.out.high (k + k2 - 1) (by have := HI.out.lt; omega)] at this
                rw [show k + (k2 - 1) = k + k2 - 1 by omega]
                exact this
              have hck : wr.cell? ⟨g, kk, none⟩ = some (enc dk[kk]!) := by
                have := (HHK.out kk (by rw [HDS.out]; exact hkk)).1
                rwa [Nat.zero_add] at this
              have hfk : wr.frozen? ⟨g, kk, none⟩ = false := by
                have := (HHK.out kk (by rw [HDS.out]; exact hkk)).2
                rwa [Nat.zero_add] at this
              have hfkq : ∀ q, (wr.drewN q).frozen? ⟨g, kk, none⟩ = false := fun q => hfk
              have hckq : ∀ q, (wr.drewN q).cell? ⟨g, kk, none⟩ = some (enc dk[kk]!) := fun q => hck
              obtain ⟨Au, nu, cu, hu⟩ : ∃ (Au : Option Addr) (nu cu : Nat), Value.slice Au nu cu = enc d[k + k2]! := by obtain ⟨A, c, e, _⟩ := EL_reads (HE.out d[k + k2]!); exact ⟨A, _, c, e.symm⟩
              obtain ⟨v, hv⟩ : ∃ v, v = enc d[k + k2 - 1]! := ⟨_, rfl⟩
              rw [← hu] at hcm
              rw [← hv] at hcp
              have HU := Aside0.mk hu
              have HEQ := Aside0.mk (fun m z hz => by
                have h1 := EL_move (HE.out d[k + k2]!) (W1 := wr.drewN m) (fun i hi _ => by obtain ⟨q2, hq2⟩ := HW.out; rw [hq2]; exact put_heap enc w q2 g dk i hi)
                have h2 := EL_move (HE.out d[k + k2 - 1]!) (W1 := wr.drewN m) (fun i hi _ => by obtain ⟨q2, hq2⟩ := HW.out; rw [hq2]; exact put_heap enc w q2 g dk i hi)
                rw [← hu] at h1
                rw [← hv] at h2
                exact equal_call h1 h2 z hz)
              obtain ⟨z, hz⟩ : ∃ z, (ct d[k + k2]! == ct d[k + k2 - 1]!) = z := ⟨_, rfl⟩
              have HQ2 := Aside0.mk (fun m => HEQ.out m z hz)
              have HZ2 := Aside0.mk hz
              clear hu hv hz HEQ
              cases z with
              | true =>
                go_wp2
                go_quiet (first | (go_at_call 37; refine (HQ2.out _).mono ?_; rintro e w' ⟨rfl, ⟨⟨m, rfl⟩⟩⟩; first | exact ⟨rfl, _, World.drewN_drewN _ _ _⟩ | exact ⟨rfl, _, Eq.trans (World.drewN_drewN _ _ _) (congrArg (World.drewN _) (Nat.add_assoc _ _ _))⟩))
                go_wp2
                go_roundg (n - (k + (k2 + 1)))
                case measure => omega
                case rel => exact ⟨kk, k2 + 1, dk, rfl, by go_num, by omega, by omega, Nat.le_refl _, ⟨by obtain ⟨q2, hq2⟩ := HW.out; exact ⟨_, by rw [hq2, putRow_drewN]⟩⟩, ⟨HI.out.skip (keepE_neg (by omega) HZ2.out)⟩⟩
              | false =>
                go_wp2
                go_quiet (first | (go_at_call 37; refine (HQ2.out _).mono ?_; rintro e w' ⟨rfl, ⟨⟨m, rfl⟩⟩⟩; first | exact ⟨rfl, _, World.drewN_drewN _ _ _⟩ | exact ⟨rfl, _, Eq.trans (World.drewN_drewN _ _ _) (congrArg (World.drewN _) (Nat.add_assoc _ _ _))⟩))
                go_wp2
                go_roundg (n - (k + (k2 + 1)))
                case measure => omega
                case rel => exact ⟨kk + 1, k2 + 1, dk.setIfInBounds kk d[k + k2]!, by go_num, by go_num, by omega, by omega, Nat.le_refl _, ⟨by obtain ⟨q2, hq2⟩ := HW.out; exact store_put enc (by rw [HDS.out]; exact hkk) hq2 _ _ HU.out⟩, ⟨HI.out.keep (by rw [← HN.out]; exact hlt2) (keepE_pos HZ2.out rfl)⟩⟩
            · have hend : k + k2 = n := by omega
              have hk2z : ¬ (k2 : Int) < ((n - k : Nat) : Int) := by omega
              have hcl : ∀ ty, (Builtin.clear_ #[22] ty #[.slice (some ⟨g, kk, none⟩) (n - kk) (cap - kk)]).run Try.prog wr = .ok (.tuple #[]) (wr.setCells g kk (List.replicate (n - kk) (.slice none 0 0))) :=
                fun ty => Lib.run_clear_slice wr _ _ ty _ Try.underlying22 compact_zero rfl rfl g kk _ _ (by omega) (fun j hj => by have := (HHK.out (kk + j) (by rw [HDS.out]; omega)).1; rw [Nat.zero_add] at this; rw [this]; rfl) (fun j hj => by have := (HHK.out (kk + j) (by rw [HDS.out]; omega)).2; rwa [Nat.zero_add] at this)
              have hcut : ∀ W : World, (Instr.slice 22 (.slice (some ⟨g, 0, none⟩) n cap) (some (.int .i64 (kk : Int))) none none).run Try.prog W = .ok (.slice (some ⟨g, kk, none⟩) (n - kk) (cap - kk)) W := fun W => by
                obtain ⟨i0, hi0, _, hsz0, _⟩ := info_parts info23
                have := cut_from (P := Try.prog) 22 23 .i64 Try.underlying22 hi0 1 hsz0 (some ⟨g, 0, none⟩) n cap (kk : Int) (by omega) (by omega) W
                rw [Int.toNat_natCast, if_neg (by omega)] at this
                rw [this]
                simp [add_plain]
              have hcut2 : ∀ W : World, (Instr.slice 22 (.slice (some ⟨g, 0, none⟩) n cap) none (some (.int .i64 (kk : Int))) none).run Try.prog W = .ok (.slice (some ⟨g, 0, none⟩) kk cap) W := by
                obtain ⟨i0, hi0, _⟩ := info_parts info23
                exact cut_to (P := Try.prog) 22 23 .i64 Try.underlying22 hi0 (some ⟨g, 0, none⟩) n cap (kk : Int) (by omega) (by omega) hcap
              have HEND := Aside0.mk hend
              go_wp2
              go_ret
              have hI := HI.out
              rw [HEND.out] at hI
              obtain ⟨q2, hq2⟩ := HW.out
              have hl : (List.replicate (n - kk) (Value.slice none 0 0)) = (List.replicate (n - kk) zn).map enc := by rw [List.map_replicate, HZ.out]
              refine ⟨by rw [hI.len]; rfl, q2, Lib.lay dk kk (List.replicate (n - kk) zn), ?_, fun j hj => ?_, ?_⟩
              · have : ∀ (xs : List Nat) (dk : Array Nat) (k : Nat), (Lib.lay dk k xs).size = dk.size := fun xs => by
                  induction xs with
                  | nil => intro dk k; rfl
                  | cons x r ih => intro dk k; rw [Lib.lay, ih]; simp
                rw [this, HDS.out]
              · rw [hI.len] at hj
                rw [hI.low j hj]
                have h1 := Lib.lay_get? (List.replicate (n - kk) zn) dk kk j (by rw [HDS.out]; simp; omega)
                rw [if_neg (by omega)] at h1
                simp only [getElem!_def, h1]
              · rw [hq2, hl]
                have := Lib.putRow_setCells enc (Sort.ahead w q2) g 0 (List.replicate (n - kk) zn) dk kk (by rw [HDS.out]; simp; omega)
                rwa [Nat.zero_add] at this
      · have hkz : ¬ (k : Int) < (n : Int) := by omega
        have hkn : k = n := by omega
        have HB := Aside0.mk (HS.out wr (fun j hj => HA.out j (by omega)) HD.out)
        go_wp2
        go_ret
        exact ⟨by rw [HB.out.1]; rfl, by rw [HB.out.1]; exact HB.out.2⟩
end

end Go.Proofs.Ytlnmgljiggebiaa.Pr
