-- Printed by a program of this session's own (wip/tools/pp.py) over the kit's print.py; Lean checks it.
import Derived.Test.YtpmfdggbccbfaaaPr0
import Derived.Test.YtpmfdggbccbfaaaPr1
import Derived.Test.YtpmfdggbccbfaaaPr3
import Derived.Test.YtpmfdggbccbfaaaPr5
import Derived.Test.YtpmfdggbccbfaaaPr10
namespace Go.Proofs.Ytpmfdggbccbfaaa.Pr
open Go.RowKit Go.Proofs.YtpmfdggbccbfaaaW.PrintWords Go.Proofs.YtpmfdggbccbfaaaW.PrintLast Go.Proofs.YtpmfdggbccbfaaaW.PrintMore
attribute [local go_sem] max2_int min2_int max_two min_two max_three min_three max_four min_four   -- for this text's walks alone
set_option linter.unusedVariables false
set_option linter.unusedSimpArgs false

-- given by hand
/-! ### valid_Covers: function 20 -/
-- needs tuple_Rising valid_has slices_ContainsFunc_int_int_46
theorem rising_loop (l : List Int) (hl : l.length ≤ 9223372036854775807) : ∀ d i k : Nat, l.length ≤ i + 1 + d → d < k → tuple_Rising.l0 k l ((i : Int) + 1) = some (risingB (l.drop i)) := by
  intro d
  induction d with
  | zero =>
    intro i k h hk
    obtain ⟨k, rfl⟩ : ∃ m, k = m + 1 := ⟨k - 1, by omega⟩
    simp only [tuple_Rising.l0]
    rw [if_neg (by omega), rising_end l i (by omega)]
  | succ d ih =>
    intro i k h hk
    obtain ⟨k, rfl⟩ : ∃ m, k = m + 1 := ⟨k - 1, by omega⟩
    by_cases hlt : i + 1 < l.length
    · have h1 : l[i]? = some l[i] := List.getElem?_eq_getElem (by omega)
      have h2 : l[i + 1]? = some l[i + 1] := List.getElem?_eq_getElem hlt
      have e1 : rd l ((i : Int) + 1) = l[i + 1] := rd_nat l (i + 1) _ h2
      have e2 : rd l (i : Int) = l[i] := rd_nat l i _ h1
      have w1 : wrap64 ((i : Int) + 1 - 1) = (i : Int) := by rw [Int.add_sub_cancel]; exact wrap_id (by omega) (by omega)
      simp only [tuple_Rising.l0]
      rw [if_pos (by omega), if_pos (by omega), w1, if_pos (by omega), if_pos (by omega), e1, e2, rising_step l i _ _ h1 h2]
      by_cases hq : l[i + 1] ≤ l[i]
      · rw [if_pos hq, if_pos hq]
      · rw [if_neg hq, if_neg hq, wrap_succ (by omega) (by omega)]
        exact ih (i + 1) k (by omega) (by omega)
    · simp only [tuple_Rising.l0]
      rw [if_neg (by omega), rising_end l i (by omega)]
theorem rising_tells (l : List Int) (hl : l.length ≤ 9223372036854775807) : tuple_Rising.f (l.length + 1) l = some (risingB l) := by
  have := rising_loop l hl l.length 0 (l.length + 1) (by omega) (by omega)
  simpa [tuple_Rising.f] using this
def insideB (n : Int) (b : List Int) : Bool := risingB b && (b.isEmpty || (decide (0 ≤ b.headD 0) && decide (b.getLastD 0 < n)))
def coversB (n : Int) (scopes bags : List (List Int)) : Bool := bags.all (insideB n) && (List.range n.toNat).all (fun v => hasB bags [(v : Int)]) && !(scopes.any fun s => !(hasB bags s))
def valid_Covers.f (a0 : Int) (l1 : List (List Int)) (l2_0 : List (List Int)) (l2_1 : List Int) : Option Bool := if a0 ≤ 9223372036854775807 then some (coversB a0 l1 l2_0) else none
theorem inside_false1 (n : Int) (b : List Int) (h : risingB b = false) : insideB n b = false := by simp [insideB, h]
theorem inside_nil (n : Int) (b : List Int) (h : b.length = 0) : insideB n b = true := by
  obtain rfl := List.eq_nil_of_length_eq_zero h
  simp [insideB, risingB]
theorem head_at (b : List Int) (x : Int) (hx : b[0]? = some x) : b.headD 0 = x ∧ b.isEmpty = false := by
  cases b with
  | nil => simp at hx
  | cons a l => simp at hx; simp [hx]
theorem last_at (b : List Int) (q : Nat) (y : Int) (hl : b.length = q + 1) (hy : b[q]? = some y) : b.getLastD 0 = y := by
  rw [List.getLastD_eq_getLast?, List.getLast?_eq_getElem?, hl]
  simpa using congrArg (fun o => o.getD 0) hy
theorem inside_neg (n : Int) (b : List Int) (x : Int) (hx : b[0]? = some x) (h : x < 0) : insideB n b = false := by
  have e := head_at b x hx
  have : decide (0 ≤ x) = false := by simpa using h
  unfold insideB; rw [e.1, e.2, this]; simp
theorem inside_big (n : Int) (b : List Int) (q : Nat) (x y : Int) (hl : b.length = q + 1) (hx : b[0]? = some x) (hy : b[q]? = some y) (h : n ≤ y) : insideB n b = false := by
  have e := last_at b q y hl hy
  have : decide (y < n) = false := by simpa using h
  unfold insideB; rw [e, this, (head_at b x hx).2]; simp
theorem inside_yes (n : Int) (b : List Int) (q : Nat) (x y : Int) (hl : b.length = q + 1) (hx : b[0]? = some x) (hy : b[q]? = some y) (hr : risingB b = true) (h0 : 0 ≤ x) (h : y < n) : insideB n b = true := by
  have e := last_at b q y hl hy
  unfold insideB; rw [e, hr, (head_at b x hx).1]; simp [h0, h]
theorem rising_call (Ab : Option Addr) (cb : Nat) (b : List Int) (n : Nat) (z : Bool) (W : World) (hn : b.length = n) (hc : n ≤ cb) (hz : risingB b = z) (h : (Kd.int .i64).C W Ab n b) : Calls Try.prog 44 #[.slice Ab n cb] W fun e W' => e = .returned (.bool z) ∧ Drawn0 W W' := by
  subst hn hz
  exact tuple_Rising.calls (b.length + 1) Ab cb b _ W h hc (rising_tells b h.2.1)
theorem covers1 (B : Nat) (A0 : Option Addr) (c0 : Nat) (bags : List (List Int)) (hc0 : bags.length ≤ c0) (A1 : Option Addr) (c1 : Nat) (par : List Int) (hc1 : par.length ≤ c1) (A : Option Addr) (c : Nat) (s : List Int) (hc : s.length ≤ c) (W : World) (hbox : W.heap[B]? = some (.cells #[.slice A0 bags.length c0, .slice A1 par.length c1] 25 (0, 0))) (h0 : (Kd.slice 3 (Kd.int .i64)).C W A0 bags.length bags) (h1 : (Kd.int .i64).C W A1 par.length par) (hr : (Kd.int .i64).C W A s.length s) :
    Calls Try.prog 47 #[.slice A s.length c, .pointer (some ⟨B, 0, none⟩)] W fun e W' => e = .returned (.bool (!(hasB bags s))) ∧ Below W.heap.size W W' := by
  have hcell0 : W.cell? ⟨B, 0, none⟩ = some (.slice A0 bags.length c0) := (blk_cell hbox 0).trans rfl
  have hcell1 : W.cell? ⟨B, 1, none⟩ = some (.slice A1 par.length c1) := (blk_cell hbox 1).trans rfl
  have HC := Aside0.mk (valid_has.calls A0 c0 bags A1 c1 par A c s _ W h0 hc0 h1 hc1 hr hc rfl)
  clear hr hc hbox h0 h1 hc0 hc1
  obtain ⟨z, hz⟩ : ∃ z, z = hasB bags s := ⟨_, rfl⟩
  rw [← hz] at HC ⊢
  clear hz
  go_enter Try.func47, Try.ntmps47
  go_wp2_with (go_at_call 45; refine HC.out.mono ?_; rintro e w' ⟨rfl, hb⟩; have HB2 := Aside0.mk hb; clear hb)
  go_ret
  exact ⟨rfl, HB2.out⟩
theorem has_call (A0 : Option Addr) (c0 : Nat) (bags : List (List Int)) (A1 : Option Addr) (c1 : Nat) (par : List Int) (A : Option Addr) (c : Nat) (s : List Int) (m : Nat) (z : Bool) (W : World) (hm : bags.length = m) (hc0 : bags.length ≤ c0) (hc1 : par.length ≤ c1) (hs : s.length = c) (h0 : (Kd.slice 3 (Kd.int .i64)).C W A0 bags.length bags) (h1 : (Kd.int .i64).C W A1 par.length par) (hr : (Kd.int .i64).C W A c s) (hz : hasB bags s = z) :
    Calls Try.prog 45 #[.agg #[.slice A0 m c0, .slice A1 par.length c1], .slice A c c] W fun e W' => e = .returned (.bool z) ∧ Below W.heap.size W W' := by
  subst hm hz hs
  exact valid_has.calls A0 c0 bags A1 c1 par A s.length s _ W h0 hc0 h1 hc1 hr (Nat.le_refl _) rfl
theorem covers2 (B : Nat) (A0 : Option Addr) (c0 : Nat) (bags : List (List Int)) (A1 : Option Addr) (c1 : Nat) (par : List Int) (A : Option Addr) (c : Nat) (scopes : List (List Int)) (m : Nat) (r : Bool) (w W : World) (hm : bags.length = m) (hc0 : bags.length ≤ c0) (hc1 : par.length ≤ c1) (hbox : W.heap[B]? = some (.cells #[.slice A0 m c0, .slice A1 par.length c1] 25 (0, 0))) (hb : Below w.heap.size w W) (h0 : (Kd.slice 3 (Kd.int .i64)).C w A0 bags.length bags) (h1 : (Kd.int .i64).C w A1 par.length par) (hr : (Kd.slice 3 (Kd.int .i64)).C w A scopes.length scopes) (hz : (!(scopes.any fun s => !(hasB bags s))) = r) :
    Calls Try.prog 46 #[.slice A scopes.length c, .func (.func 47) #[] #[.pointer (some ⟨B, 0, none⟩)]] W fun e W' => e = .returned (.bool (!r)) ∧ Below W.heap.size W W' := by
  subst hm hz
  rw [Bool.not_not]
  exact slices_ContainsFunc_int_int_46.callsP (Kd.slice 3 (Kd.int .i64)) rfl (fun s => !(hasB bags s)) 47 #[.pointer (some ⟨B, 0, none⟩)] (enters_of Try.func47 (by kernel_rfl) rfl) A c scopes W
    (fun x hx W' v hb' hv => by
      obtain ⟨A', c', e, hl', hC⟩ := hv
      obtain rfl : v = .slice A' x.length c' := by injection e
      exact covers1 B A0 c0 bags hc0 A1 c1 par hc1 A' c' x hl' W' (blk_below hbox hb') (Kd.C_below (Kd.C_below h0 hb) hb') (Kd.C_below (Kd.C_below h1 hb) hb') hC) (Kd.C_below hr hb)
theorem all_step (p : List Int → Bool) (l : List (List Int)) (k : Nat) (x : List Int) (hx : l[k]? = some x) : (l.drop k).all p = (p x && (l.drop (k + 1)).all p) := by
  obtain ⟨h, e⟩ := List.getElem?_eq_some_iff.1 hx
  rw [List.drop_eq_getElem_cons h, e]
  simp
set_option maxHeartbeats 8000000 in
theorem valid_Covers.calls (a0 : Int) (A1 : Option Addr) (c1 : Nat) (l1 : List (List Int)) (A2_0 : Option Addr) (c2_0 : Nat) (l2_0 : List (List Int)) (A2_1 : Option Addr) (c2_1 : Nat) (l2_1 : List Int) (r : Bool) (w : World) (hr1 : Kd.C (Kd.slice 3 (Kd.int .i64)) w A1 l1.length l1) (hc1 : l1.length ≤ c1) (hr2_0 : Kd.C (Kd.slice 3 (Kd.int .i64)) w A2_0 l2_0.length l2_0) (hc2_0 : l2_0.length ≤ c2_0) (hr2_1 : Kd.C (Kd.int .i64) w A2_1 l2_1.length l2_1) (hc2_1 : l2_1.length ≤ c2_1) (h : valid_Covers.f a0 l1 l2_0 l2_1 = some r) :
    Calls Try.prog 20 #[.int .i64 a0, .slice A1 l1.length c1, .agg #[.slice A2_0 l2_0.length c2_0, .slice A2_1 l2_1.length c2_1]] w fun e w' => e = .returned (.bool r) ∧ Below w.heap.size w w' := by
  unfold valid_Covers.f at h
  split at h
  · rename_i hn
    have HE := Aside0.mk (Option.some.inj h)
    have HR1 := Aside0.mk hr1
    have HR2 := Aside0.mk hr2_0
    have HR3 := Aside0.mk hr2_1
    have HC1 := Aside0.mk hc1
    have HC2 := Aside0.mk hc2_0
    have HC3 := Aside0.mk hc2_1
    have hlen := hr2_0.2.1
    obtain ⟨m, hm⟩ : ∃ m, m = l2_0.length := ⟨_, rfl⟩
    rw [← hm] at hlen ⊢
    have HM := Aside0.mk hm
    clear hr1 hr2_0 hr2_1 hc1 hc2_0 hc2_1 h hm
    go_enter Try.func20, Try.ntmps20
    go_wp2
    go_loopg [13] m (fun gg s13 wr => ∃ (kk : Nat), s13 = .int .i64 kk ∧ kk ≤ m ∧ Aside0 (m - kk ≤ gg) ∧ Aside0 (wr.heap[w.heap.size]? = some (.cells #[.slice A2_0 m c2_0, .slice A2_1 l2_1.length c2_1] 25 (0, 0))) ∧ Aside0 (Below w.heap.size w wr) ∧ Aside0 (w.heap.size ≤ wr.heap.size) ∧ Aside0 ((l2_0.drop kk).all (insideB a0) = l2_0.all (insideB a0)))
    case atStart => exact ⟨0, rfl, Nat.zero_le _, ⟨Nat.le_refl _⟩, ⟨blk_new _ _⟩, ⟨below_alloc (Below.refl _ _) _⟩, ⟨by simp⟩, ⟨rfl⟩⟩
    case round =>
      obtain ⟨kk, rfl, hkk, HG, HX, HB, HZ, HI⟩ := hrel
      by_cases hlt : kk < m
      · have hltz : (kk : Int) < (m : Int) := by omega
        obtain ⟨ad, v, b, rfl, hx, hxm, hk, hcell⟩ := elem_one (d := Kd.slice 3 (Kd.int .i64)) rfl HR2.out HB.out kk (by rw [← HM.out]; exact hlt)
        obtain ⟨Ab, cb, e, hlb, hC⟩ := hk
        obtain ⟨n, hn⟩ : ∃ n, b.length = n := ⟨_, rfl⟩
        rw [hn] at e hlb hC
        obtain rfl : v = .slice Ab n cb := by injection e
        have HN := Aside0.mk hn
        have HI2 := Aside0.mk (by have := HI.out; rw [all_step _ _ _ _ hx] at this; exact this : (insideB a0 b && (l2_0.drop (kk + 1)).all (insideB a0)) = l2_0.all (insideB a0))
        have hbl := hC.2.1
        have HCB := Aside0.mk (Kd.C_below hC HB.out)
        have HRC0 := Aside0.mk (fun z hz => rising_call Ab cb b n z wr hn hlb hz HCB.out)
        have done : insideB a0 b = false → false = r := fun hf => by
          rw [← HE.out]
          have : l2_0.all (insideB a0) = false := by rw [← HI2.out, hf]; rfl
          simp [coversB, this]
        have HD := Aside0.mk done
        clear e hlb hC hx hxm done hn
        cases hrb : risingB b with
        | false =>
          have HRB := Aside0.mk (HD.out (inside_false1 a0 b hrb))
          have HRC := Aside0.mk (HRC0.out _ hrb)
          clear hrb
          go_wp2_with (go_at_call 44; refine HRC.out.mono ?_; rintro e w' ⟨rfl, hb⟩;  have HB2 := Aside0.mk (below_then HB.out (below_size HB.out) hb.below); clear hb)
          go_ret
          exact ⟨by rw [← HRB.out]; rfl, HB2.out⟩
        | true =>
          have HRB := Aside0.mk hrb
          have HRC := Aside0.mk (HRC0.out _ hrb)
          clear hrb HRC0
          rcases Nat.eq_zero_or_pos n with h0 | h0
          · have HY2 := Aside0.mk (inside_nil a0 b (HN.out.trans h0))
            have hd0 : decide (0 < (n : Int)) = false := by simpa using h0
            have hd1 : decide (0 < n) = false := by simpa using h0
            clear h0
            go_wp2_with (go_at_call 44; refine HRC.out.mono ?_; rintro e w' ⟨rfl, hb⟩; have HX2 := Aside0.mk (blk_below HX.out hb.below); have HZ2 := Aside0.mk (Nat.le_trans HZ.out (below_size hb.below)); have HB2 := Aside0.mk (below_then HB.out (below_size HB.out) hb.below); clear hb)
            go_roundg (m - (kk + 1))
            case measure => have := HG.out; omega
            case rel => exact ⟨kk + 1, by go_num, by omega, ⟨Nat.le_refl _⟩, HX2, HB2, HZ2, ⟨by have := HI2.out; rw [HY2.out] at this; simpa using this⟩⟩
          · obtain ⟨q, rfl⟩ : ∃ q, n = q + 1 := ⟨n - 1, by omega⟩
            clear h0
            obtain ⟨ab, v0, x, rfl, hx, _, hkx, hcx⟩ := elem_one (d := Kd.int .i64) rfl HCB.out (Below.refl _ _) 0 (by omega)
            obtain ⟨ab', v', y, hab, hy, _, hky, hcy⟩ := elem_one (d := Kd.int .i64) rfl HCB.out (Below.refl _ _) q (by omega)
            obtain rfl : v0 = .int .i64 x := by have h2 : [v0] = [.int .i64 x] := hkx; injection h2
            obtain rfl : v' = .int .i64 y := by have h2 : [v'] = [.int .i64 y] := hky; injection h2
            obtain rfl : ab = ab' := by injection hab
            have HXE := Aside0.mk hx
            have HYE := Aside0.mk hy
            have HCX := Aside0.mk (by simpa [Addr.add] using hcx : wr.cell? ab = some (.int .i64 x))
            have HCY := Aside0.mk hcy
            clear hx hkx hcx hy hky hab hcy
            by_cases hx0 : x < 0
            · have hd : decide (x < 0) = true := decide_eq_true hx0
              have HRB2 := Aside0.mk (HD.out (inside_neg a0 b x HXE.out hx0))
              clear hx0
              go_wp2_with (go_at_call 44; refine HRC.out.mono ?_; rintro e w' ⟨rfl, hb⟩; have hc1 := pw_cell_below hb.below HCX.out; have hc2 := pw_cell_below hb.below HCY.out; have HB2 := Aside0.mk (below_then HB.out (below_size HB.out) hb.below); clear hb)
              go_ret
              exact ⟨by rw [← HRB2.out]; rfl, HB2.out⟩
            · have hd : decide (x < 0) = false := decide_eq_false hx0
              by_cases hy0 : a0 ≤ y
              · have hd2 : decide (a0 ≤ y) = true := decide_eq_true hy0
                have HRB2 := Aside0.mk (HD.out (inside_big a0 b q x y HN.out HXE.out HYE.out hy0))
                clear hx0 hy0
                go_wp2_with (go_at_call 44; refine HRC.out.mono ?_; rintro e w' ⟨rfl, hb⟩; have hc1 := pw_cell_below hb.below HCX.out; have hc2 := pw_cell_below hb.below HCY.out; have HB2 := Aside0.mk (below_then HB.out (below_size HB.out) hb.below); clear hb)
                go_ret
                exact ⟨by rw [← HRB2.out]; rfl, HB2.out⟩
              · have hd2 : decide (a0 ≤ y) = false := decide_eq_false hy0
                have HY2 := Aside0.mk (inside_yes a0 b q x y HN.out HXE.out HYE.out HRB.out (by omega) (by omega))
                clear hx0 hy0
                go_wp2_with (go_at_call 44; refine HRC.out.mono ?_; rintro e w' ⟨rfl, hb⟩; have hc1 := pw_cell_below hb.below HCX.out; have hc2 := pw_cell_below hb.below HCY.out; have HX2 := Aside0.mk (blk_below HX.out hb.below); have HZ2 := Aside0.mk (Nat.le_trans HZ.out (below_size hb.below)); have HB2 := Aside0.mk (below_then HB.out (below_size HB.out) hb.below); clear hb)
                go_roundg (m - (kk + 1))
                case measure => have := HG.out; omega
                case rel => exact ⟨kk + 1, by go_num, by omega, ⟨Nat.le_refl _⟩, HX2, HB2, HZ2, ⟨by have := HI2.out; rw [HY2.out] at this; simpa using this⟩⟩
      · have hltz : ¬ (kk : Int) < (m : Int) := by omega
        have HA := Aside0.mk (by have := HI.out; rw [List.drop_eq_nil_of_le (by have := HM.out; omega)] at this; simpa using this.symm : l2_0.all (insideB a0) = true)
        clear HI HG
        go_wp2
        obtain ⟨wo, hwo⟩ : ∃ wo : World, wo = wr := ⟨_, rfl⟩
        subst hwo
        go_loopg [9] a0.toNat (fun gg s9 wr => ∃ (vv : Nat), s9 = .int .i64 vv ∧ Aside0 (a0.toNat - vv ≤ gg) ∧ Aside0 (vv ≤ a0.toNat) ∧ Aside0 (wr.heap[w.heap.size]? = some (.cells #[.slice A2_0 m c2_0, .slice A2_1 l2_1.length c2_1] 25 (0, 0))) ∧ Aside0 (Below w.heap.size w wr) ∧ Aside0 (w.heap.size ≤ wr.heap.size) ∧ Aside0 (∀ j : Nat, j < vv → hasB l2_0 [(j : Int)] = true))
        case atStart => exact ⟨0, rfl, ⟨by omega⟩, ⟨by omega⟩, HX, HB, HZ, ⟨fun j hj => absurd hj (Nat.not_lt_zero _)⟩⟩
        case round =>
          clear HX HB HZ
          obtain ⟨vv, rfl, HG, HV, HX, HB, HZ, HI⟩ := hrel
          have hc0 : wr.cell? ⟨w.heap.size, 0, none⟩ = some (.slice A2_0 m c2_0) := (blk_cell HX.out 0).trans rfl
          have hc1 : wr.cell? ⟨w.heap.size, 1, none⟩ = some (.slice A2_1 l2_1.length c2_1) := (blk_cell HX.out 1).trans rfl
          by_cases hva : (vv : Int) < a0
          · have HB1 := Aside0.mk (below_alloc2 HB.out HZ.out (.cells #[.int .i64 (vv : Int)] 3 (0, 0)))
            have HX1 := Aside0.mk (blk_alloc HX.out (.cells #[.int .i64 (vv : Int)] 3 (0, 0)))
            have HZ1 := Aside0.mk (show w.heap.size ≤ (wr.alloc (.cells #[.int .i64 (vv : Int)] 3 (0, 0))).heap.size by have := HZ.out; simp; omega)
            have HC := Aside0.mk (fun z hz => has_call A2_0 c2_0 l2_0 A2_1 c2_1 l2_1 _ 1 [(vv : Int)] m z _ HM.out.symm HC2.out HC3.out rfl (Kd.C_below HR2.out HB1.out) (Kd.C_below HR3.out HB1.out) (C_new_one wr (vv : Int) 3) hz)
            cases hz : hasB l2_0 [(vv : Int)] with
            | false =>
              have HCC := Aside0.mk (HC.out _ hz)
              have HF := Aside0.mk (by
                rw [← HE.out]
                have : (List.range a0.toNat).all (fun v => hasB l2_0 [(v : Int)]) = false := by
                  rw [List.all_eq_false]
                  exact ⟨vv, List.mem_range.2 (by omega), by rw [hz]; simp⟩
                simp [coversB, this] : false = r)
              clear hz HC
              go_wp2_with (go_at_call 45; refine HCC.out.mono ?_; rintro e w' ⟨rfl, hb⟩; have HB2 := Aside0.mk (below_then HB1.out HZ1.out hb); clear hb)
              go_ret
              exact ⟨by rw [← HF.out]; rfl, HB2.out⟩
            | true =>
              have HCC := Aside0.mk (HC.out _ hz)
              have HZZ := Aside0.mk hz
              clear hz HC
              go_wp2_with (go_at_call 45; refine HCC.out.mono ?_; rintro e w' ⟨rfl, hb⟩; have HX2 := Aside0.mk (blk_below HX1.out hb); have HZ2 := Aside0.mk (Nat.le_trans HZ1.out (below_size hb)); have HB2 := Aside0.mk (below_then HB1.out HZ1.out hb); clear hb)
              go_roundg (a0.toNat - (vv + 1))
              case measure => have := HG.out; omega
              case rel => exact ⟨vv + 1, by go_num, ⟨Nat.le_refl _⟩, ⟨by omega⟩, HX2, HB2, HZ2, ⟨fun j hj => by
                by_cases e : j = vv
                · rw [e]; exact HZZ.out
                · exact HI.out j (by omega)⟩⟩
          · have HV2 := Aside0.mk (by
              rw [List.all_eq_true]
              intro v hv
              exact HI.out v (by have := List.mem_range.1 hv; omega) : (List.range a0.toNat).all (fun v => hasB l2_0 [(v : Int)]) = true)
            have HCC := Aside0.mk (covers2 w.heap.size A2_0 c2_0 l2_0 A2_1 c2_1 l2_1 A1 c1 l1 m r w wr HM.out.symm HC2.out HC3.out HX.out HB.out HR2.out HR3.out HR1.out (by rw [← HE.out]; simp [coversB, HA.out, HV2.out]))
            go_wp2_with (go_at_call 46; refine HCC.out.mono ?_; rintro e w' ⟨rfl, hb⟩; have HB2 := Aside0.mk (below_then HB.out HZ.out hb); clear hb)
            go_ret
            exact ⟨by simp, HB2.out⟩
  · cases h

end Go.Proofs.Ytpmfdggbccbfaaa.Pr
