-- Printed by a program of this session's own (wip/tools/pp.py) over the kit's print.py; Lean checks it.
import Derived.Test.YtpmfdggbccbfaaaPr0
import Derived.Test.YtpmfdggbccbfaaaPr1
import Derived.Test.YtpmfdggbccbfaaaPr4
import Derived.Test.YtpmfdggbccbfaaaPr28
import Derived.Test.YtpmfdggbccbfaaaPr29
namespace Go.Proofs.Ytpmfdggbccbfaaa.Pr
open Go.RowKit Go.Proofs.YtpmfdggbccbfaaaW.PrintWords Go.Proofs.YtpmfdggbccbfaaaW.PrintLast Go.Proofs.YtpmfdggbccbfaaaW.PrintMore
attribute [local go_sem] max2_int min2_int max_two min_two max_three min_three max_four min_four   -- for this text's walks alone
set_option linter.unusedVariables false
set_option linter.unusedSimpArgs false

-- given by hand
/-! ### place_Place: function 28 -/
-- needs tuple_Within slices_IndexFunc_int_int_52
def withinB (s b : List Int) : Bool := ((mergeL true false false s b).length : Int) == 0
def placeL (bags : List (List Int)) : List (List Int) → List Int → List Int × Int
  | [], out => (out, 0)
  | s :: l, out => if idxOf (withinB s) bags 0 < 0 then ([], 5) else placeL bags l (out ++ [idxOf (withinB s) bags 0])
def place_Place.f (l0_0 : List (List Int)) (l0_1 : List Int) (l1 : List (List Int)) : Option (List Int × Int) := if (∀ s ∈ l1, ∀ b ∈ l0_0, s.length + b.length < 17592186044416) ∧ l1.length < 17592186044416 then some (placeL l0_0 l1 []) else none
theorem within_some (s b : List Int) (h : s.length + b.length < 17592186044416) : tuple_Within.f s b = some (withinB s b) := by
  simp only [tuple_Within.f, tuple_Without.f, tuple_merge.f, if_pos h, Option.bind_some, withinB]
theorem place1 (S : Nat) (As : Option Addr) (cs : Nat) (s : List Int) (hcs : s.length ≤ cs) (A : Option Addr) (c : Nat) (b : List Int) (hc : b.length ≤ c) (W : World) (hbox : W.heap[S]? = some (.cells #[.slice As s.length cs] 23 (0, 0))) (hs : (Kd.int .i64).C W As s.length s) (hr : (Kd.int .i64).C W A b.length b) (hl : s.length + b.length < 17592186044416) :
    Calls Try.prog 53 #[.slice A b.length c, .pointer (some ⟨S, 0, none⟩)] W fun e W' => e = .returned (.bool (withinB s b)) ∧ Below W.heap.size W W' := by
  have hcell : W.cell? ⟨S, 0, none⟩ = some (.slice As s.length cs) := (blk_cell hbox 0).trans rfl
  have HC := Aside0.mk (tuple_Within.calls As cs s A c b _ W hs hcs hr hc (within_some s b hl))
  clear hr hc hbox hs hcs hl
  obtain ⟨z, hz⟩ : ∃ z, z = withinB s b := ⟨_, rfl⟩
  rw [← hz] at HC ⊢
  clear hz
  go_enter Try.func53, Try.ntmps53
  go_wp2_with (go_at_call 54; refine HC.out.mono ?_; rintro e w' ⟨rfl, hb⟩; have HB2 := Aside0.mk hb; clear hb)
  go_ret
  exact ⟨rfl, HB2.out⟩
theorem place2 (S : Nat) (As : Option Addr) (cs : Nat) (s : List Int) (hcs : s.length ≤ cs) (A : Option Addr) (c : Nat) (bags : List (List Int)) (w0 W : World) (hbox : W.heap[S]? = some (.cells #[.slice As s.length cs] 23 (0, 0))) (hb0 : Below w0.heap.size w0 W) (hs : (Kd.int .i64).C W As s.length s) (hr : (Kd.slice 3 (Kd.int .i64)).C w0 A bags.length bags) (hl : ∀ b ∈ bags, s.length + b.length < 17592186044416) :
    Calls Try.prog 52 #[.slice A bags.length c, .func (.func 53) #[] #[.pointer (some ⟨S, 0, none⟩)]] W fun e W' => e = .returned (.int .i64 (idxOf (withinB s) bags 0)) ∧ Below W.heap.size W W' :=
  slices_IndexFunc_int_int_52.callsP (Kd.slice 3 (Kd.int .i64)) rfl (withinB s) 53 #[.pointer (some ⟨S, 0, none⟩)] (enters_of Try.func53 (by kernel_rfl) rfl) A c bags W
    (fun x hx W' v hb' hv => by
      obtain ⟨A', c', e, hl', hC⟩ := hv
      obtain rfl : v = .slice A' x.length c' := by injection e
      exact place1 S As cs s hcs A' c' x hl' W' (blk_below hbox hb') (Kd.C_below hs hb') hC (hl x hx)) (Kd.C_below hr hb0)
set_option maxHeartbeats 8000000 in
theorem place_Place.calls (A0_0 : Option Addr) (c0_0 : Nat) (l0_0 : List (List Int)) (A0_1 : Option Addr) (c0_1 : Nat) (l0_1 : List Int) (A1 : Option Addr) (c1 : Nat) (l1 : List (List Int)) (r1 : List Int) (r2 : Int) (w : World) (hr0_0 : Kd.C (Kd.slice 3 (Kd.int .i64)) w A0_0 l0_0.length l0_0) (hc0_0 : l0_0.length ≤ c0_0) (hr0_1 : Kd.C (Kd.int .i64) w A0_1 l0_1.length l0_1) (hc0_1 : l0_1.length ≤ c0_1) (hr1 : Kd.C (Kd.slice 3 (Kd.int .i64)) w A1 l1.length l1) (hc1 : l1.length ≤ c1) (h : place_Place.f l0_0 l0_1 l1 = some (r1, r2)) :
    Calls Try.prog 28 #[.agg #[.slice A0_0 l0_0.length c0_0, .slice A0_1 l0_1.length c0_1], .slice A1 l1.length c1] w fun e w' => ∃ v0_ : Value, e = .returned (.tuple #[v0_, .int .i64 r2]) ∧ Kd.R (Kd.int .i64) 3 w' w.heap.size (fun _ => True) v0_ r1 ∧ Below w.heap.size w w' := by
  unfold place_Place.f at h
  split at h
  · rename_i hb
    have HE := Aside0.mk (Option.some.inj h)
    have HL := Aside0.mk hb.1
    have HLN := Aside0.mk hb.2
    have HR0 := Aside0.mk hr0_0
    have HR1 := Aside0.mk hr1
    have hlen := hr1.2.1
    obtain ⟨n, hn⟩ : ∃ n, n = l1.length := ⟨_, rfl⟩
    rw [← hn] at hlen ⊢
    have HN := Aside0.mk hn
    clear hr0_0 hc0_0 hr0_1 hc0_1 hr1 hc1 h hn hb
    go_enter Try.func28, Try.ntmps28
    go_wp2
    go_loopg [6, 12] n (fun gg s6 s12 wr => ∃ (kk : Nat) (out : List Int), s12 = .int .i64 kk ∧ kk ≤ n ∧ Aside0 (n - kk ≤ gg) ∧ Aside0 (out.length = kk) ∧ Aside0 ((Kd.int .i64).R 3 wr w.heap.size (fun _ => True) s6 out) ∧ Aside0 (wr.heap[w.heap.size]? = some (.cells #[.slice A0_0 l0_0.length c0_0, .slice A0_1 l0_1.length c0_1] 25 (0, 0))) ∧ Aside0 (Below w.heap.size w wr) ∧ Aside0 (w.heap.size ≤ wr.heap.size) ∧ Aside0 (placeL l0_0 (l1.drop kk) out = (r1, r2)))
    case atStart => exact ⟨0, [], rfl, Nat.zero_le _, ⟨Nat.le_refl _⟩, ⟨rfl⟩, ⟨Kd.R_nil _ _ _ _ _⟩, ⟨blk_new _ _⟩, ⟨below_alloc (Below.refl _ _) _⟩, ⟨by simp⟩, HE⟩
    case round =>
      obtain ⟨kk, out, rfl, hkk, HG, HO, HR, HX, HB, HZ, HI⟩ := hrel
      have hx0 : wr.cell? ⟨w.heap.size, 0, none⟩ = some (.slice A0_0 l0_0.length c0_0) := (blk_cell HX.out 0).trans rfl
      by_cases hlt : kk < n
      · have hltz : (kk : Int) < (n : Int) := by omega
        obtain ⟨ad, v, s, rfl, hs, hsm, hk, hcell⟩ := elem_one (d := Kd.slice 3 (Kd.int .i64)) rfl HR1.out HB.out kk (by rw [← HN.out]; exact hlt)
        obtain ⟨As, cs, e, hls, hC⟩ := hk
        obtain rfl : v = .slice As s.length cs := by injection e
        have HI2 := Aside0.mk (by have := HI.out; rw [List.drop_eq_getElem_cons (by rw [← HN.out]; exact hlt), (List.getElem?_eq_some_iff.1 hs).2] at this; exact this : placeL l0_0 (s :: l1.drop (kk + 1)) out = (r1, r2))
        have HCC := Aside0.mk (place2 wr.heap.size As cs s hls A0_0 c0_0 l0_0 w _ (by exact blk_new wr (.cells #[.slice As s.length cs] 23 (0, 0))) (below_alloc2 HB.out HZ.out _) (Kd.C_below hC (below_alloc2 HB.out HZ.out _)) HR0.out (HL.out s hsm))
        clear e hls hC hs hsm
        obtain ⟨z, hz⟩ : ∃ z, z = idxOf (withinB s) l0_0 0 := ⟨_, rfl⟩
        rw [← hz] at HCC
        have HI3 := Aside0.mk (by have := HI2.out; unfold placeL at this; rw [← hz] at this; exact this : (if z < 0 then ([], 5) else placeL l0_0 (l1.drop (kk + 1)) (out ++ [z])) = (r1, r2))
        clear hz
        have HB1 := Aside0.mk (below_alloc2 HB.out HZ.out (.cells #[.slice As s.length cs] 23 (0, 0)))
        have HX1 := Aside0.mk (blk_alloc HX.out (.cells #[.slice As s.length cs] 23 (0, 0)))
        have hx1 : (wr.alloc (.cells #[.slice As s.length cs] 23 (0, 0))).cell? ⟨w.heap.size, 0, none⟩ = some (.slice A0_0 l0_0.length c0_0) := (blk_cell HX1.out 0).trans rfl
        have HR2 := Aside0.mk (Kd.R_alloc HR.out (.cells #[.slice As s.length cs] 23 (0, 0)))
        have HZ1 := Aside0.mk (show w.heap.size ≤ (wr.alloc (.cells #[.slice As s.length cs] 23 (0, 0))).heap.size by have := HZ.out; simp; omega)
        by_cases hneg : z < 0
        · have hd : decide (z < 0) = true := decide_eq_true hneg
          have HI4 := Aside0.mk (by have := HI3.out; rw [if_pos hneg] at this; exact this : (([] : List Int), (5 : Int)) = (r1, r2))
          clear hneg
          go_wp2_with (go_at_call 52; refine HCC.out.mono ?_; rintro e w' ⟨rfl, hb⟩; have HB2 := Aside0.mk (below_then HB1.out HZ1.out hb); clear hb)
          go_ret2
          have e1 := congrArg Prod.fst HI4.out
          have e2 := congrArg Prod.snd HI4.out
          dsimp only at e1 e2
          subst e1 e2
          exact ⟨_, rfl, Kd.R_nil _ _ _ _ _, HB2.out⟩
        · have hd : decide (z < 0) = false := decide_eq_false hneg
          have HI4 := Aside0.mk (by have := HI3.out; rw [if_neg hneg] at this; exact this : placeL l0_0 (l1.drop (kk + 1)) (out ++ [z]) = (r1, r2))
          clear hneg
          go_wp2_with (first | (go_at_call 52; refine HCC.out.mono ?_; rintro e w' ⟨rfl, hb⟩; have HR3 := Aside0.mk (Kd.R_below HR2.out hb); have HX2 := Aside0.mk (blk_below HX1.out hb); have HZ2 := Aside0.mk (Nat.le_trans HZ1.out (below_size hb)); have HB2 := Aside0.mk (below_then HB1.out HZ1.out hb); clear hb) | (at_builtin; refine Kd.R_append (Kd.int .i64) (w0 := w) w.heap.size rfl (.tmp 22) (.tmp 24) 23 3 (.int .i64 0) 8 rfl Try.underlying23 info3 rfl (by decide) (by omega) _ out z [.int .i64 z] (fun _ => True) (fun _ => False) rfl rfl rfl (fun _ hk => hk.elim) (fun _ _ => trivial) HR3.out HB2.out HZ2.out (by have h1 := HO.out; have h2 := HLN.out; have h3 := HN.out; omega) ?_; intro v1 w1 ho hb hg hat; have HR4 := Aside0.mk ho; have HB3 := Aside0.mk hb; have HX3 := Aside0.mk (blk_grown HX2.out hg (Kd.R_ne HR3.out HX2.out (by decide))); have HZ3 := Aside0.mk (Nat.le_trans HZ2.out hg.size); clear ho hb hg hat))
          go_roundg (n - (kk + 1))
          case measure => have := HG.out; omega
          case rel => exact ⟨kk + 1, out ++ [z], by go_num, by omega, ⟨Nat.le_refl _⟩, ⟨by have := HO.out; simp; omega⟩, ⟨HR4.out⟩, ⟨HX3.out⟩, ⟨HB3.out⟩, ⟨HZ3.out⟩, HI4⟩
      · have hltz : ¬ (kk : Int) < (n : Int) := by omega
        have hkn : kk = n := by omega
        have HI4 := Aside0.mk (by have := HI.out; rw [List.drop_eq_nil_of_le (by have := HN.out; omega)] at this; unfold placeL at this; exact this : (out, (0 : Int)) = (r1, r2))
        subst hkn
        go_wp2
        go_ret2
        have e1 := congrArg Prod.fst HI4.out
        have e2 := congrArg Prod.snd HI4.out
        dsimp only at e1 e2
        subst e1 e2
        exact ⟨_, rfl, HR.out, HB.out⟩
  · cases h

end Go.Proofs.Ytpmfdggbccbfaaa.Pr
