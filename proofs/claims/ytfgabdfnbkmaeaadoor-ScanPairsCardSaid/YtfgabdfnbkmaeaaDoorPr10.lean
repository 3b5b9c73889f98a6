-- Printed by a program of this session's own (wip/tools/pp.py) over the kit's print.py; Lean checks it.
import Derived.Test.YtfgabdfnbkmaeaaDoorShelf
import Derived.Test.YtfgabdfnbkmaeaaDoorPr0
import Derived.Test.YtfgabdfnbkmaeaaDoorPr4
import Derived.Test.YtfgabdfnbkmaeaaDoorPr5
import Derived.Test.YtfgabdfnbkmaeaaDoorPr6
import Derived.Test.YtfgabdfnbkmaeaaDoorPr9
namespace Go.Proofs.YtfgabdfnbkmaeaaDoor.Pr
open Go.RowKit Go.Proofs.YtfgabdfnbkmaeaaDoorW.PrintWords Go.Proofs.YtfgabdfnbkmaeaaDoorW.PrintLast Go.Proofs.YtfgabdfnbkmaeaaDoorW.PrintMore
attribute [local go_sem] max2_int min2_int max_two min_two max_three min_three max_four min_four   -- for this text's walks alone
set_option linter.unusedVariables false
set_option linter.unusedSimpArgs false

-- given by hand
/-! ### scan_token: function 14 -/
-- needs scan_run scan_left scan_number
-- IMPORT Derived.Test.YtfgabdfnbkmaeaaDoorShelf
-- words of S32 k32 info32
def signB (c : Int) : Bool := c == 58 || c == 44 || c == 59
def letP (c : Int) : Bool := decide (97 ≤ c) && decide (c ≤ 122)
/-- kind, text, number; how long; fault -/
def tokS (s : ByteArray) : (Int × ByteArray × Int) × Int × Int :=
  if signB (bt s 0) = true then ((3, s.extract 0 1, 0), 1, 0)
  else if letP (bt s 0) = true then ((1, s.extract 0 (runL letP s.data.toList), 0), (runL letP s.data.toList : Nat), 0)
  else if digP (bt s 0) = true ∨ bt s 0 = 45 then ((2, ⟨#[]⟩, (numS s).1), (numS s).2.1, (numS s).2.2)
  else ((0, ⟨#[]⟩, 0), 0, 2)
theorem scan_token.let (c : Int) (w : World) : Calls Tryd.prog 22 #[.int .u8 c] w fun e w' => e = .returned (.bool (letP c)) ∧ Drawn0 w w' := by
  refine scan_letter.calls c (letP c) w ?_
  unfold scan_letter.f letP
  by_cases h : c ≥ 97
  · rw [if_pos h, decide_eq_true (show 97 ≤ c from h), Bool.true_and]
  · rw [if_neg h, decide_eq_false (show ¬ 97 ≤ c from h), Bool.false_and]
theorem tok_new (w : World) (q : Nat) (x : Value) : (((w.alloc (.cells #[.int .i64 0, .string ⟨#[]⟩, .int .i64 0, .int .i64 0] 32 (0, 0))).drewN q).setCell ⟨w.heap.size, 0, none⟩ x).heap[w.heap.size]? = some (.cells #[x, .string ⟨#[]⟩, .int .i64 0, .int .i64 0] 32 (0, 0)) :=
  blk_put (cs := #[.int .i64 0, .string ⟨#[]⟩, .int .i64 0, .int .i64 0]) (blk_drewN (blk_new w _) q) 0 x rfl
theorem tok_put {W : World} {g : Nat} {a b c d : Value} (h : W.heap[g]? = some (.cells #[a, b, c, d] 32 (0, 0))) (x y z u : Value) : ((((W.setCell ⟨g, 0, none⟩ x).setCell ⟨g, 1, none⟩ y).setCell ⟨g, 2, none⟩ z).setCell ⟨g, 3, none⟩ u).heap[g]? = some (.cells #[x, y, z, u] 32 (0, 0)) :=
  blk_put (cs := #[x, y, z, d]) (blk_put (cs := #[x, y, c, d]) (blk_put (cs := #[x, b, c, d]) (blk_put (cs := #[a, b, c, d]) h 0 x rfl) 1 y rfl) 2 z rfl) 3 u rfl
theorem tok_put3 {W : World} {g : Nat} {a b c d : Value} (h : W.heap[g]? = some (.cells #[a, b, c, d] 32 (0, 0))) (y z u : Value) : (((W.setCell ⟨g, 1, none⟩ y).setCell ⟨g, 2, none⟩ z).setCell ⟨g, 3, none⟩ u).heap[g]? = some (.cells #[a, y, z, u] 32 (0, 0)) :=
  blk_put (cs := #[a, y, z, d]) (blk_put (cs := #[a, y, c, d]) (blk_put (cs := #[a, b, c, d]) h 1 y rfl) 2 z rfl) 3 u rfl
set_option maxHeartbeats 4000000 in
theorem scan_token.callsT (s : ByteArray) (h0 : 0 < s.size) (hs : s.size ≤ 100000) (w : World) (hTb : Tab64 w) : Calls Tryd.prog 14 #[.string s] w fun e w' => e = .returned (.tuple #[.agg #[.int .i64 (tokS s).1.1, .string (tokS s).1.2.1, .int .i64 (tokS s).1.2.2, .int .i64 0], .int .i64 (tokS s).2.1, .int .i64 (tokS s).2.2]) ∧ Below w.heap.size w w' := by
  have HTAB := Aside0.mk hTb
  have HX := Aside0.mk (bt_nat s 0 h0).symm
  obtain ⟨b0, b1⟩ := bt_range s 0
  obtain ⟨R, hR⟩ : ∃ R, R = tokS s := ⟨_, rfl⟩
  rw [← hR]
  unfold tokS at hR
  have HRUN := Aside0.mk (scan_run.callsF letP 22 (enters_of Tryd.func22 (by kernel_rfl) rfl) scan_token.let s (by omega))
  have HNUM := Aside0.mk (scan_number.callsN s hs)
  have hml := runL_le letP s.data.toList
  have hT := HTAB.out
  obtain ⟨nn, hnn⟩ : ∃ nn, nn = numS s := ⟨_, rfl⟩
  rw [← hnn] at HNUM hR
  obtain ⟨n1, n2, n3⟩ := nn
  dsimp only at HNUM hR
  obtain ⟨m, hm⟩ : ∃ m, m = runL letP s.data.toList := ⟨_, rfl⟩
  rw [← hm] at HRUN hml hR
  rw [← Lib.size_eq] at hml
  obtain ⟨c, hc⟩ : ∃ c, c = bt s 0 := ⟨_, rfl⟩
  have HX2 := HX.out
  rw [show ((0 : Nat) : Int) = 0 from rfl, ← hc] at HX2
  rw [← hc] at b0 b1 hR
  clear hc HX hm hnn hTb hT
  have HLET := Aside0.mk (scan_token.let c)
  have HDIG := Aside0.mk (scan_number.dig c)
  obtain ⟨z, hz⟩ : ∃ z, z = Lib.indexByte [58, 44, 59] c.toNat.toUInt8 := ⟨_, rfl⟩
  have HIB := Aside0.mk (fun w => (by rw [hz]; exact Go.Proofs.Tryd.strings_IndexByte ⟨#[58, 44, 59]⟩ c w : Calls Tryd.prog 19 #[.string ⟨#[58, 44, 59]⟩, .int .u8 c] w fun e w' => e = .returned (.int .i64 z) ∧ w' = w))
  have hge : decide (0 ≤ z) = signB c := by rw [hz]; exact ib_ge 58 44 59 c b0 b1
  clear hz b0 b1
  have hmz : (m : Int) ≤ (s.size : Int) := by omega
  have hs1 : (1 : Int) ≤ (s.size : Int) := by omega
  cases c1 : signB c with
  | true =>
    rw [c1] at hge
    rw [if_pos c1] at hR
    subst hR
    clear c1
    go_enter Tryd.func14, Tryd.ntmps14
    go_wp2_with (go_at_call 19; refine (HIB.out _).mono ?_; rintro e w' ⟨rfl, rfl⟩)
    (try simp only [Exit.inBlock, Exit.then]); refine bodyPost_ret (results_ctt rfl _ _ w.heap.size 32 _ (0, 0) _ rfl (by (with_reducible repeat (first | refine blk_drewN ?_ _ | refine blk_drew ?_)); exact blk_new _ _) Tryd.underlying32 rfl (by kernel_rfl)) rfl ?_
    exact ⟨rfl, below_alloc (Below.refl _ _) _⟩
  | false =>
    rw [c1] at hge
    rw [if_neg (by rw [c1]; decide)] at hR
    clear c1
    cases c2 : letP c with
    | true =>
      rw [if_pos c2] at hR
      subst hR
      rw [c2] at HLET
      clear c2
      go_enter Tryd.func14, Tryd.ntmps14
      go_wp2_with (first | (go_at_call 19; refine (HIB.out _).mono ?_; rintro e w' ⟨rfl, rfl⟩) | (go_at_call 22; refine (HLET.out _).mono ?_; rintro e w' ⟨rfl, ⟨q1, rfl⟩⟩) | (go_at_call 20; refine (HRUN.out _).mono ?_; rintro e w' ⟨rfl, ⟨q2, rfl⟩⟩))
      (try simp only [Exit.inBlock, Exit.then])
      refine bodyPost_ret (results_ctt rfl _ _ w.heap.size 32 _ (0, 0) _ rfl (tok_put3 (tok_new w _ _) _ _ _) Tryd.underlying32 rfl (by kernel_rfl)) rfl ?_
      exact ⟨rfl, (by repeat (first | (with_reducible first | exact Below.refl _ _ | apply below_alloc | apply pw_below_drewN | refine below_set ?_ (Nat.le_refl _)) | exact Below.refl _ _))⟩
    | false =>
      rw [if_neg (by rw [c2]; decide)] at hR
      rw [c2] at HLET
      clear c2
      have HX : Aside0 (¬ (digP c = true ∨ c = 45) → R = ((0, ⟨#[]⟩, 0), 0, 2)) := ⟨fun h => by rw [hR, if_neg h]⟩
      have HY : Aside0 ((digP c = true ∨ c = 45) → R = ((2, ⟨#[]⟩, n1), n2, n3)) := ⟨fun h => by rw [hR, if_pos h]⟩
      clear hR
      cases c3 : digP c with
      | true =>
        rw [c3] at HDIG
        obtain rfl := HY.out (.inl c3)
        clear c3
        go_enter Tryd.func14, Tryd.ntmps14
        go_wp2_with (first | (go_at_call 19; refine (HIB.out _).mono ?_; rintro e w' ⟨rfl, rfl⟩) | (go_at_call 22; refine (HLET.out _).mono ?_; rintro e w' ⟨rfl, ⟨q1, rfl⟩⟩) | (go_at_call 23; refine (HDIG.out _).mono ?_; rintro e w' ⟨rfl, ⟨q2, rfl⟩⟩) | (go_at_call 24; refine (HNUM.out _ (tab_below HTAB.out (by repeat (first | (with_reducible first | exact Below.refl _ _ | apply below_alloc | apply pw_below_drewN | refine below_set ?_ (Nat.le_refl _)) | exact Below.refl _ _)))).mono ?_; rintro e w' ⟨rfl, hb⟩; have hk := blk_below (tok_new w _ _) hb; have HBK := Aside0.mk hk; have hc0 := (blk_cell hk 0).trans rfl; have hc1 := (blk_cell hk 1).trans rfl; have hc2 := (blk_cell hk 2).trans rfl; have hc3 := (blk_cell hk 3).trans rfl; have hf0 := blk_frozen hk 0; have hf1 := blk_frozen hk 1; have hf2 := blk_frozen hk 2; have hf3 := blk_frozen hk 3; have HB2 := Aside0.mk (below_step (w := w) (by repeat (first | (with_reducible first | exact Below.refl _ _ | apply below_alloc | apply pw_below_drewN | refine below_set ?_ (Nat.le_refl _)) | exact Below.refl _ _)) hb); clear hb hk))
        (try simp only [Exit.inBlock, Exit.then])
        refine bodyPost_ret (results_ctt rfl _ _ w.heap.size 32 _ (0, 0) _ rfl (tok_put (blk_put (cs' := #[.int .i64 2, .string ⟨#[]⟩, .int .i64 n1, .int .i64 0]) HBK.out 2 (.int .i64 n1) rfl) _ _ _ _) Tryd.underlying32 rfl (by kernel_rfl)) rfl ?_
        exact ⟨rfl, (by repeat (first | (with_reducible first | exact Below.refl _ _ | exact HB2.out | apply below_alloc | apply pw_below_drewN | refine below_set ?_ (Nat.le_refl _)) | exact Below.refl _ _))⟩
      | false =>
        rw [c3] at HDIG
        by_cases c4 : c = 45
        · obtain rfl := HY.out (.inr c4)
          clear c3
          have h45 : (c == 45) = true := by simpa using c4
          clear c4
          go_enter Tryd.func14, Tryd.ntmps14
          go_wp2_with (first | (go_at_call 19; refine (HIB.out _).mono ?_; rintro e w' ⟨rfl, rfl⟩) | (go_at_call 22; refine (HLET.out _).mono ?_; rintro e w' ⟨rfl, ⟨q1, rfl⟩⟩) | (go_at_call 23; refine (HDIG.out _).mono ?_; rintro e w' ⟨rfl, ⟨q2, rfl⟩⟩) | (go_at_call 24; refine (HNUM.out _ (tab_below HTAB.out (by repeat (first | (with_reducible first | exact Below.refl _ _ | apply below_alloc | apply pw_below_drewN | refine below_set ?_ (Nat.le_refl _)) | exact Below.refl _ _)))).mono ?_; rintro e w' ⟨rfl, hb⟩; have hk := blk_below (tok_new w _ _) hb; have HBK := Aside0.mk hk; have hc0 := (blk_cell hk 0).trans rfl; have hc1 := (blk_cell hk 1).trans rfl; have hc2 := (blk_cell hk 2).trans rfl; have hc3 := (blk_cell hk 3).trans rfl; have hf0 := blk_frozen hk 0; have hf1 := blk_frozen hk 1; have hf2 := blk_frozen hk 2; have hf3 := blk_frozen hk 3; have HB2 := Aside0.mk (below_step (w := w) (by repeat (first | (with_reducible first | exact Below.refl _ _ | apply below_alloc | apply pw_below_drewN | refine below_set ?_ (Nat.le_refl _)) | exact Below.refl _ _)) hb); clear hb hk))
          (try simp only [Exit.inBlock, Exit.then])
          refine bodyPost_ret (results_ctt rfl _ _ w.heap.size 32 _ (0, 0) _ rfl (tok_put (blk_put (cs' := #[.int .i64 2, .string ⟨#[]⟩, .int .i64 n1, .int .i64 0]) HBK.out 2 (.int .i64 n1) rfl) _ _ _ _) Tryd.underlying32 rfl (by kernel_rfl)) rfl ?_
          exact ⟨rfl, (by repeat (first | (with_reducible first | exact Below.refl _ _ | exact HB2.out | apply below_alloc | apply pw_below_drewN | refine below_set ?_ (Nat.le_refl _)) | exact Below.refl _ _))⟩
        · obtain rfl := HX.out (fun h => h.elim (fun h => by rw [c3] at h; cases h) c4)
          clear c3
          have h45 : (c == 45) = false := beq_false_of_ne c4
          clear c4
          go_enter Tryd.func14, Tryd.ntmps14
          go_wp2_with (first | (go_at_call 19; refine (HIB.out _).mono ?_; rintro e w' ⟨rfl, rfl⟩) | (go_at_call 22; refine (HLET.out _).mono ?_; rintro e w' ⟨rfl, ⟨q1, rfl⟩⟩) | (go_at_call 23; refine (HDIG.out _).mono ?_; rintro e w' ⟨rfl, ⟨q2, rfl⟩⟩))
          (try simp only [Exit.inBlock, Exit.then])
          refine bodyPost_ret (results_ctt rfl _ _ w.heap.size 32 _ (0, 0) _ rfl (tok_put3 (tok_new w _ _) _ _ _) Tryd.underlying32 rfl (by kernel_rfl)) rfl ?_
          exact ⟨rfl, (by repeat (first | (with_reducible first | exact Below.refl _ _ | apply below_alloc | apply pw_below_drewN | refine below_set ?_ (Nat.le_refl _)) | exact Below.refl _ _))⟩

end Go.Proofs.YtfgabdfnbkmaeaaDoor.Pr
