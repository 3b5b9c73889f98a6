-- Printed by a program of this session's own (wip/tools/pp.py) over the kit's print.py; Lean checks it.
import Derived.Test.YtbdlelojlnhhfaaDoorPr0
import Derived.Test.YtbdlelojlnhhfaaDoorPr29
import Derived.Test.YtbdlelojlnhhfaaDoorPr32
import Derived.Test.YtbdlelojlnhhfaaDoorPr40
import Derived.Test.YtbdlelojlnhhfaaDoorPr57
namespace Go.Proofs.YtbdlelojlnhhfaaDoor.Pr
open Go.RowKit Go.Proofs.YtbdlelojlnhhfaaDoorW.PrintWords Go.Proofs.YtbdlelojlnhhfaaDoorW.PrintLast Go.Proofs.YtbdlelojlnhhfaaDoorW.PrintMore
attribute [local go_sem] max2_int min2_int max_two min_two max_three min_three max_four min_four
set_option linter.unusedVariables false
set_option linter.unusedSimpArgs false
/-! ### arboristlaw11_DecompTrees: function 9 -/
mutual
def arboristlaw11_DecompTrees.l0 : Nat → List Int → Int → Bool → Int → List (List Bool) → Int → Int → Option (Bool)
 | 0, _, _, _, _, _, _, _ => none
 | k + 1, x0, x1, x5, x6, x7, x8, x9 => if x9 < x6 then (if 0 ≤ (wrap64 (x9 - 1)) then (if (wrap64 (x9 - 1)) < (x0.length : Int) then (if (wrap64 (x9 + 1)) = 0 then (none) else (if (Int.tmod (Go.bits .and .i64 (rd x0 (wrap64 (x9 - 1))) 65535) (wrap64 (x9 + 1))) < x9 then (if 0 ≤ x9 then (if x9 < (x7.length : Int) then (if 0 ≤ (Int.tmod (Go.bits .and .i64 (rd x0 (wrap64 (x9 - 1))) 65535) (wrap64 (x9 + 1))) then (if (Int.tmod (Go.bits .and .i64 (rd x0 (wrap64 (x9 - 1))) 65535) (wrap64 (x9 + 1))) < ((rd_L8 x7 x9).length : Int) then ((some (x7.set (x9 : Int).toNat ((rd_L8 x7 x9).set ((Int.tmod (Go.bits .and .i64 (rd x0 (wrap64 (x9 - 1))) 65535) (wrap64 (x9 + 1))) : Int).toNat true) : List (List Bool))).bind fun y838 => (if (Int.tmod (Go.bits .and .i64 (rd x0 (wrap64 (x9 - 1))) 65535) (wrap64 (x9 + 1))) < (x7.length : Int) then (if x9 < ((rd_L8 y838 (Int.tmod (Go.bits .and .i64 (rd x0 (wrap64 (x9 - 1))) 65535) (wrap64 (x9 + 1)))).length : Int) then (arboristlaw11_DecompTrees.l0 k x0 x1 x5 x6 (y838.set ((Int.tmod (Go.bits .and .i64 (rd x0 (wrap64 (x9 - 1))) 65535) (wrap64 (x9 + 1))) : Int).toNat ((rd_L8 y838 (Int.tmod (Go.bits .and .i64 (rd x0 (wrap64 (x9 - 1))) 65535) (wrap64 (x9 + 1)))).set (x9 : Int).toNat true)) (wrap64 (x8 + 1)) (wrap64 (x9 + 1))) else (none)) else (none))) else (none)) else (none)) else (none)) else (none)) else (arboristlaw11_DecompTrees.l0 k x0 x1 x5 x6 x7 x8 (wrap64 (x9 + 1))))) else (none)) else (none)) else (arboristlaw11_DecompTrees.l1 k x1 x5 x6 x7 x8 0 0)
def arboristlaw11_DecompTrees.l1 : Nat → Int → Bool → Int → List (List Bool) → Int → Int → Int → Option (Bool)
 | 0, _, _, _, _, _, _, _ => none
 | k + 1, x1, x5, x6, x7, x8, x11, x12 => if x12 < x6 then ((arboristref08_Neighbors.f k x7 x12).bind fun t843 => (if (t843.length : Int) = 0 then (arboristlaw11_DecompTrees.l1 k x1 x5 x6 x7 x8 (wrap64 (x11 + 1)) (wrap64 (x12 + 1))) else (arboristlaw11_DecompTrees.l1 k x1 x5 x6 x7 x8 x11 (wrap64 (x12 + 1))))) else ((arboristref08_Graph.f k x7).bind fun t846 => ((arboristref09_Of.f k x7 (wrap64 (1 + (Int.tmod (Go.bits .and .i64 x1 65535) 3)))).bind fun t849 => ((decomp_Build.f t846 t849).bind fun bt852 => (if bt852.2.2 = 0 then (arboristlaw11_DecompTrees.j2 k x5 ((bt852.1.length : Int) != (wrap64 (x8 + x11))) bt852.1 bt852.2.1) else (arboristlaw11_DecompTrees.j2 k x5 true bt852.1 bt852.2.1)))))
def arboristlaw11_DecompTrees.j2 : Nat → Bool → Bool → List (List Int) → List Int → Option (Bool)
 | 0, _, _, _, _ => none
 | k + 1, x5, x88, x860000, x860001 => if x88 = true then (some false) else (arboristlaw11_DecompTrees.l2 k x5 0 x860000 x860001)
def arboristlaw11_DecompTrees.l2 : Nat → Bool → Int → List (List Int) → List Int → Option (Bool)
 | 0, _, _, _, _ => none
 | k + 1, x5, x15, x860000, x860001 => if x15 < (x860000.length : Int) then (if 0 ≤ x15 then (if ((rd_L1 x860000 x15).length : Int) > 2 then (some false) else (if ((rd_L1 x860000 x15).length : Int) = 0 then (some false) else (arboristlaw11_DecompTrees.l2 k x5 (wrap64 (x15 + 1)) x860000 x860001))) else (none)) else (some x5)
end
def arboristlaw11_DecompTrees.f (k : Nat) (l0 : List Int) (a1 : Int) : Option (Bool) := (arboristlaw11_shown.f).bind fun t830 => ((arboristref08_Empty.f k ((mn (l0.length : Int) 11) + 1)).bind fun t831 => (arboristlaw11_DecompTrees.l0 k l0 a1 t830 ((mn (l0.length : Int) 11) + 1) t831 0 1))
theorem arboristlaw11_DecompTrees.mono_l : ∀ k, (∀ y0 y1 y2 y3 y4 y5 y6, LeO (arboristlaw11_DecompTrees.l0 k y0 y1 y2 y3 y4 y5 y6) (arboristlaw11_DecompTrees.l0 (k + 1) y0 y1 y2 y3 y4 y5 y6)) ∧ (∀ y0 y1 y2 y3 y4 y5 y6, LeO (arboristlaw11_DecompTrees.l1 k y0 y1 y2 y3 y4 y5 y6) (arboristlaw11_DecompTrees.l1 (k + 1) y0 y1 y2 y3 y4 y5 y6)) ∧ (∀ y0 y1 y2 y3, LeO (arboristlaw11_DecompTrees.j2 k y0 y1 y2 y3) (arboristlaw11_DecompTrees.j2 (k + 1) y0 y1 y2 y3)) ∧ (∀ y0 y1 y2 y3, LeO (arboristlaw11_DecompTrees.l2 k y0 y1 y2 y3) (arboristlaw11_DecompTrees.l2 (k + 1) y0 y1 y2 y3))
 | 0 => ⟨fun _ _ _ _ _ _ _ r h => by simp [arboristlaw11_DecompTrees.l0] at h, fun _ _ _ _ _ _ _ r h => by simp [arboristlaw11_DecompTrees.l1] at h, fun _ _ _ _ r h => by simp [arboristlaw11_DecompTrees.j2] at h, fun _ _ _ _ r h => by simp [arboristlaw11_DecompTrees.l2] at h⟩
 | k + 1 => by
  obtain ⟨ih0, ih1, ih2, ih3⟩ := arboristlaw11_DecompTrees.mono_l k;refine ⟨?_, ?_, ?_, ?_⟩;all_goals intros
  all_goals (first | unfold arboristlaw11_DecompTrees.l0 | unfold arboristlaw11_DecompTrees.l1 | unfold arboristlaw11_DecompTrees.j2 | unfold arboristlaw11_DecompTrees.l2)
  all_goals repeat' first
  | (with_reducible first | exact ih0 _ _ _ _ _ _ _ | exact ih1 _ _ _ _ _ _ _ | exact ih2 _ _ _ _ | exact ih3 _ _ _ _ | exact arboristref08_Empty.mono _ _ | exact arboristref08_Graph.mono _ _ | exact arboristref08_Neighbors.mono _ _ _ | exact arboristref09_Of.mono _ _ _ | exact LeO.refl _ | exact LeO.none _ | refine LeO.ite ?_ ?_ | refine LeO.bind ?_ (fun _ => ?_))
  | exact ih0 _ _ _ _ _ _ _
  | exact ih1 _ _ _ _ _ _ _
  | exact ih2 _ _ _ _
  | exact ih3 _ _ _ _
  | exact arboristref08_Empty.mono _ _
  | exact arboristref08_Graph.mono _ _
  | exact arboristref08_Neighbors.mono _ _ _
  | exact arboristref09_Of.mono _ _ _
  | exact LeO.none _
  | refine LeO.ite ?_ ?_
  | refine LeO.bind ?_ (fun _ => ?_)
theorem arboristlaw11_DecompTrees.mono : ∀ a0 a1 k, LeO (arboristlaw11_DecompTrees.f k a0 a1) (arboristlaw11_DecompTrees.f (k + 1) a0 a1) := by
 intro a0 a1 k
 obtain ⟨ih0, ih1, ih2, ih3⟩ := arboristlaw11_DecompTrees.mono_l k;unfold arboristlaw11_DecompTrees.f
 repeat' first
   | (with_reducible first | exact ih0 _ _ _ _ _ _ _ | exact ih1 _ _ _ _ _ _ _ | exact ih2 _ _ _ _ | exact ih3 _ _ _ _ | exact arboristref08_Empty.mono _ _ | exact arboristref08_Graph.mono _ _ | exact arboristref08_Neighbors.mono _ _ _ | exact arboristref09_Of.mono _ _ _ | exact LeO.refl _ | exact LeO.none _ | refine LeO.ite ?_ ?_ | refine LeO.bind ?_ (fun _ => ?_))
   | exact ih0 _ _ _ _ _ _ _
   | exact ih1 _ _ _ _ _ _ _
   | exact ih2 _ _ _ _
   | exact ih3 _ _ _ _
   | exact arboristref08_Empty.mono _ _
   | exact arboristref08_Graph.mono _ _
   | exact arboristref08_Neighbors.mono _ _ _
   | exact arboristref09_Of.mono _ _ _
   | exact LeO.none _
   | refine LeO.ite ?_ ?_
   | refine LeO.bind ?_ (fun _ => ?_)
set_option maxHeartbeats 8000000 in
set_option maxRecDepth 100000 in
theorem arboristlaw11_DecompTrees.calls (k : Nat) (A0 : Option Addr) (c0 : Nat) (l0 : List Int) (a1 : Int) (r : Bool) (w : World) (hTb : Tab64 w) (hr0 : Kd.C (Kd.int .i64) w A0 l0.length l0) (hc0 : l0.length ≤ c0) (hT : r = true) (h : arboristlaw11_DecompTrees.f k l0 a1 = some r) :
  Calls Tryd.prog 9 #[.slice A0 l0.length c0, .int .i64 a1] w fun e w' => e = .returned (.bool r) ∧ Below w.heap.size w w' := by
 have HTAB := Aside0.mk hTb;clear hTb;have HT_ := Aside0.mk (show r = true from hT);clear hT;have hu28 := Tryd.underlying28;have HR0 := Aside0.mk hr0;have HC0 := Aside0.mk hc0;clear hr0 hc0;have HB := Aside0.mk (Below.refl w.heap.size w);have H : ((arboristlaw11_shown.f).bind fun t830 => ((arboristref08_Empty.f k ((mn (l0.length : Int) 11) + 1)).bind fun t831 => (arboristlaw11_DecompTrees.l0 k l0 a1 t830 ((mn (l0.length : Int) 11) + 1) t831 0 1))) = some r := h;clear h;replace H := Option.bind_eq_some_iff.mp H;obtain ⟨t830, A30, H⟩ := H;(try dsimp only at H);have A3 := Aside0.mk A30;clear A30;obtain ⟨ji4, hji4⟩ : ∃ j_ : Int, (mn (l0.length : Int) 11) = j_ := ⟨_, rfl⟩;replace H : ((arboristref08_Empty.f k ((ji4) + 1)).bind fun t831 => (arboristlaw11_DecompTrees.l0 k l0 a1 t830 ((ji4) + 1) t831 0 1)) = some r := by first | (rw [hji4] at H; exact H) | (simp only [hji4] at H ⊢; exact H)
 (try rw [hji4] at A3);(try (have hji4h : ji4 ≤ 11 := by (rw [← hji4]; unfold mn; (repeat' split) <;> omega)));(try (have hji4g : ji4 ≤ 64 := by omega));(try (have hji4l : 0 ≤ ji4 := by (rw [← hji4]; unfold mn; (repeat' split) <;> omega)));(try (have hji4m : 0 ≤ ji4 := by omega));have hji4_ : (if 11 < (l0.length : Int) then 11 else (l0.length : Int)) = ji4 := hji4;replace H := Option.bind_eq_some_iff.mp H;obtain ⟨t831, A50, H⟩ := H;(try dsimp only at H);have A5 := Aside0.mk A50;clear A50;have H' := Aside0.mk H;clear H;go_enter Tryd.func9, Tryd.ntmps9
 go_wp2_with (first | ((with_reducible refine gate_callee (f := 10) rfl ?_); refine goesL_ (some 16) rfl rfl Tryd.func10 (by kernel_rfl) rfl #[] rfl qM ?_; (with_reducible refine (arboristlaw11_shown.calls (hTb := (by first | exact HTAB.out | exact tab_drewN HTAB.out _ | exact tab_below HTAB.out (by repeat (first | (with_reducible first | exact HB.out | apply below_alloc | apply pw_below_drewN | apply below_drew1 | refine below_set ?_ GE859.out) | exact HB.out))))  t830 _ A3.out).mono ?_); rintro e w6 ⟨rfl, hb⟩; refine ⟨_, rfl, ?_⟩; have n0_ := Aside0.mk (below_step (qB HB.out) hb); clear HB; have HB := n0_; clear n0_; (try clear hb); (try clear hb2); (try clear hk); (try clear hi)) | ((with_reducible refine gate_callee (f := 16) rfl ?_); refine goesL_ (some 22) rfl rfl Tryd.func16 (by kernel_rfl) rfl #[.int .i64 ((ji4) + 1)] rfl (by (try simp only [List.map_toArray, List.map_cons, List.map_nil]); first | done | (simp only [hji4]; rfl) | rfl | (simp only [List.length_drop, List.length_take]; rfl)) ?_; (with_reducible refine (arboristref08_Empty.calls k ((ji4) + 1) t831 _ A5.out).mono ?_); rintro e w7 ⟨v832, rfl, ho0, hb⟩; refine ⟨_, rfl, ?_⟩; have n0_ := Aside0.mk (Kd.S_lower ho0 (below_size (qB HB.out))); have n1_ := Aside0.mk (below_step (qB HB.out) hb); clear HB; have HO833 := n0_; have HB := n1_; clear n0_ n1_; (try clear hb); (try clear hb2); (try clear hk); (try clear hi); (try clear ho0)))
 go_loopg [8, 9] k (fun kq v8 v9 w' => ∃ (x7_1 : List (List Bool)) (x8_1 : Int) (x9_1 : Int), v8 = .int .i64 x8_1 ∧ v9 = .int .i64 x9_1 ∧ Aside0 (arboristlaw11_DecompTrees.l0 kq l0 a1 t830 ((ji4) + 1) x7_1 x8_1 x9_1 = some r) ∧ Aside0 (kq ≤ k) ∧ Aside0 (Kd.S (Kd.slice 4 Kd.bool) 40 w' w.heap.size (fun _ => True) v832 x7_1) ∧ Aside0 (Below w.heap.size w w'))
 case atStart => exact ⟨(t831), (0), (1), (by first | rfl | (simp; done) | (simp [*]; done)), (by first | rfl | (simp; done) | (simp [*]; done)), H', ⟨Nat.le_refl _⟩, ⟨by (with_reducible repeat (first | apply Kd.S_alloc | apply Kd.S_drewN | apply Kd.S_drew)); exact HO833.out⟩, ⟨by repeat (first | (with_reducible first | exact HB.out | apply below_alloc | apply pw_below_drewN | apply below_drew1) | exact HB.out)⟩⟩
 case round =>
  clear H';try clear c1
  try clear p2
  obtain ⟨x7_1, x8_1, x9_1, rfl, rfl, HA, HK1, HO_7, HB⟩ := hrel;cases gk with
  | zero => exact absurd HA.out (by simp [arboristlaw11_DecompTrees.l0])
  | succ k1 =>
   have H := HA.out;clear HA;simp only [arboristlaw11_DecompTrees.l0] at H
   by_cases c8 : x9_1 < ((ji4) + 1)
   ·rw [if_pos c8] at H
    have c8b0 : decide (x9_1 < ((ji4) + 1)) = true := decide_eq_true c8;clear c8;obtain ⟨ji9, hji9⟩ : ∃ j_ : Int, (wrap64 (x9_1 - 1)) = j_ := ⟨_, rfl⟩;replace H : (if 0 ≤ (ji9) then (if (ji9) < (l0.length : Int) then (if (wrap64 (x9_1 + 1)) = 0 then (none) else (if (Int.tmod (Go.bits .and .i64 (rd l0 (ji9)) 65535) (wrap64 (x9_1 + 1))) < x9_1 then (if 0 ≤ x9_1 then (if x9_1 < (x7_1.length : Int) then (if 0 ≤ (Int.tmod (Go.bits .and .i64 (rd l0 (ji9)) 65535) (wrap64 (x9_1 + 1))) then (if (Int.tmod (Go.bits .and .i64 (rd l0 (ji9)) 65535) (wrap64 (x9_1 + 1))) < ((rd_L8 x7_1 x9_1).length : Int) then ((some (x7_1.set (x9_1 : Int).toNat ((rd_L8 x7_1 x9_1).set ((Int.tmod (Go.bits .and .i64 (rd l0 (ji9)) 65535) (wrap64 (x9_1 + 1))) : Int).toNat true) : List (List Bool))).bind fun y838 => (if (Int.tmod (Go.bits .and .i64 (rd l0 (ji9)) 65535) (wrap64 (x9_1 + 1))) < (x7_1.length : Int) then (if x9_1 < ((rd_L8 y838 (Int.tmod (Go.bits .and .i64 (rd l0 (ji9)) 65535) (wrap64 (x9_1 + 1)))).length : Int) then (arboristlaw11_DecompTrees.l0 k1 l0 a1 t830 ((ji4) + 1) (y838.set ((Int.tmod (Go.bits .and .i64 (rd l0 (ji9)) 65535) (wrap64 (x9_1 + 1))) : Int).toNat ((rd_L8 y838 (Int.tmod (Go.bits .and .i64 (rd l0 (ji9)) 65535) (wrap64 (x9_1 + 1)))).set (x9_1 : Int).toNat true)) (wrap64 (x8_1 + 1)) (wrap64 (x9_1 + 1))) else (none)) else (none))) else (none)) else (none)) else (none)) else (none)) else (arboristlaw11_DecompTrees.l0 k1 l0 a1 t830 ((ji4) + 1) x7_1 x8_1 (wrap64 (x9_1 + 1))))) else (none)) else (none)) = some r := by first | (rw [hji9] at H; exact H) | (simp only [hji9] at H ⊢; exact H)
    have hji9w : (IntKind.i64.wrap (x9_1 - 1)) = ji9 := (i64_w _).trans hji9;by_cases c10 : 0 ≤ (ji9)
    ·rw [if_pos c10] at H
     have c10b0 : decide (0 ≤ (ji9)) = true := decide_eq_true c10;clear c10;by_cases c11 : (ji9) < (l0.length : Int)
     ·rw [if_pos c11] at H
      have c11b0 : decide ((ji9) < (l0.length : Int)) = true := decide_eq_true c11;clear c11;by_cases c12 : (wrap64 (x9_1 + 1)) = 0
      ·rw [if_pos c12] at H
       exact absurd H (by simp)
      ·rw [if_neg c12] at H
       have c12b0 : ((wrap64 (x9_1 + 1)) == 0) = false := beq_eq_false_iff_ne.mpr c12;have c12b1 : ((wrap64 (x9_1 + 1)) != 0) = true := bne_iff_ne.mpr c12;by_cases c13 : (Int.tmod (Go.bits .and .i64 (rd l0 (ji9)) 65535) (wrap64 (x9_1 + 1))) < x9_1
       ·rw [if_pos c13] at H
        have c13b0 : decide ((Int.tmod (Go.bits .and .i64 (rd l0 (ji9)) 65535) (wrap64 (x9_1 + 1))) < x9_1) = true := decide_eq_true c13;clear c13;by_cases c14 : 0 ≤ x9_1
        ·rw [if_pos c14] at H
         have c14b0 : decide (0 ≤ x9_1) = true := decide_eq_true c14;clear c14;by_cases c15 : x9_1 < (x7_1.length : Int)
         ·rw [if_pos c15] at H
          have c15b0 : decide (x9_1 < (x7_1.length : Int)) = true := decide_eq_true c15;clear c15;obtain ⟨ji16, hji16⟩ : ∃ j_ : Int, (Int.tmod (Go.bits .and .i64 (rd l0 (ji9)) 65535) (wrap64 (x9_1 + 1))) = j_ := ⟨_, rfl⟩;(try (have hji16z := hji16; rw [show wrap64 (x9_1 + 1) = (x9_1 + 1) from (by unfold wrap64; omega)] at hji16z));replace H : (if 0 ≤ (ji16) then (if (ji16) < ((rd_L8 x7_1 x9_1).length : Int) then ((some (x7_1.set (x9_1 : Int).toNat ((rd_L8 x7_1 x9_1).set ((ji16) : Int).toNat true) : List (List Bool))).bind fun y838 => (if (ji16) < (x7_1.length : Int) then (if x9_1 < ((rd_L8 y838 (ji16)).length : Int) then (arboristlaw11_DecompTrees.l0 k1 l0 a1 t830 ((ji4) + 1) (y838.set ((ji16) : Int).toNat ((rd_L8 y838 (ji16)).set (x9_1 : Int).toNat true)) (wrap64 (x8_1 + 1)) (wrap64 (x9_1 + 1))) else (none)) else (none))) else (none)) else (none)) = some r := by first | (rw [hji16] at H; exact H) | (simp only [hji16] at H ⊢; exact H)
          (try rw [hji16] at c13b0);by_cases c17 : 0 ≤ (ji16)
          ·rw [if_pos c17] at H
           have c17b0 : decide (0 ≤ (ji16)) = true := decide_eq_true c17;clear c17;by_cases c18 : (ji16) < ((rd_L8 x7_1 x9_1).length : Int)
           ·rw [if_pos c18] at H
            have c18b0 : decide ((ji16) < ((rd_L8 x7_1 x9_1).length : Int)) = true := decide_eq_true c18;clear c18;obtain ⟨y836, hy836⟩ : ∃ y_ : List Bool, y_ = ((rd_L8 x7_1 x9_1).set ((ji16) : Int).toNat true) := ⟨_, rfl⟩;replace H : ((some (x7_1.set (x9_1 : Int).toNat y836 : List (List Bool))).bind fun y838 => (if (ji16) < (x7_1.length : Int) then (if x9_1 < ((rd_L8 y838 (ji16)).length : Int) then (arboristlaw11_DecompTrees.l0 k1 l0 a1 t830 ((ji4) + 1) (y838.set ((ji16) : Int).toNat ((rd_L8 y838 (ji16)).set (x9_1 : Int).toNat true)) (wrap64 (x8_1 + 1)) (wrap64 (x9_1 + 1))) else (none)) else (none))) = some r := by first | (rw [hy836]; with_reducible exact H) | (have H2_ := (Option.bind_some _ _).symm.trans H; rw [hy836]; with_reducible exact H2_) | (have H2_ := (Option.bind_some _ _).symm.trans H; with_reducible exact H2_) | with_reducible exact H | (rw [hy836]; exact H) | exact H
            have Ny836 := Aside0.mk hy836;clear hy836;obtain ⟨y838, hy838⟩ : ∃ y_ : List (List Bool), y_ = (x7_1.set (x9_1 : Int).toNat y836) := ⟨_, rfl⟩;replace H : (if (ji16) < (x7_1.length : Int) then (if x9_1 < ((rd_L8 y838 (ji16)).length : Int) then (arboristlaw11_DecompTrees.l0 k1 l0 a1 t830 ((ji4) + 1) (y838.set ((ji16) : Int).toNat ((rd_L8 y838 (ji16)).set (x9_1 : Int).toNat true)) (wrap64 (x8_1 + 1)) (wrap64 (x9_1 + 1))) else (none)) else (none)) = some r := by first | (rw [hy838]; with_reducible exact H) | (have H2_ := (Option.bind_some _ _).symm.trans H; rw [hy838]; with_reducible exact H2_) | (have H2_ := (Option.bind_some _ _).symm.trans H; with_reducible exact H2_) | with_reducible exact H | (rw [hy838]; exact H) | exact H
            have Ny838 := Aside0.mk hy838;clear hy838;by_cases c20 : (ji16) < (x7_1.length : Int)
            ·rw [if_pos c20] at H
             have c20b0 : decide ((ji16) < (x7_1.length : Int)) = true := decide_eq_true c20;clear c20;by_cases c21 : x9_1 < ((rd_L8 y838 (ji16)).length : Int)
             ·rw [if_pos c21] at H
              have c21b0 : decide (x9_1 < ((rd_L8 y838 (ji16)).length : Int)) = true := decide_eq_true c21;clear c21;obtain ⟨y840, hy840⟩ : ∃ y_ : List Bool, y_ = ((rd_L8 y838 (ji16)).set (x9_1 : Int).toNat true) := ⟨_, rfl⟩;replace H : (arboristlaw11_DecompTrees.l0 k1 l0 a1 t830 ((ji4) + 1) (y838.set ((ji16) : Int).toNat y840) (wrap64 (x8_1 + 1)) (wrap64 (x9_1 + 1))) = some r := by first | (rw [hy840]; with_reducible exact H) | (have H2_ := (Option.bind_some _ _).symm.trans H; rw [hy840]; with_reducible exact H2_) | (have H2_ := (Option.bind_some _ _).symm.trans H; with_reducible exact H2_) | with_reducible exact H | (rw [hy840]; exact H) | exact H
              have Ny840 := Aside0.mk hy840;clear hy840;obtain ⟨y842, hy842⟩ : ∃ y_ : List (List Bool), y_ = (y838.set ((ji16) : Int).toNat y840) := ⟨_, rfl⟩;replace H : (arboristlaw11_DecompTrees.l0 k1 l0 a1 t830 ((ji4) + 1) y842 (wrap64 (x8_1 + 1)) (wrap64 (x9_1 + 1))) = some r := by first | (rw [hy842]; with_reducible exact H) | (have H2_ := (Option.bind_some _ _).symm.trans H; rw [hy842]; with_reducible exact H2_) | (have H2_ := (Option.bind_some _ _).symm.trans H; with_reducible exact H2_) | with_reducible exact H | (rw [hy842]; exact H) | exact H
              have Ny842 := Aside0.mk hy842;clear hy842;have H' := Aside0.mk H;clear H;have p834 : 0 ≤ ((ji9) : Int) := of_decide_eq_true qA;have q834 : (ji9) < (l0.length : Int) := of_decide_eq_true qA;obtain ⟨ad834, e834, hx834_0⟩ := Kd.at_int HR0.out (ji9) p834 q834;cases e834
              replace hx834_0 := (HB.out.cell (World.block_lt_of_cell? w _ hx834_0)).trans hx834_0;replace p834 := eq_true p834;replace q834 := eq_true q834;obtain ⟨Ao23, co23, eo23⟩ := Kd.S_slice HO_7.out;subst eo23;have p835 : 0 ≤ (x9_1 : Int) := of_decide_eq_true qA;have q835 : x9_1 < (x7_1.length : Int) := of_decide_eq_true qA;obtain ⟨ad835, A835_0, c835_0, e835, hx835_0, hl835_0, hi835_0⟩ := at_L8 (Kd.S_reads' HO_7.out).2.2 x9_1 p835 q835;cases e835
              obtain ⟨ce835, hce835, hMe835, hcc835⟩ := Kd.S_get HO_7.out [] x9_1 p835 (by first | exact q835 | exact of_decide_eq_true qA | (have e_ := (Kd.S_reads' HO_7.out).1; omega));obtain ⟨ve835_0, rfl, ge835_0⟩ := hMe835;have hv835_0 := hcc835 0 _ rfl;rw [Nat.add_zero, show ((Kd.slice 4 Kd.bool)).sz = 1 from rfl, Nat.mul_one] at hv835_0
              replace hv835_0 := Option.some.inj (hv835_0.symm.trans hx835_0);rw [hv835_0] at ge835_0
              have HL835_0 := Aside0.mk (show Kd.R Kd.bool 4 _ _ _ _ (rd_L8 x7_1 x9_1) from ge835_0);clear hv835_0 ge835_0;have HX835_0 := Aside0.mk hx835_0;clear hcc835 hce835;have HR835_0 := Aside0.mk hi835_0;have HC835_0 := Aside0.mk hl835_0;clear hi835_0 hl835_0;replace p835 := eq_true p835;replace q835 := eq_true q835;have p19 : 0 ≤ ((ji16) : Int) := of_decide_eq_true qA;have q19 : ((ji16) : Int) < (((rd_L8 x7_1 x9_1).length : Int) : Int) := of_decide_eq_true qA;obtain ⟨go19, co19, eo19, gb19, gl19, cl19, HG19⟩ := Kd.R_form HL835_0.out (by omega);(first | cases eo19 | (injection eo19 with ea_ en_ ec_; (first | subst ea_ | (injection ea_ with ea_; subst ea_)); subst ec_; clear en_));have GB19 := Aside0.mk gb19;have GG19 := Aside0.mk HG19;clear gb19 gl19 HG19;obtain ⟨hx19_0, hf19_0⟩ := Kd.R_celln false HL835_0.out ((ji16) : Int) p19 q19;replace p19 := eq_true p19;replace q19 := eq_true q19;have hq24 : (x9_1 : Int) < (x7_1.length : Int) := (by have h_ : (x9_1 : Int) < ((x7_1.length : Int) : Int) := of_decide_eq_true qA; first | exact h_ | (have e_ := (Kd.S_reads' HO_7.out).1; omega) | simpa only [List.length_set, List.length_set] using h_);obtain ⟨oki24, ce24, hcl24, hM24, hcc24, hok24, hbk24⟩ := Kd.S_borrow HO_7.out [] (x9_1 : Int) (of_decide_eq_true qA) (by first | exact hq24 | (have e_ := (Kd.S_reads' HO_7.out).1; have h_ := hq24; omega));obtain ⟨ve24_0, rfl, ge24_0⟩ := hM24;have hv24 := hcc24 0 _ rfl;rw [Nat.add_zero, show ((Kd.slice 4 Kd.bool)).sz = 1 from rfl, Nat.mul_one] at hv24
              replace hv24 := Option.some.inj (hv24.symm.trans HX835_0.out);subst hv24;clear hcc24 hcl24;replace ge24_0 := (show Kd.R Kd.bool 4 _ _ _ _ (rd_L8 x7_1 x9_1) from ge24_0);have HP24 := Kd.R_putg ge24_0 ((ji16) : Int) true;go_wp2_with (first | ((with_reducible refine gate_store (t := 4) (p := 45) rfl ?_); refine store_event (t := 4) (p := 45) (v := ?vo_w25) (w1 := (wr.setCell ⟨go19, ((ji16) : Int).toNat, none⟩ (.bool true))) ?hg ?ho ?hn ?hr ?_; (case ho => rfl); (case hg => rfl); (case hn => rfl); (case hr => first | (go_simp; done) | (go_simp; rfl)); intro w25 hw; have hg : wr.grownBy w25 (some go19) := (by rw [hw]; exact HP24.2); have hz_ : Kd.R Kd.bool 4 w25 w.heap.size oki24 (.slice (some ⟨go19, 0, none⟩) (rd_L8 x7_1 x9_1).length c835_0) y836 := (by rw [hw, Ny836.out]; exact HP24.1); have hp_ : Kd.S (Kd.slice 4 Kd.bool) 40 w25 w.heap.size (fun _ => True) (.slice (some ad835) x7_1.length co23) y838 := (by rw [Ny838.out]; exact hbk24 hg (fun k_ e_ => by injection e_ with e_; subst e_; exact ge24_0.1 _ rfl) (Kd.M_row hz_)); have hm_ := Kd.R_mono hz_ hok24; clear HP24 hbk24; have n0_ := Aside0.mk (hp_); have n1_ := Aside0.mk ((by rw [hw]; exact below_set (HB.out) GB19.out : Below w.heap.size w w25)); have n2_ := Aside0.mk (hm_); have n3_ := Aside0.mk ((Kd.R_reads' hm_).2.1); clear HO_7; clear HB; clear HL835_0; have HO_7 := n0_; have HB := n1_; have HL862 := n2_; have HC837 := n3_; clear n0_ n1_ n2_ n3_; clear hg hw hp_ hz_ hm_ hok24; have p839 : 0 ≤ ((ji16) : Int) := of_decide_eq_true qA; have q839 : (ji16) < (y838.length : Int) := (by have h_ : ((ji16) : Int) < ((x7_1.length : Int) : Int) := of_decide_eq_true qA; first | (have e_ := (Kd.S_reads' HO_7.out).1; omega) | simpa only [Ny838.out, List.length_set] using h_); have ql839 : (((ji16) : Int) < ((x7_1.length : Int) : Int)) = True := eq_true (of_decide_eq_true qA); obtain ⟨ad839, A839_0, c839_0, e839, hx839_0, hl839_0, hi839_0⟩ := at_L8 (Kd.S_reads' HO_7.out).2.2 (ji16) p839 q839; obtain rfl : ad835 = ad839 := (by injection e839); obtain ⟨ce839, hce839, hMe839, hcc839⟩ := Kd.S_get HO_7.out [] (ji16) p839 (by first | exact q839 | exact of_decide_eq_true qA | (have e_ := (Kd.S_reads' HO_7.out).1; omega)); obtain ⟨ve839_0, rfl, ge839_0⟩ := hMe839; have hv839_0 := hcc839 0 _ rfl; rw [Nat.add_zero, show ((Kd.slice 4 Kd.bool)).sz = 1 from rfl, Nat.mul_one] at hv839_0; replace hv839_0 := Option.some.inj (hv839_0.symm.trans hx839_0); rw [hv839_0] at ge839_0; have HL839_0 := Aside0.mk (show Kd.R Kd.bool 4 _ _ _ _ (rd_L8 y838 (ji16)) from ge839_0); clear hv839_0 ge839_0; have HX839_0 := Aside0.mk hx839_0; clear hcc839 hce839; have HR839_0 := Aside0.mk hi839_0; have HC839_0 := Aside0.mk hl839_0; clear hi839_0 hl839_0; replace p839 := eq_true p839; replace q839 := eq_true q839; have p22 : 0 ≤ (x9_1 : Int) := of_decide_eq_true qA; have q22 : (x9_1 : Int) < (((rd_L8 y838 (ji16)).length : Int) : Int) := of_decide_eq_true qA; obtain ⟨go22, co22, eo22, gb22, gl22, cl22, HG22⟩ := Kd.R_form HL839_0.out (by omega); (first | cases eo22 | (injection eo22 with ea_ en_ ec_; (first | subst ea_ | (injection ea_ with ea_; subst ea_)); subst ec_; clear en_)); have GB22 := Aside0.mk gb22; have GG22 := Aside0.mk HG22; clear gb22 gl22 HG22; obtain ⟨hx22_0, hf22_0⟩ := Kd.R_celln false HL839_0.out (x9_1 : Int) p22 q22; replace p22 := eq_true p22; replace q22 := eq_true q22; have hq26 : ((ji16) : Int) < (y838.length : Int) := (by have h_ : ((ji16) : Int) < ((x7_1.length : Int) : Int) := of_decide_eq_true qA; first | exact h_ | (have e_ := (Kd.S_reads' HO_7.out).1; omega) | simpa only [Ny838.out, List.length_set] using h_); obtain ⟨oki26, ce26, hcl26, hM26, hcc26, hok26, hbk26⟩ := Kd.S_borrow HO_7.out [] ((ji16) : Int) (of_decide_eq_true qA) (by first | exact hq26 | (have e_ := (Kd.S_reads' HO_7.out).1; have h_ := hq26; omega)); obtain ⟨ve26_0, rfl, ge26_0⟩ := hM26; have hv26 := hcc26 0 _ rfl; rw [Nat.add_zero, show ((Kd.slice 4 Kd.bool)).sz = 1 from rfl, Nat.mul_one] at hv26; replace hv26 := Option.some.inj (hv26.symm.trans HX839_0.out); subst hv26; clear hcc26 hcl26; replace ge26_0 := (show Kd.R Kd.bool 4 _ _ _ _ (rd_L8 y838 (ji16)) from ge26_0); have HP26 := Kd.R_putg ge26_0 (x9_1 : Int) true) | ((with_reducible refine gate_store (t := 4) (p := 51) rfl ?_); refine store_event (t := 4) (p := 51) (v := ?vo_w27) (w1 := (w25.setCell ⟨go22, (x9_1 : Int).toNat, none⟩ (.bool true))) ?hg ?ho ?hn ?hr ?_; (case ho => rfl); (case hg => rfl); (case hn => rfl); (case hr => first | (go_simp; done) | (go_simp; rfl)); intro w27 hw; have hg : w25.grownBy w27 (some go22) := (by rw [hw]; exact HP26.2); have hz_ : Kd.R Kd.bool 4 w27 w.heap.size oki26 (.slice (some ⟨go22, 0, none⟩) (rd_L8 y838 (ji16)).length c839_0) y840 := (by rw [hw, Ny840.out]; exact HP26.1); have hp_ : Kd.S (Kd.slice 4 Kd.bool) 40 w27 w.heap.size (fun _ => True) (.slice (some ad835) x7_1.length co23) y842 := (by rw [Ny842.out]; exact hbk26 hg (fun k_ e_ => by injection e_ with e_; subst e_; exact ge26_0.1 _ rfl) (Kd.M_row hz_)); have hm_ := Kd.R_mono hz_ hok26; clear HP26 hbk26; have n0_ := Aside0.mk (hp_); have n1_ := Aside0.mk ((by rw [hw]; exact below_set (HB.out) GB22.out : Below w.heap.size w w27)); have n2_ := Aside0.mk (hm_); have n3_ := Aside0.mk ((Kd.R_reads' hm_).2.1); clear HO_7; clear HB; clear HL862; clear HL839_0; have HO_7 := n0_; have HB := n1_; have HL863 := n2_; have HC841 := n3_; clear n0_ n1_ n2_ n3_; clear hg hw hp_ hz_ hm_ hok26))
              first | go_roundg k1 | (simp only [← hji4, ← hji9, ← hji16]; (try simp only [← hji4, ← hji9, ← hji16] at H'); go_roundg k1)
              case measure => have := HK1.out; omega
              case rel => exact ⟨(y842), (wrap64 (x8_1 + 1)), (wrap64 (x9_1 + 1)), (by first | rfl | (simp; done) | (simp [*]; done)), (by first | rfl | (simp; done) | (simp [*]; done)), H', ⟨by have := HK1.out; omega⟩, ⟨by (with_reducible repeat (first | apply Kd.S_alloc | apply Kd.S_drewN | apply Kd.S_drew)); exact HO_7.out⟩, ⟨by repeat (first | (with_reducible first | exact HB.out | apply below_alloc | apply pw_below_drewN | apply below_drew1) | exact HB.out)⟩⟩
             ·rw [if_neg c21] at H
              exact absurd H (by simp)
            ·rw [if_neg c20] at H
             exact absurd H (by simp)
           ·rw [if_neg c18] at H
            exact absurd H (by simp)
          ·rw [if_neg c17] at H
           exact absurd H (by simp)
         ·rw [if_neg c15] at H
          exact absurd H (by simp)
        ·rw [if_neg c14] at H
         exact absurd H (by simp)
       ·rw [if_neg c13] at H
        have c13b0 : decide ((Int.tmod (Go.bits .and .i64 (rd l0 (ji9)) 65535) (wrap64 (x9_1 + 1))) < x9_1) = false := decide_eq_false c13;clear c13;have H' := Aside0.mk H;clear H;have p834 : 0 ≤ ((ji9) : Int) := of_decide_eq_true qA;have q834 : (ji9) < (l0.length : Int) := of_decide_eq_true qA;obtain ⟨ad834, e834, hx834_0⟩ := Kd.at_int HR0.out (ji9) p834 q834;cases e834
        replace hx834_0 := (HB.out.cell (World.block_lt_of_cell? w _ hx834_0)).trans hx834_0;replace p834 := eq_true p834;replace q834 := eq_true q834;go_wp2
        first | go_roundg k1 | (simp only [← hji4, ← hji9]; (try simp only [← hji4, ← hji9] at H'); go_roundg k1)
        case measure => have := HK1.out; omega
        case rel => exact ⟨(x7_1), (x8_1), (wrap64 (x9_1 + 1)), (by first | rfl | (simp; done) | (simp [*]; done)), (by first | rfl | (simp; done) | (simp [*]; done)), H', ⟨by have := HK1.out; omega⟩, ⟨by (with_reducible repeat (first | apply Kd.S_alloc | apply Kd.S_drewN | apply Kd.S_drew)); exact HO_7.out⟩, ⟨by repeat (first | (with_reducible first | exact HB.out | apply below_alloc | apply pw_below_drewN | apply below_drew1) | exact HB.out)⟩⟩
     ·rw [if_neg c11] at H
      exact absurd H (by simp)
    ·rw [if_neg c10] at H
     exact absurd H (by simp)
   ·rw [if_neg c8] at H
    have c8b0 : decide (x9_1 < ((ji4) + 1)) = false := decide_eq_false c8;clear c8;have H' := Aside0.mk H;clear H;go_wp2
    go_loopg [11, 12] k1 (fun kq v11 v12 w' => ∃ (x11_2 : Int) (x12_2 : Int), v11 = .int .i64 x11_2 ∧ v12 = .int .i64 x12_2 ∧ Aside0 (arboristlaw11_DecompTrees.l1 kq a1 t830 ((ji4) + 1) x7_1 x8_1 x11_2 x12_2 = some r) ∧ Aside0 (kq ≤ k1) ∧ Aside0 (Kd.S (Kd.slice 4 Kd.bool) 40 w' w.heap.size (fun _ => True) v832 x7_1) ∧ Aside0 (Below w.heap.size w w'))
    case atStart => exact ⟨(0), (0), (by first | rfl | (simp; done) | (simp [*]; done)), (by first | rfl | (simp; done) | (simp [*]; done)), H', ⟨Nat.le_refl _⟩, ⟨by (with_reducible repeat (first | apply Kd.S_alloc | apply Kd.S_drewN | apply Kd.S_drew)); exact HO_7.out⟩, ⟨by repeat (first | (with_reducible first | exact HB.out | apply below_alloc | apply pw_below_drewN | apply below_drew1) | exact HB.out)⟩⟩
    case round =>
     clear H';try clear c1
     try clear p1
     try clear q1
     try clear hx1
     try clear c2
     try clear p2
     try clear q2
     try clear hx2
     try clear hf2
     try clear p6
     try clear c8
     try clear c8b0
     try clear p8
     try clear q8
     try clear hx8
     try clear c9
     try clear c10
     try clear c10b0
     try clear c11
     try clear c11b0
     try clear c12
     try clear c12b0
     try clear c12b1
     try clear c13
     try clear c13b0
     try clear c14
     try clear c14b0
     try clear c15
     try clear c15b0
     try clear c16
     try clear c17
     try clear c17b0
     try clear c18
     try clear c18b0
     try clear p19
     try clear q19
     try clear hx19
     try clear hf19
     try clear c20
     try clear c20b0
     try clear c21
     try clear c21b0
     try clear p22
     try clear q22
     try clear hx22
     try clear hf22
     try clear c24
     try clear q24
     try clear c26
     try clear q26
     try clear hx19_0
     try clear hx22_0
     try clear hx834_0
     try clear hx835_0
     try clear hx839_0
     try clear p19
     try clear p2
     try clear p22
     try clear p834
     try clear p835
     try clear p839
     try clear q19
     try clear q22
     try clear q834
     try clear q835
     try clear q839
     obtain ⟨x11_2, x12_2, rfl, rfl, HA, HK2, HO_7, HB⟩ := hrel;cases gk with
     | zero => exact absurd HA.out (by simp [arboristlaw11_DecompTrees.l1])
     | succ k2 =>
      have H := HA.out;clear HA;simp only [arboristlaw11_DecompTrees.l1] at H
      by_cases c28 : x12_2 < ((ji4) + 1)
      ·rw [if_pos c28] at H
       have c28b0 : decide (x12_2 < ((ji4) + 1)) = true := decide_eq_true c28;clear c28;replace H := Option.bind_eq_some_iff.mp H;obtain ⟨t843, A290, H⟩ := H;(try dsimp only at H);have A29 := Aside0.mk A290;clear A290;by_cases c30 : (t843.length : Int) = 0
       ·rw [if_pos c30] at H
        have c30b0 : ((t843.length : Int) == 0) = true := beq_iff_eq.mpr c30;have c30b1 : ((t843.length : Int) != 0) = false := bne_eq_false_iff_eq.mpr c30;clear c30;have H' := Aside0.mk H;clear H;obtain ⟨Ao31, co31, eo31⟩ := Kd.S_slice HO_7.out;subst eo31;go_wp2_with (first | ((with_reducible refine gate_callee (f := 27) rfl ?_); refine goesL_ (some 61) rfl rfl Tryd.func27 (by kernel_rfl) rfl #[.slice Ao31 x7_1.length co31, .int .i64 x12_2] rfl qM ?_; (with_reducible refine (arboristref08_Neighbors.calls k2 _ _ x7_1 x12_2 t843 _ ?side1 ?side2 A29.out).mono ?_); (case side1 => repeat (first | exact (Kd.S_reads' HO_7.out).2.2 | (with_reducible refine Kd.C_alloc ?_ _) | (with_reducible refine Kd.C_drewN ?_ _) | (with_reducible refine Kd.C_drew ?_))); (case side2 => exact (Kd.S_reads' HO_7.out).2.1); rintro e w32 ⟨v844, rfl, ho0, hb⟩; refine ⟨_, rfl, ?_⟩; have n0_ := Aside0.mk (Kd.S_below (qS HO_7.out) hb); have n1_ := Aside0.mk (Kd.R_lower ho0 (below_size (qB HB.out))); have n2_ := Aside0.mk (below_step (qB HB.out) hb); clear HO_7; clear HB; have HO_7 := n0_; have HO845 := n1_; have HB := n2_; clear n0_ n1_ n2_; (try clear hb); (try clear hb2); (try clear hk); (try clear hi); (try clear ho0); obtain ⟨Ao33, co33, eo33⟩ := Kd.R_slice HO845.out; subst eo33))
        first | go_roundg k2 | (simp only [← hji4]; (try simp only [← hji4] at H'); go_roundg k2)
        case measure => have := HK1.out; have := HK2.out; omega
        case rel => exact ⟨(wrap64 (x11_2 + 1)), (wrap64 (x12_2 + 1)), (by first | rfl | (simp; done) | (simp [*]; done)), (by first | rfl | (simp; done) | (simp [*]; done)), H', ⟨by have := HK1.out; have := HK2.out; omega⟩, ⟨by (with_reducible repeat (first | apply Kd.S_alloc | apply Kd.S_drewN | apply Kd.S_drew)); exact HO_7.out⟩, ⟨by repeat (first | (with_reducible first | exact HB.out | apply below_alloc | apply pw_below_drewN | apply below_drew1) | exact HB.out)⟩⟩
       ·rw [if_neg c30] at H
        have c30b0 : ((t843.length : Int) == 0) = false := beq_eq_false_iff_ne.mpr c30;have c30b1 : ((t843.length : Int) != 0) = true := bne_iff_ne.mpr c30;have c30b2 : ¬ (t843 = []) := fun h_ => c30 (by rw [h_]; rfl)
        have H' := Aside0.mk H;clear H;obtain ⟨Ao34, co34, eo34⟩ := Kd.S_slice HO_7.out;subst eo34;go_wp2_with (first | ((with_reducible refine gate_callee (f := 27) rfl ?_); refine goesL_ (some 61) rfl rfl Tryd.func27 (by kernel_rfl) rfl #[.slice Ao34 x7_1.length co34, .int .i64 x12_2] rfl qM ?_; (with_reducible refine (arboristref08_Neighbors.calls k2 _ _ x7_1 x12_2 t843 _ ?side1 ?side2 A29.out).mono ?_); (case side1 => repeat (first | exact (Kd.S_reads' HO_7.out).2.2 | (with_reducible refine Kd.C_alloc ?_ _) | (with_reducible refine Kd.C_drewN ?_ _) | (with_reducible refine Kd.C_drew ?_))); (case side2 => exact (Kd.S_reads' HO_7.out).2.1); rintro e w35 ⟨v844, rfl, ho0, hb⟩; refine ⟨_, rfl, ?_⟩; have n0_ := Aside0.mk (Kd.S_below (qS HO_7.out) hb); have n1_ := Aside0.mk (Kd.R_lower ho0 (below_size (qB HB.out))); have n2_ := Aside0.mk (below_step (qB HB.out) hb); clear HO_7; clear HB; have HO_7 := n0_; have HO845 := n1_; have HB := n2_; clear n0_ n1_ n2_; (try clear hb); (try clear hb2); (try clear hk); (try clear hi); (try clear ho0); obtain ⟨Ao36, co36, eo36⟩ := Kd.R_slice HO845.out; subst eo36))
        first | go_roundg k2 | (simp only [← hji4]; (try simp only [← hji4] at H'); go_roundg k2)
        case measure => have := HK1.out; have := HK2.out; omega
        case rel => exact ⟨(x11_2), (wrap64 (x12_2 + 1)), (by first | rfl | (simp; done) | (simp [*]; done)), (by first | rfl | (simp; done) | (simp [*]; done)), H', ⟨by have := HK1.out; have := HK2.out; omega⟩, ⟨by (with_reducible repeat (first | apply Kd.S_alloc | apply Kd.S_drewN | apply Kd.S_drew)); exact HO_7.out⟩, ⟨by repeat (first | (with_reducible first | exact HB.out | apply below_alloc | apply pw_below_drewN | apply below_drew1) | exact HB.out)⟩⟩
      ·rw [if_neg c28] at H
       have c28b0 : decide (x12_2 < ((ji4) + 1)) = false := decide_eq_false c28;clear c28;replace H := Option.bind_eq_some_iff.mp H;obtain ⟨t846, A370, H⟩ := H;(try dsimp only at H);have A37 := Aside0.mk A370;clear A370;replace H := Option.bind_eq_some_iff.mp H;obtain ⟨t849, A380, H⟩ := H;(try dsimp only at H);have A38 := Aside0.mk A380;clear A380;replace H := Option.bind_eq_some_iff.mp H;obtain ⟨⟨t852, t855, t858⟩, A390, H⟩ := H;(try dsimp only at H);have A39 := Aside0.mk A390;clear A390;have HC40 := Aside0.mk H;clear H;obtain ⟨Ao41, co41, eo41⟩ := Kd.S_slice HO_7.out;subst eo41;go_upto_region 20 with (first | ((with_reducible refine gate_callee (f := 13) rfl ?_); refine goesL_ (some 68) rfl rfl Tryd.func13 (by kernel_rfl) rfl #[.slice Ao41 x7_1.length co41] rfl qM ?_; (with_reducible refine (arboristref08_Graph.calls k2 _ _ x7_1 t846 _ ?side1 ?side2 A37.out).mono ?_); (case side1 => repeat (first | exact (Kd.S_reads' HO_7.out).2.2 | (with_reducible refine Kd.C_alloc ?_ _) | (with_reducible refine Kd.C_drewN ?_ _) | (with_reducible refine Kd.C_drew ?_))); (case side2 => exact (Kd.S_reads' HO_7.out).2.1); rintro e w42 ⟨v847, rfl, ho0, hb⟩; refine ⟨_, rfl, ?_⟩; have n0_ := Aside0.mk (Kd.S_below (qS HO_7.out) hb); have n1_ := Aside0.mk (Kd.R_lower ho0 (below_size (qB HB.out))); have n2_ := Aside0.mk (below_step (qB HB.out) hb); clear HO_7; clear HB; have HO_7 := n0_; have HO848 := n1_; have HB := n2_; clear n0_ n1_ n2_; (try clear hb); (try clear hb2); (try clear hk); (try clear hi); (try clear ho0)) | ((with_reducible refine gate_callee (f := 28) rfl ?_); refine goesL_ (some 74) rfl rfl Tryd.func28 (by kernel_rfl) rfl #[.slice Ao41 x7_1.length co41, .int .i64 (wrap64 (1 + (Int.tmod (Go.bits .and .i64 a1 65535) 3)))] rfl qM ?_; (with_reducible refine (arboristref09_Of.calls k2 _ _ x7_1 (wrap64 (1 + (Int.tmod (Go.bits .and .i64 a1 65535) 3))) t849 _ ?side1 ?side2 A38.out).mono ?_); (case side1 => repeat (first | exact (Kd.S_reads' HO_7.out).2.2 | (with_reducible refine Kd.C_alloc ?_ _) | (with_reducible refine Kd.C_drewN ?_ _) | (with_reducible refine Kd.C_drew ?_))); (case side2 => exact (Kd.S_reads' HO_7.out).2.1); rintro e w43 ⟨v850, rfl, ho0, hb⟩; refine ⟨_, rfl, ?_⟩; have n0_ := Aside0.mk (Kd.S_below (qS HO_7.out) hb); have n1_ := Aside0.mk (Kd.R_below (qR HO848.out) hb); have n2_ := Aside0.mk (Kd.R_lower ho0 (below_size (qB HB.out))); have n3_ := Aside0.mk (below_step (qB HB.out) hb); clear HO_7; clear HO848; clear HB; have HO_7 := n0_; have HO848 := n1_; have HO851 := n2_; have HB := n3_; clear n0_ n1_ n2_ n3_; (try clear hb); (try clear hb2); (try clear hk); (try clear hi); (try clear ho0); obtain ⟨Ao44, co44, eo44⟩ := Kd.R_slice HO848.out; subst eo44; obtain ⟨Ao45, co45, eo45⟩ := Kd.R_slice HO851.out; subst eo45) | ((with_reducible refine gate_callee (f := 12) rfl ?_); refine goesL_ (some 75) rfl rfl Tryd.func12 (by kernel_rfl) rfl #[.agg #[.slice Ao44 t846.length co44], .slice Ao45 t849.length co45] rfl qM ?_; (with_reducible refine (decomp_Build.calls (hTb := (by first | exact HTAB.out | exact tab_drewN HTAB.out _ | exact tab_below HTAB.out (by repeat (first | (with_reducible first | exact HB.out | apply below_alloc | apply pw_below_drewN | apply below_drew1 | refine below_set ?_ GE859.out) | exact HB.out)))) _ _ t846 _ _ t849 t852 t855 t858 _ ?side1 ?side2 ?side3 ?side4 A39.out).mono ?_); (case side1 => repeat (first | exact (Kd.R_reads' HO848.out).2.2 | (with_reducible refine Kd.C_alloc ?_ _) | (with_reducible refine Kd.C_drewN ?_ _) | (with_reducible refine Kd.C_drew ?_))); (case side2 => exact (Kd.R_reads' HO848.out).2.1); (case side3 => repeat (first | exact (Kd.R_reads' HO851.out).2.2 | (with_reducible refine Kd.C_alloc ?_ _) | (with_reducible refine Kd.C_drewN ?_ _) | (with_reducible refine Kd.C_drew ?_))); (case side4 => exact (Kd.R_reads' HO851.out).2.1); rintro e w46 ⟨v853, v856, rfl, ho0, ho1, hb⟩; refine ⟨_, rfl, ?_⟩; have n0_ := Aside0.mk (Kd.S_below (qS HO_7.out) hb); have n1_ := Aside0.mk (Kd.R_below (qR HO848.out) hb); have n2_ := Aside0.mk (Kd.R_elder' (qR HO851.out) (Kd.R_base ho1) hb); have n3_ := Aside0.mk (Kd.S_lower (Kd.S_new' ho0 (Kd.R_lt (qR HO851.out))) (below_size (qB HB.out))); have n4_ := Aside0.mk (Kd.R_lower (Kd.R_new' ho1 (Kd.R_lt (qR HO851.out))) (below_size (qB HB.out))); have n5_ := Aside0.mk (below_step (qB HB.out) hb); clear HO_7; clear HO848; clear HO851; clear HB; have HO_7 := n0_; have HO848 := n1_; have HO851 := n2_; have HO854 := n3_; have HO857 := n4_; have HB := n5_; clear n0_ n1_ n2_ n3_ n4_ n5_; (try clear hb); (try clear hb2); (try clear hk); (try clear hi); (try clear ho0); (try clear ho1)) | ((with_reducible refine gate_dst (N := 13) rfl ?_); (try (refine gate_guard (by rfl) ?_; dsimp only)); refine box_event ?hg (N := 13) ?hd (cs := #[.slice none 0 0, .slice none 0 0]) (t := 28) ?hr ?_; (case hd => rfl); (case hg => rfl); (case hr => first | (go_simp; done) | (go_simp; rfl)); intro gb859 hg w47 hbox hb; have n0_ := Aside0.mk (Kd.S_below (qS HO_7.out) hb); have n1_ := Aside0.mk (Kd.R_below (qR HO848.out) hb); have n2_ := Aside0.mk (Kd.R_below (qR HO851.out) hb); have n3_ := Aside0.mk (Kd.S_below (qS HO854.out) hb); have n4_ := Aside0.mk (Kd.R_below (qR HO857.out) hb); have n5_ := Aside0.mk (below_step (qB HB.out) hb); have n6_ := Aside0.mk (hbox); have n7_ := Aside0.mk ((by rw [hg]; exact (below_size (qB HB.out)) : w.heap.size ≤ gb859)); have n8_ := Aside0.mk ((by rw [hg]; exact (below_size (qB HB.out)) : w.heap.size ≤ gb859)); clear HO_7; clear HO848; clear HO851; clear HO854; clear HO857; clear HB; have HO_7 := n0_; have HO848 := n1_; have HO851 := n2_; have HO854 := n3_; have HO857 := n4_; have HB := n5_; have BK859 := n6_; have GW859 := n7_; have GE859 := n8_; clear n0_ n1_ n2_ n3_ n4_ n5_ n6_ n7_ n8_; clear hb hbox hg; obtain ⟨Ao48, co48, eo48⟩ := Kd.S_slice HO854.out; subst eo48; have hcz49_0 : w47.cell? ⟨gb859, 0, none⟩ = some (.slice none 0 0) := (blk_cell BK859.out 0).trans rfl; have hcz49_1 : w47.cell? ⟨gb859, 1, none⟩ = some (.slice none 0 0) := (blk_cell BK859.out 1).trans rfl; have hfz49_0 := blk_frozen BK859.out 0; have hfz49_1 := blk_frozen BK859.out 1; obtain ⟨Ao50, co50, eo50⟩ := Kd.R_slice HO857.out; subst eo50))
       (try simp only [Act.put, List.setIfInBounds_toArray, List.set_cons_zero, List.set_cons_succ]);go_cut [88] (fun v88 wc => ∃ (kq : Nat) (x88_39 : Bool), v88 = .bool x88_39 ∧ Aside0 (arboristlaw11_DecompTrees.j2 kq t830 x88_39 t852 t855 = some r) ∧ Aside0 (kq ≤ k2) ∧ Aside0 (Kd.S (Kd.slice 3 (Kd.int .i64)) 23 wc w.heap.size (fun k_ => some k_ ≠ ((.slice Ao50 t855.length co50) : Value).ownBlock) (.slice Ao48 t852.length co48) t852) ∧ Aside0 (Kd.R (Kd.int .i64) 3 wc w.heap.size (fun _ => True) (.slice Ao50 t855.length co50) t855) ∧ Aside0 (wc.heap[gb859]? = some (.cells #[(.slice Ao48 t852.length co48), (.slice Ao50 t855.length co50)] 28 (0, 0))) ∧ Aside0 (Below w.heap.size w wc))
       case first =>
        have H := HC40.out;clear HC40;by_cases c51 : t858 = 0
        ·rw [if_pos c51] at H
         have c51b0 : (t858 == 0) = true := beq_iff_eq.mpr c51;have c51b1 : (t858 != 0) = false := bne_eq_false_iff_eq.mpr c51;clear c51;(first | rw [c51b0] | (simp only [i64_w, i32_w]; rw [c51b0]) | skip);have H' := Aside0.mk H;clear H;have hcz52_0 : w47.cell? ⟨gb859, 0, none⟩ = some (.slice none 0 0) := (blk_cell BK859.out 0).trans rfl;have hcz52_1 : w47.cell? ⟨gb859, 1, none⟩ = some (.slice none 0 0) := (blk_cell BK859.out 1).trans rfl;have hfz52_0 := blk_frozen BK859.out 0;have hfz52_1 := blk_frozen BK859.out 1;go_wp2
         go_meet
         case rel => exact ⟨_, (((t852.length : Int) != (wrap64 (x8_1 + x11_2)))), (by first | rfl | (simp; done) | (simp [*]; done)), H', ⟨by have := HK1.out; have := HK2.out; first | omega | exact Nat.le_refl _⟩, ⟨by (with_reducible repeat (first | apply Kd.S_alloc | apply Kd.S_drewN | apply Kd.S_drew)); exact Kd.S_mono (Kd.S_far (p := ⟨gb859, 1, none⟩) (Kd.S_far (p := ⟨gb859, 0, none⟩) (Kd.S_types HO854.out BK859.out (by decide)) (fun _ hk => hk.2) (.slice Ao48 t852.length co48)) (fun _ hk => hk.2) (.slice Ao50 t855.length co50)) (fun _ hk => hk.1.1)⟩, ⟨by (with_reducible repeat (first | apply Kd.R_alloc | apply Kd.R_drewN | apply Kd.R_drew)); exact Kd.R_mono (Kd.R_far (p := ⟨gb859, 1, none⟩) (Kd.R_far (p := ⟨gb859, 0, none⟩) (Kd.R_types HO857.out BK859.out (by decide)) (fun _ hk => hk.2) (.slice Ao48 t852.length co48)) (fun _ hk => hk.2) (.slice Ao50 t855.length co50)) (fun _ hk => trivial)⟩, ⟨by (with_reducible repeat (first | refine blk_drewN ?_ _ | refine blk_drew ?_ | refine blk_alloc ?_ _)); refine blk_put (cs := #[.slice Ao48 t852.length co48, .slice none 0 0]) ?_ 1 _ rfl; (with_reducible repeat (first | refine blk_drewN ?_ _ | refine blk_drew ?_ | refine blk_alloc ?_ _)); refine blk_put (cs := #[.slice none 0 0, .slice none 0 0]) ?_ 0 _ rfl; (with_reducible repeat (first | refine blk_drewN ?_ _ | refine blk_drew ?_ | refine blk_alloc ?_ _)); exact BK859.out⟩, ⟨by repeat (first | (with_reducible first | exact HB.out | apply below_alloc | apply pw_below_drewN | apply below_drew1 | refine below_set ?_ GE859.out) | exact HB.out)⟩⟩
        ·rw [if_neg c51] at H
         have c51b0 : (t858 == 0) = false := beq_eq_false_iff_ne.mpr c51;have c51b1 : (t858 != 0) = true := bne_iff_ne.mpr c51;(first | rw [c51b0] | (simp only [i64_w, i32_w]; rw [c51b0]) | skip);have H' := Aside0.mk H;clear H;go_wp2
         go_meet
         case rel => exact ⟨_, (true), (by first | rfl | (simp; done) | (simp [*]; done)), H', ⟨by have := HK1.out; have := HK2.out; first | omega | exact Nat.le_refl _⟩, ⟨by (with_reducible repeat (first | apply Kd.S_alloc | apply Kd.S_drewN | apply Kd.S_drew)); exact Kd.S_mono (Kd.S_far (p := ⟨gb859, 1, none⟩) (Kd.S_far (p := ⟨gb859, 0, none⟩) (Kd.S_types HO854.out BK859.out (by decide)) (fun _ hk => hk.2) (.slice Ao48 t852.length co48)) (fun _ hk => hk.2) (.slice Ao50 t855.length co50)) (fun _ hk => hk.1.1)⟩, ⟨by (with_reducible repeat (first | apply Kd.R_alloc | apply Kd.R_drewN | apply Kd.R_drew)); exact Kd.R_mono (Kd.R_far (p := ⟨gb859, 1, none⟩) (Kd.R_far (p := ⟨gb859, 0, none⟩) (Kd.R_types HO857.out BK859.out (by decide)) (fun _ hk => hk.2) (.slice Ao48 t852.length co48)) (fun _ hk => hk.2) (.slice Ao50 t855.length co50)) (fun _ hk => trivial)⟩, ⟨by (with_reducible repeat (first | refine blk_drewN ?_ _ | refine blk_drew ?_ | refine blk_alloc ?_ _)); refine blk_put (cs := #[.slice Ao48 t852.length co48, .slice none 0 0]) ?_ 1 _ rfl; (with_reducible repeat (first | refine blk_drewN ?_ _ | refine blk_drew ?_ | refine blk_alloc ?_ _)); refine blk_put (cs := #[.slice none 0 0, .slice none 0 0]) ?_ 0 _ rfl; (with_reducible repeat (first | refine blk_drewN ?_ _ | refine blk_drew ?_ | refine blk_alloc ?_ _)); exact BK859.out⟩, ⟨by repeat (first | (with_reducible first | exact HB.out | apply below_alloc | apply pw_below_drewN | apply below_drew1 | refine below_set ?_ GE859.out) | exact HB.out)⟩⟩
       case rest =>
        clear HC40;try clear c1
        try clear p1
        try clear q1
        try clear hx1
        try clear c2
        try clear p2
        try clear q2
        try clear hx2
        try clear hf2
        try clear c3
        try clear c5
        try clear p6
        try clear c8
        try clear c8b0
        try clear p8
        try clear q8
        try clear hx8
        try clear c9
        try clear c10
        try clear c10b0
        try clear c11
        try clear c11b0
        try clear c12
        try clear c12b0
        try clear c12b1
        try clear c13
        try clear c13b0
        try clear c14
        try clear c14b0
        try clear c15
        try clear c15b0
        try clear c16
        try clear c17
        try clear c17b0
        try clear c18
        try clear c18b0
        try clear p19
        try clear q19
        try clear hx19
        try clear hf19
        try clear c20
        try clear c20b0
        try clear c21
        try clear c21b0
        try clear p22
        try clear q22
        try clear hx22
        try clear hf22
        try clear c24
        try clear q24
        try clear c26
        try clear q26
        try clear c27
        try clear c28
        try clear c28b0
        try clear c30
        try clear c30b0
        try clear c30b1
        try clear c30b2
        try clear c51
        try clear c51b0
        try clear c51b1
        try clear hcz49_0
        try clear hcz49_1
        try clear hcz52_0
        try clear hcz52_1
        try clear hfz49_0
        try clear hfz49_1
        try clear hfz52_0
        try clear hfz52_1
        try clear hx19_0
        try clear hx22_0
        try clear hx834_0
        try clear hx835_0
        try clear hx839_0
        try clear p1
        try clear p19
        try clear p2
        try clear p22
        try clear p6
        try clear p8
        try clear p834
        try clear p835
        try clear p839
        try clear q1
        try clear q19
        try clear q2
        try clear q22
        try clear q24
        try clear q26
        try clear q8
        try clear q834
        try clear q835
        try clear q839
        obtain ⟨kq, x88_39, rfl, HA, HJ39, HO_860000, HO_860001, BK859, HB⟩ := hcut;cases kq with
        | zero => exact absurd HA.out (by simp [arboristlaw11_DecompTrees.j2])
        | succ kj39 =>
         have H := HA.out;clear HA;simp only [arboristlaw11_DecompTrees.j2] at H
         by_cases c53 : x88_39 = true
         ·subst c53;replace H : (some false) = some r := by rw [if_pos rfl] at H; exact H
          exact absurd ((Option.some.inj H).trans HT_.out) (by decide)
         ·replace c53 := Bool.eq_false_iff.mpr c53;subst c53;replace H : (arboristlaw11_DecompTrees.l2 kj39 t830 0 t852 t855) = some r := by rw [if_neg (show ¬ (false = true) by decide)] at H; exact H
          have H' := Aside0.mk H;clear H;go_wp2
          go_loopg [15] kj39 (fun kq v15 w' => ∃ (x15_4 : Int), v15 = .int .i64 x15_4 ∧ Aside0 (arboristlaw11_DecompTrees.l2 kq t830 x15_4 t852 t855 = some r) ∧ Aside0 (kq ≤ kj39) ∧ Aside0 (Kd.S (Kd.slice 3 (Kd.int .i64)) 23 w' w.heap.size (fun k_ => some k_ ≠ ((.slice Ao50 t855.length co50) : Value).ownBlock) (.slice Ao48 t852.length co48) t852) ∧ Aside0 (Kd.R (Kd.int .i64) 3 w' w.heap.size (fun _ => True) (.slice Ao50 t855.length co50) t855) ∧ Aside0 (w'.heap[gb859]? = some (.cells #[(.slice Ao48 t852.length co48), (.slice Ao50 t855.length co50)] 28 (0, 0))) ∧ Aside0 (Below w.heap.size w w'))
          case atStart => exact ⟨(0), (by first | rfl | (simp; done) | (simp [*]; done)), H', ⟨Nat.le_refl _⟩, ⟨by (with_reducible repeat (first | apply Kd.S_alloc | apply Kd.S_drewN | apply Kd.S_drew)); exact HO_860000.out⟩, ⟨by (with_reducible repeat (first | apply Kd.R_alloc | apply Kd.R_drewN | apply Kd.R_drew)); exact HO_860001.out⟩, ⟨by (with_reducible repeat (first | refine blk_drewN ?_ _ | refine blk_drew ?_ | refine blk_alloc ?_ _)); exact BK859.out⟩, ⟨by repeat (first | (with_reducible first | exact HB.out | apply below_alloc | apply pw_below_drewN | apply below_drew1 | refine below_set ?_ GE859.out) | exact HB.out)⟩⟩
          case round =>
           clear H';try clear c1
           try clear p1
           try clear q1
           try clear hx1
           try clear c2
           try clear p2
           try clear q2
           try clear hx2
           try clear hf2
           try clear c3
           try clear c5
           try clear p6
           try clear c8
           try clear c8b0
           try clear p8
           try clear q8
           try clear hx8
           try clear c9
           try clear c10
           try clear c10b0
           try clear c11
           try clear c11b0
           try clear c12
           try clear c12b0
           try clear c12b1
           try clear c13
           try clear c13b0
           try clear c14
           try clear c14b0
           try clear c15
           try clear c15b0
           try clear c16
           try clear c17
           try clear c17b0
           try clear c18
           try clear c18b0
           try clear p19
           try clear q19
           try clear hx19
           try clear hf19
           try clear c20
           try clear c20b0
           try clear c21
           try clear c21b0
           try clear p22
           try clear q22
           try clear hx22
           try clear hf22
           try clear c24
           try clear q24
           try clear c26
           try clear q26
           try clear c27
           try clear c28
           try clear c28b0
           try clear c30
           try clear c30b0
           try clear c30b1
           try clear c30b2
           try clear c51
           try clear c51b0
           try clear c51b1
           try clear c53
           try clear hcz49_0
           try clear hcz49_1
           try clear hcz52_0
           try clear hcz52_1
           try clear hfz49_0
           try clear hfz49_1
           try clear hfz52_0
           try clear hfz52_1
           try clear hx19_0
           try clear hx22_0
           try clear hx834_0
           try clear hx835_0
           try clear hx839_0
           try clear p1
           try clear p19
           try clear p2
           try clear p22
           try clear p6
           try clear p8
           try clear p834
           try clear p835
           try clear p839
           try clear q1
           try clear q19
           try clear q2
           try clear q22
           try clear q24
           try clear q26
           try clear q8
           try clear q834
           try clear q835
           try clear q839
           obtain ⟨x15_4, rfl, HA, HK4, HO_860000, HO_860001, BK859, HB⟩ := hrel;cases gk with
           | zero => exact absurd HA.out (by simp [arboristlaw11_DecompTrees.l2])
           | succ k4 =>
            have H := HA.out;clear HA;simp only [arboristlaw11_DecompTrees.l2] at H
            by_cases c54 : x15_4 < (t852.length : Int)
            ·rw [if_pos c54] at H
             have c54b0 : decide (x15_4 < (t852.length : Int)) = true := decide_eq_true c54;clear c54;by_cases c55 : 0 ≤ x15_4
             ·rw [if_pos c55] at H
              have c55b0 : decide (0 ≤ x15_4) = true := decide_eq_true c55;clear c55;by_cases c56 : ((rd_L1 t852 x15_4).length : Int) > 2
              ·rw [if_pos c56] at H
               have c56b0 : decide (2 < ((rd_L1 t852 x15_4).length : Int)) = true := decide_eq_true c56;have c56b1 : decide (2 < (rd_L1 t852 x15_4).length) = true := decide_eq_true (by omega);clear c56;exact absurd ((Option.some.inj H).trans HT_.out) (by decide)
              ·rw [if_neg c56] at H
               have c56b0 : decide (2 < ((rd_L1 t852 x15_4).length : Int)) = false := decide_eq_false c56;have c56b1 : decide (2 < (rd_L1 t852 x15_4).length) = false := decide_eq_false (by omega);clear c56;by_cases c57 : ((rd_L1 t852 x15_4).length : Int) = 0
               ·rw [if_pos c57] at H
                have c57b0 : (((rd_L1 t852 x15_4).length : Int) == 0) = true := beq_iff_eq.mpr c57;have c57b1 : (((rd_L1 t852 x15_4).length : Int) != 0) = false := bne_eq_false_iff_eq.mpr c57;clear c57;exact absurd ((Option.some.inj H).trans HT_.out) (by decide)
               ·rw [if_neg c57] at H
                have c57b0 : (((rd_L1 t852 x15_4).length : Int) == 0) = false := beq_eq_false_iff_ne.mpr c57;have c57b1 : (((rd_L1 t852 x15_4).length : Int) != 0) = true := bne_iff_ne.mpr c57;have c57b2 : ¬ ((rd_L1 t852 x15_4) = []) := fun h_ => c57 (by rw [h_]; rfl)
                have H' := Aside0.mk H;clear H;have hcz58_0 : wr.cell? ⟨gb859, 0, none⟩ = some (.slice Ao48 t852.length co48) := (blk_cell BK859.out 0).trans rfl;have hcz58_1 : wr.cell? ⟨gb859, 1, none⟩ = some (.slice Ao50 t855.length co50) := (blk_cell BK859.out 1).trans rfl;have hfz58_0 := blk_frozen BK859.out 0;have hfz58_1 := blk_frozen BK859.out 1;have p860 : 0 ≤ (x15_4 : Int) := of_decide_eq_true qA;have q860 : x15_4 < (t852.length : Int) := of_decide_eq_true qA;obtain ⟨ad860, A860_0, c860_0, e860, hx860_0, hl860_0, hi860_0⟩ := at_L1 (Kd.S_reads' HO_860000.out).2.2 x15_4 p860 q860;cases e860
                obtain ⟨ce860, hce860, hMe860, hcc860⟩ := Kd.S_get HO_860000.out [] x15_4 p860 (by first | exact q860 | exact of_decide_eq_true qA | (have e_ := (Kd.S_reads' HO_860000.out).1; omega));obtain ⟨ve860_0, rfl, ge860_0⟩ := hMe860;have hv860_0 := hcc860 0 _ rfl;rw [Nat.add_zero, show ((Kd.slice 3 (Kd.int .i64))).sz = 1 from rfl, Nat.mul_one] at hv860_0
                replace hv860_0 := Option.some.inj (hv860_0.symm.trans hx860_0);rw [hv860_0] at ge860_0
                have HL860_0 := Aside0.mk (show Kd.R (Kd.int .i64) 3 _ _ _ _ (rd_L1 t852 x15_4) from ge860_0);clear hv860_0 ge860_0;have HX860_0 := Aside0.mk hx860_0;clear hcc860 hce860;have HR860_0 := Aside0.mk hi860_0;have HC860_0 := Aside0.mk hl860_0;clear hi860_0 hl860_0;replace p860 := eq_true p860;replace q860 := eq_true q860;have p861 : 0 ≤ (x15_4 : Int) := of_decide_eq_true qA;have q861 : x15_4 < (t852.length : Int) := of_decide_eq_true qA;obtain ⟨ad861, A861_0, c861_0, e861, hx861_0, hl861_0, hi861_0⟩ := at_L1 (Kd.S_reads' HO_860000.out).2.2 x15_4 p861 q861;obtain rfl : ad860 = ad861 := (by injection e861);obtain ⟨ce861, hce861, hMe861, hcc861⟩ := Kd.S_get HO_860000.out [] x15_4 p861 (by first | exact q861 | exact of_decide_eq_true qA | (have e_ := (Kd.S_reads' HO_860000.out).1; omega));obtain ⟨ve861_0, rfl, ge861_0⟩ := hMe861;have hv861_0 := hcc861 0 _ rfl;rw [Nat.add_zero, show ((Kd.slice 3 (Kd.int .i64))).sz = 1 from rfl, Nat.mul_one] at hv861_0
                replace hv861_0 := Option.some.inj (hv861_0.symm.trans hx861_0);rw [hv861_0] at ge861_0
                have HL861_0 := Aside0.mk (show Kd.R (Kd.int .i64) 3 _ _ _ _ (rd_L1 t852 x15_4) from ge861_0);clear hv861_0 ge861_0;have HX861_0 := Aside0.mk hx861_0;clear hcc861 hce861;have HR861_0 := Aside0.mk hi861_0;have HC861_0 := Aside0.mk hl861_0;clear hi861_0 hl861_0;replace p861 := eq_true p861;replace q861 := eq_true q861;have ea_ := Option.some.inj (hx860_0.symm.trans hx861_0);injection ea_ with ea_ en_ ec_
                subst ea_;subst ec_;clear en_;go_wp2
                first | go_roundg k4 | (simp only [← hji4]; (try simp only [← hji4] at H'); go_roundg k4)
                case measure => have := HK1.out; have := HK2.out; have := HJ39.out; have := HK4.out; omega
                case rel => exact ⟨(wrap64 (x15_4 + 1)), (by first | rfl | (simp; done) | (simp [*]; done)), H', ⟨by have := HK1.out; have := HK2.out; have := HJ39.out; have := HK4.out; omega⟩, ⟨by (with_reducible repeat (first | apply Kd.S_alloc | apply Kd.S_drewN | apply Kd.S_drew)); exact HO_860000.out⟩, ⟨by (with_reducible repeat (first | apply Kd.R_alloc | apply Kd.R_drewN | apply Kd.R_drew)); exact HO_860001.out⟩, ⟨by (with_reducible repeat (first | refine blk_drewN ?_ _ | refine blk_drew ?_ | refine blk_alloc ?_ _)); exact BK859.out⟩, ⟨by repeat (first | (with_reducible first | exact HB.out | apply below_alloc | apply pw_below_drewN | apply below_drew1 | refine below_set ?_ GE859.out) | exact HB.out)⟩⟩
             ·rw [if_neg c55] at H
              exact absurd H (by simp)
            ·rw [if_neg c54] at H
             have c54b0 : decide (x15_4 < (t852.length : Int)) = false := decide_eq_false c54;clear c54;obtain rfl := Option.some.inj H;have hcz59_0 : wr.cell? ⟨gb859, 0, none⟩ = some (.slice Ao48 t852.length co48) := (blk_cell BK859.out 0).trans rfl;have hcz59_1 : wr.cell? ⟨gb859, 1, none⟩ = some (.slice Ao50 t855.length co50) := (blk_cell BK859.out 1).trans rfl;have hfz59_0 := blk_frozen BK859.out 0;have hfz59_1 := blk_frozen BK859.out 1;go_wp2
             go_ret
             exact ⟨by first | rfl | (simp [errW_none, errW_some] <;> rfl) | (simp only [← hji4]; first | rfl | (simp [errW_none, errW_some] <;> rfl)) | (simp [*, errW_none, errW_some] <;> rfl), by repeat (first | (with_reducible first | exact HB.out | apply below_alloc | apply pw_below_drewN | apply below_drew1 | refine below_set ?_ GE859.out) | exact HB.out)⟩
/-- THE ONE PURE STATEMENT of arboristlaw11_DecompTrees. -/
def arboristlaw11_DecompTrees.Pure : Prop := ∀ (l0 : List Int) (a1 : Int), (l0.length ≤ maxLen ∧ ∀ z0 ∈ l0, (Lit.int .i64 z0).wf = true) → (Lit.int .i64 a1).wf = true → ∃ k, arboristlaw11_DecompTrees.f k l0 a1 = some true
end Go.Proofs.YtbdlelojlnhhfaaDoor.Pr
