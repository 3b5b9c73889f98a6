-- Printed by a program of this session's own (wip/tools/pp.py) over the kit's print.py; Lean checks it.
import Derived.Lib.ConvBytes
import Derived.Laws.BytesArg
import Derived.Test.YtfgabdfnbkmaeaaDoorPr0
import Derived.Test.YtfgabdfnbkmaeaaDoorPr9
import Derived.Test.YtfgabdfnbkmaeaaDoorPr11
import Derived.Test.YtfgabdfnbkmaeaaDoorPr12
namespace Go.Proofs.YtfgabdfnbkmaeaaDoor.Pr
open Go.RowKit Go.Proofs.YtfgabdfnbkmaeaaDoorW.PrintWords Go.Proofs.YtfgabdfnbkmaeaaDoorW.PrintLast Go.Proofs.YtfgabdfnbkmaeaaDoorW.PrintMore
attribute [local go_sem] max2_int min2_int max_two min_two max_three min_three max_four min_four   -- for this text's walks alone
set_option linter.unusedVariables false
set_option linter.unusedSimpArgs false

-- given by hand
/-! ### arboristlaw05_ScanNotes: function 9 -/
-- needs scan_All arboristlaw05_shown
-- IMPORT Derived.Laws.BytesArg
-- IMPORT Derived.Lib.ConvBytes
/-- a block holds bytes (a conversion's row) -/
def BRow (W : World) (B : Nat) (xs : List Int) : Prop :=
  ∃ (cur : Array Value) (n : Nat), W.heap[B]? = some (.cells cur 5 (n, n + 1)) ∧ xs.length ≤ n ∧ ∀ j, j < xs.length → cur[j]? = some (.int .u8 (xs.getD j 0))
theorem BRow.cell {W : World} {B : Nat} {xs : List Int} (h : BRow W B xs) (j : Nat) (hj : j < xs.length) : W.cell? ⟨B, j, none⟩ = some (.int .u8 (xs.getD j 0)) := by
  obtain ⟨cur, n, h1, h2, h3⟩ := h
  exact (cell_of_row W B j cur _ _ h1).trans (h3 j hj)
theorem BRow.free {W : World} {B : Nat} {xs : List Int} (h : BRow W B xs) (j : Nat) (hj : j < xs.length) : W.frozen? ⟨B, j, none⟩ = false := by
  obtain ⟨cur, n, h1, h2, h3⟩ := h
  simp only [World.frozen?, h1]
  rw [decide_eq_false (by omega)]
  rfl
theorem BRow.put {W : World} {B : Nat} {xs : List Int} (h : BRow W B xs) (j : Nat) (hj : j < xs.length) (v : Int) : BRow (W.setCell ⟨B, j, none⟩ (.int .u8 v)) B (xs.set j v) := by
  obtain ⟨cur, n, h1, h2, h3⟩ := h
  refine ⟨cur.setIfInBounds j (.int .u8 v), n, ?_, by rw [List.length_set]; exact h2, fun i hi => ?_⟩
  · have hb : B < W.heap.size := (Array.getElem?_eq_some_iff.1 h1).1
    simp only [World.setCell, Array.getElem?_modify, h1]
    simp
  · rw [List.length_set] at hi
    by_cases e : i = j
    · subst e
      have hs : i < cur.size := by
        have := h3 i hi
        exact (Array.getElem?_eq_some_iff.1 this).1
      rw [Array.getElem?_setIfInBounds_self_of_lt hs]
      simp [List.getD_eq_getElem?_getD, hi]
    · rw [Array.getElem?_setIfInBounds_ne (Ne.symm e), h3 i hi]
      simp [List.getD_eq_getElem?_getD, Ne.symm e]
theorem BRow.below {W W' : World} {B : Nat} {xs : List Int} (h : BRow W B xs) (hb : Below W.heap.size W W') : BRow W' B xs := by
  obtain ⟨cur, n, h1, h2, h3⟩ := h
  exact ⟨cur, n, (hb.block B (Array.getElem?_eq_some_iff.1 h1).1).trans h1, h2, h3⟩
theorem BRow.new (W : World) (s : ByteArray) : BRow (Lib.bytesWorld W 5 s) W.heap.size (bytesOf s) := by
  refine ⟨Lib.bytesCells W 5 s, _, Lib.bytesWorld_at_new W _ s, ?_, fun j hj => ?_⟩
  · rw [bytesOf_length]
    unfold Lib.bytesCells
    simp
  · have h := Lib.bytesWorld_cell W 5 s j (by rwa [bytesOf_length] at hj)
    rw [cell_of_row _ _ _ _ _ _ (Lib.bytesWorld_at_new W _ s)] at h
    rw [h]
    congr 2
    rw [bytesOf_length] at hj
    have h' : j < s.data.toList.length := by rw [data_length]; exact hj
    simp [bytesOf, List.getD_eq_getElem?_getD, List.getElem?_eq_getElem h']
def spB (c : Int) : Int := if c = 10 then 32 else c
/-- with its first k line ends as spaces -/
def stepN (xs : List Int) (k : Nat) : List Int := (xs.take k).map spB ++ xs.drop k
theorem stepN_len (xs : List Int) (k : Nat) (h : k ≤ xs.length) : (stepN xs k).length = xs.length := by
  unfold stepN
  simp
  omega
theorem stepN_at (xs : List Int) (k : Nat) (h : k < xs.length) : (stepN xs k).getD k 0 = xs.getD k 0 := by
  unfold stepN
  rw [List.getD_eq_getElem?_getD, List.getD_eq_getElem?_getD, List.getElem?_append_right (by simp; omega)]
  simp [List.length_take, Nat.min_eq_left (Nat.le_of_lt h)]
theorem stepN_set (xs : List Int) (k : Nat) (h : k < xs.length) : (stepN xs k).set k (spB (xs.getD k 0)) = stepN xs (k + 1) := by
  unfold stepN
  have hl : ((xs.take k).map spB).length = k := by simp; omega
  rw [List.set_append_right _ _ (by omega), hl, Nat.sub_self, List.drop_eq_getElem_cons h, List.set_cons_zero, List.take_succ_eq_append_getElem h, List.map_append, List.append_assoc]
  congr 1
  simp [List.getD_eq_getElem?_getD, h]
theorem set_self (xs : List Int) (k : Nat) (h : k < xs.length) : xs.set k (xs.getD k 0) = xs := by
  apply List.ext_getElem?
  intro i
  by_cases e : i = k
  · subst e; simp [h]
  · rw [List.getElem?_set_ne (Ne.symm e)]
theorem stepN_skip (xs : List Int) (k : Nat) (h : k < xs.length) (hc : xs.getD k 0 ≠ 10) : stepN xs (k + 1) = stepN xs k := by
  rw [← stepN_set xs k h, ← stepN_at xs k h]
  have : spB ((stepN xs k).getD k 0) = (stepN xs k).getD k 0 := by rw [stepN_at xs k h]; unfold spB; rw [if_neg hc]
  rw [this, set_self _ _ (by rw [stepN_len xs k (by omega)]; exact h)]
theorem bytes_u8 (s : ByteArray) (k : Nat) : 0 ≤ (bytesOf s).getD k 0 ∧ (bytesOf s).getD k 0 ≤ 255 := by
  have := bt_range s (k : Int)
  rw [← rd_bytesOf] at this
  unfold rd at this
  rwa [Int.toNat_natCast] at this
set_option maxRecDepth 100000 in
set_option maxHeartbeats 8000000 in
theorem arboristlaw05_ScanNotes.callsN (a0 C : ByteArray) (j : Int) (hj : mn (a0.size : Int) 1000 = j) (hC : a0.extract 0 j.toNat = C) (TL UL : List S32)
    (h1 : scan_All.f ((⟨#[97, 98, 32, 35]⟩ : ByteArray) ++ strOfNums (stepN (bytesOf C) C.size) ++ ⟨#[10, 55]⟩) = some (TL, 0, 0))
    (h2 : scan_All.f ((⟨#[35]⟩ : ByteArray) ++ strOfNums (stepN (bytesOf C) C.size)) = some (UL, 0, 0)) (l1 : TL.length = 3) (l2 : UL.length = 1)
    (e1 : (rd_T32 TL 0).f1.toList = [97, 98]) (e2 : (rd_T32 TL 1).f2 = 7) (e3 : (rd_T32 TL 1).f3 = 5 + (C.size : Int)) (e4 : (rd_T32 UL 0).f0 = 4) (hs : arboristlaw05_shown.f = some true) (w : World) (hTb : Tab64 w) :
    Calls Tryd.prog 9 #[.string a0] w fun e w' => e = .returned (.bool true) ∧ Below w.heap.size w w' := by
  have HTAB := Aside0.mk hTb
  have HTAB0 := Aside0.mk hTb
  clear hTb
  have HB := Aside0.mk (Below.refl w.heap.size w)
  have hj0 : 0 ≤ j := by rw [← hj]; unfold mn; (repeat' split) <;> omega
  have hj1 : j ≤ 1000 := by rw [← hj]; unfold mn; (repeat' split) <;> omega
  have hj2 : j ≤ (a0.size : Int) := by rw [← hj]; unfold mn; (repeat' split) <;> omega
  have hj_ : (if 1000 < (a0.size : Int) then 1000 else (a0.size : Int)) = j := hj
  have c5b1 : decide (0 ≤ j) = true := decide_eq_true hj0
  have c6b1 : decide (j ≤ (a0.size : Int)) = true := decide_eq_true hj2
  have HCS : C.size ≤ 1000 := by rw [← hC, ByteArray.size_extract]; omega
  have HSH := Aside0.mk (fun w hTb => arboristlaw05_shown.calls (hTb := hTb) true w hs)
  have kb := fun (W : World) => print_bytes (P := Tryd.prog) 9 35 5 Tryd.underlying9 Tryd.underlying35 Tryd.underlying5 C W
  have H1 := Aside0.mk h1
  have H2 := Aside0.mk h2
  have E1 := Aside0.mk e1
  have E2 := Aside0.mk e2
  have E3 := Aside0.mk e3
  have E4 := Aside0.mk e4
  have HL := Aside0.mk (bytesOf_length C)
  clear h1 h2 e1 e2 e3 e4 hj
  go_enter Tryd.func9, Tryd.ntmps9
  go_wp2_with (go_at_call 10; refine (HSH.out _ (by exact HTAB.out)).mono ?_; rintro e w6 ⟨rfl, hb⟩; have n0_ := Aside0.mk (tab_below HTAB.out hb); clear HTAB; have HTAB := n0_; clear n0_; have HB6 := Aside0.mk hb; clear hb HB)
  have HBR := Aside0.mk (BRow.new w6 C)
  have HB7 := Aside0.mk (below_step HB6.out (Lib.bytesWorld_below w6 5 C))
  have HGE := Aside0.mk (below_size HB6.out)
  clear HTAB HB6 kb
  obtain ⟨B, hB⟩ : ∃ B, w6.heap.size = B := ⟨_, rfl⟩
  obtain ⟨W, hW⟩ : ∃ W, Lib.bytesWorld w6 5 C = W := ⟨_, rfl⟩
  obtain ⟨cap, hcap⟩ : ∃ cap, grownCap w6 C.size 0 5 = cap := ⟨_, rfl⟩
  rw [hB, hW] at HBR
  rw [hW] at HB7
  rw [hB] at HGE
  rw [hB, hW, hcap]
  clear hB hW hcap
  go_loopg [5] C.size (fun gg v5 wr => ∃ k : Nat, v5 = .int .i64 k ∧ k ≤ C.size ∧ Aside0 (C.size - k ≤ gg) ∧ Aside0 (BRow wr B (stepN (bytesOf C) k)) ∧ Aside0 (Below w.heap.size w wr))
  case atStart => exact ⟨0, rfl, Nat.zero_le _, ⟨Nat.le_refl _⟩, ⟨by unfold stepN; exact HBR.out⟩, HB7⟩
  case round =>
    obtain ⟨k, rfl, hk, HK, HR, HBK⟩ := hrel
    have HSL := Aside0.mk (stepN_len (bytesOf C) k (by rw [HL.out]; exact hk))
    by_cases hlt : k < C.size
    · have hltz : (k : Int) < (C.size : Int) := by omega
      have HKL := Aside0.mk (show k < (bytesOf C).length by rw [HL.out]; exact hlt)
      have hx := HR.out.cell k (by rw [HSL.out]; exact HKL.out)
      have hf := HR.out.free k (by rw [HSL.out]; exact HKL.out)
      rw [stepN_at _ k HKL.out] at hx
      obtain ⟨hb0, hb1⟩ := bytes_u8 C k
      have HST := Aside0.mk (stepN_set (bytesOf C) k HKL.out)
      have HSK := Aside0.mk (stepN_skip (bytesOf C) k HKL.out)
      obtain ⟨c, hc⟩ : ∃ c, (bytesOf C).getD k 0 = c := ⟨_, rfl⟩
      rw [hc] at hx hb0 hb1 HST HSK
      clear hc
      by_cases hc10 : c = 10
      · subst hc10
        have HPUT := Aside0.mk (HR.out.put k (by rw [HSL.out]; exact HKL.out) 32)
        have HST2 : Aside0 ((stepN (bytesOf C) k).set k 32 = stepN (bytesOf C) (k + 1)) := HST
        clear HST HSK
        go_wp2
        go_roundg (C.size - (k + 1))
        case measure => have := HK.out; omega
        case rel => exact ⟨k + 1, by go_num, by omega, ⟨Nat.le_refl _⟩, ⟨by rw [← HST2.out]; exact HPUT.out⟩, ⟨below_set HBK.out HGE.out⟩⟩
      · have hcb : (c == 10) = false := beq_false_of_ne hc10
        clear HST
        go_wp2
        go_roundg (C.size - (k + 1))
        case measure => have := HK.out; omega
        case rel => exact ⟨k + 1, by go_num, by omega, ⟨Nat.le_refl _⟩, ⟨by rw [HSK.out hc10]; exact HR.out⟩, HBK⟩
    · have hltz : ¬ (k : Int) < (C.size : Int) := by omega
      obtain rfl : k = C.size := by omega
      clear hlt hk HK
      have HNS : Aside0 ((strOfNums (stepN (bytesOf C) C.size)).size = C.size) := ⟨by rw [strOfNums_size, HSL.out, HL.out]⟩
      have HLN : Aside0 ((stepN (bytesOf C) C.size).length = C.size) := ⟨by rw [HSL.out, HL.out]⟩
      have kcc : ∀ W', BRow W' B (stepN (bytesOf C) C.size) → (convert 35 9 (.slice (some ⟨B, 0, none⟩) C.size cap)).run Tryd.prog W' = .ok (.string (strOfNums (stepN (bytesOf C) C.size))) W' := fun W' hB => run_convert_bytes_arg (P := Tryd.prog) W' 35 5 Tryd.underlying35 Tryd.underlying5 B 0 C.size cap _ HLN.out (fun i hi => by rw [Nat.zero_add]; exact hB.cell i (by rw [HLN.out]; exact hi)) 9 Tryd.underlying9
      have KC := Aside0.mk kcc
      have kc1 := kcc wr HR.out
      clear kcc HSL
      obtain ⟨xs, hxs⟩ : ∃ xs, stepN (bytesOf C) C.size = xs := ⟨_, rfl⟩
      rw [hxs] at kc1 KC HNS HR H1 H2
      clear hxs HLN
      obtain ⟨N, hN⟩ : ∃ N, strOfNums xs = N := ⟨_, rfl⟩
      rw [hN] at kc1 KC HNS H1 H2
      clear hN
      have HN := HNS.out
      have hn : N.size ≤ 1000 := by omega
      have b1 : (4 + N.size ≤ 9223372036854775807) = True := eq_true (by omega)
      have b2 : decide (4 + N.size ≤ 9223372036854775807) = true := decide_eq_true (by omega)
      have b3 : (9223372036854775807 < 4 + N.size) = False := eq_false (by omega)
      have hs2 : ((⟨#[97, 98, 32, 35]⟩ : ByteArray) ++ N).size = 4 + N.size := by rw [ByteArray.size_append]; rfl
      have b4 : (((⟨#[97, 98, 32, 35]⟩ : ByteArray) ++ N).size + 2 ≤ 9223372036854775807) = True := eq_true (by omega)
      have b5 : decide (((⟨#[97, 98, 32, 35]⟩ : ByteArray) ++ N).size + 2 ≤ 9223372036854775807) = true := decide_eq_true (by omega)
      have b6 : (9223372036854775807 < ((⟨#[97, 98, 32, 35]⟩ : ByteArray) ++ N).size + 2) = False := eq_false (by omega)
      have b7 : (1 + N.size ≤ 9223372036854775807) = True := eq_true (by omega)
      have b8 : decide (1 + N.size ≤ 9223372036854775807) = true := decide_eq_true (by omega)
      have b9 : (9223372036854775807 < 1 + N.size) = False := eq_false (by omega)
      clear hs2 HN
      have c1 : (((TL.length : Nat) : Int) == 3) = true := by rw [l1]; rfl
      have c2 : (((UL.length : Nat) : Int) == 1) = true := by rw [l2]; rfl
      have L1 := Aside0.mk l1
      have L2 := Aside0.mk l2
      clear l1 l2
      have d1 : ((rd_T32 TL 0).f1.toList == [97, 98]) = true := by rw [E1.out]; rfl
      have d2 : ((rd_T32 TL 1).f2 == 7) = true := by rw [E2.out]; rfl
      have d3 : ((rd_T32 TL 1).f3 == 5 + (C.size : Int)) = true := by rw [E3.out]; simp
      have d4 : ((rd_T32 UL 0).f0 == 4) = true := by rw [E4.out]; rfl
      clear E1 E2 E3 E4
      have HT1 := Aside0.mk (tab_below HTAB0.out HBK.out)
      go_wp2_with (first
        | (go_at_call 11; refine (scan_All.calls (hTb := HT1.out) _ _ _ _ _ H1.out).mono ?_; rintro e w21 ⟨v1, rfl, ho, hb⟩; have HO1 := Aside0.mk ho; have HT2 := Aside0.mk (tab_below HT1.out hb); have kc2 := KC.out w21 (HR.out.below hb); have HB21 := Aside0.mk (below_step HBK.out hb); clear H1 HT1 kc1 hb ho)
        | (go_at_call 11; refine (scan_All.calls (hTb := HT2.out) _ _ _ _ _ H2.out).mono ?_; rintro e w22 ⟨v2, rfl, ho, hb⟩; have HO2 := Aside0.mk ho; have HO1' := Aside0.mk (Kd.R_below HO1.out hb); have HB22 := Aside0.mk (below_step HB21.out hb); clear H2 HT2 hb ho HO1; have q1 : (0 < TL.length) = True := eq_true (by have := L1.out; omega); have q2 : (1 < TL.length) = True := eq_true (by have := L1.out; omega); have q3 : (0 < UL.length) = True := eq_true (by have := L2.out; omega); have q4 : (0 < (TL.length : Int)) = True := eq_true (by have := L1.out; omega); have q5 : (1 < (TL.length : Int)) = True := eq_true (by have := L1.out; omega); have q6 : (0 < (UL.length : Int)) = True := eq_true (by have := L2.out; omega); obtain ⟨Ao1, co1, eo1⟩ := Kd.R_slice HO1'.out; subst eo1; obtain ⟨Ao2, co2, eo2⟩ := Kd.R_slice HO2.out; subst eo2; obtain ⟨ada, ea, hxa_0, hxa_1, hxa_2, hxa_3⟩ := at_T32 (Kd.R_reads' HO1'.out).2.2 0 (by omega) (by have := L1.out; omega); cases ea; (try rw [show ((0 : Int)).toNat = 0 from rfl] at hxa_0); (try rw [show 0 * 4 = 0 from rfl] at hxa_0); (try rw [Addr.add_zero'] at hxa_0); (try rw [show ((0 : Int)).toNat = 0 from rfl] at hxa_1); (try rw [show 0 * 4 = 0 from rfl] at hxa_1); (try rw [Addr.add_zero'] at hxa_1); (try rw [show ((0 : Int)).toNat = 0 from rfl] at hxa_2); (try rw [show 0 * 4 = 0 from rfl] at hxa_2); (try rw [Addr.add_zero'] at hxa_2); (try rw [show ((0 : Int)).toNat = 0 from rfl] at hxa_3); (try rw [show 0 * 4 = 0 from rfl] at hxa_3); (try rw [Addr.add_zero'] at hxa_3); obtain ⟨adb, eb, hxb_0, hxb_1, hxb_2, hxb_3⟩ := at_T32 (Kd.R_reads' HO1'.out).2.2 1 (by omega) (by have := L1.out; omega); cases eb; (try rw [show ((1 : Int)).toNat = 1 from rfl] at hxb_0); (try rw [show 1 * 4 = 4 from rfl] at hxb_0); (try rw [show ((1 : Int)).toNat = 1 from rfl] at hxb_1); (try rw [show 1 * 4 = 4 from rfl] at hxb_1); (try rw [show ((1 : Int)).toNat = 1 from rfl] at hxb_2); (try rw [show 1 * 4 = 4 from rfl] at hxb_2); (try rw [show ((1 : Int)).toNat = 1 from rfl] at hxb_3); (try rw [show 1 * 4 = 4 from rfl] at hxb_3); rw [show ∀ a : Addr, a.add 4 = ⟨a.block, a.off + 4, none⟩ from fun _ => rfl] at hxb_0 hxb_1 hxb_2 hxb_3; dsimp only at hxb_0 hxb_1 hxb_2 hxb_3; obtain ⟨adc, ec, hxc_0, hxc_1, hxc_2, hxc_3⟩ := at_T32 (Kd.R_reads' HO2.out).2.2 0 (by omega) (by have := L2.out; omega); cases ec; (try rw [show ((0 : Int)).toNat = 0 from rfl] at hxc_0); (try rw [show 0 * 4 = 0 from rfl] at hxc_0); (try rw [Addr.add_zero'] at hxc_0); (try rw [show ((0 : Int)).toNat = 0 from rfl] at hxc_1); (try rw [show 0 * 4 = 0 from rfl] at hxc_1); (try rw [Addr.add_zero'] at hxc_1); (try rw [show ((0 : Int)).toNat = 0 from rfl] at hxc_2); (try rw [show 0 * 4 = 0 from rfl] at hxc_2); (try rw [Addr.add_zero'] at hxc_2); (try rw [show ((0 : Int)).toNat = 0 from rfl] at hxc_3); (try rw [show 0 * 4 = 0 from rfl] at hxc_3); (try rw [Addr.add_zero'] at hxc_3)))
      go_ret
      exact ⟨by first | rfl | (simp; done) | (simp [*]; done), HB22.out⟩

end Go.Proofs.YtfgabdfnbkmaeaaDoor.Pr
