-- Printed by a program of this session's own (wip/tools/pp.py) over the kit's print.py; Lean checks it.
import Derived.WalkMore
import Derived.Test.YtfgabdfnbkmaeaaDoorShelf
import Derived.ScopeJumps
import Derived.Test.YtfgabdfnbkmaeaaDoorPr0
import Derived.Test.YtfgabdfnbkmaeaaDoorPr4
import Derived.Test.YtfgabdfnbkmaeaaDoorPr5
import Derived.Test.YtfgabdfnbkmaeaaDoorPr9
import Derived.Test.YtfgabdfnbkmaeaaDoorPr10
namespace Go.Proofs.YtfgabdfnbkmaeaaDoor.Pr
open Go.RowKit Go.Proofs.YtfgabdfnbkmaeaaDoorW.PrintWords Go.Proofs.YtfgabdfnbkmaeaaDoorW.PrintLast Go.Proofs.YtfgabdfnbkmaeaaDoorW.PrintMore
attribute [local go_sem] max2_int min2_int max_two min_two max_three min_three max_four min_four   -- for this text's walks alone
set_option linter.unusedVariables false
set_option linter.unusedSimpArgs false

-- given by hand
/-! ### scan_All: function 11 -/
-- needs scan_run scan_left scan_number scan_token
-- IMPORT Derived.Test.YtfgabdfnbkmaeaaDoorShelf
-- IMPORT Derived.ScopeJumps
-- IMPORT Derived.WalkMore
theorem leftN_le (s : ByteArray) (h0 : 0 < s.size) : leftN s ≤ s.size := by
  unfold leftN
  have := runL_le (fun c => c != 10) s.data.toList
  rw [← Lib.size_eq] at this
  split
  · omega
  · split <;> omega
theorem numV_size (s : ByteArray) (z : Nat) (h : (numV s z).2.2 = 0) : (numV s z).2.1 = (z : Int) := by
  unfold numV at h ⊢
  split at h
  · split at h
    · exact absurd h (by decide)
    · split at h
      · exact absurd h (by decide)
      · rename_i h1 h2
        rw [if_neg h1, if_neg h2]
  · exact absurd h (by decide)
theorem numS_size (s : ByteArray) (h : (numS s).2.2 = 0) : 1 ≤ (numS s).2.1 ∧ (numS s).2.1 ≤ (s.size : Int) := by
  have hle := trimB_le s
  have hr := runL_le digP (trimB s).data.toList
  rw [← Lib.size_eq] at hr
  unfold numS at h ⊢
  split at h
  · exact absurd h (by decide)
  · rename_i h1
    rw [if_neg h1]
    split at h
    · exact absurd h (by decide)
    · rename_i h2
      rw [if_neg h2, numV_size s _ h]
      omega
theorem runL_pos (p : Int → Bool) (s : ByteArray) (h0 : 0 < s.size) (h : p (bt s 0) = true) : 1 ≤ runL p s.data.toList := by
  have := runL_drop p s 0 h0
  rw [List.drop_zero, show ((0 : Nat) : Int) = 0 from rfl, if_pos h] at this
  omega
theorem tokS_size (s : ByteArray) (h0 : 0 < s.size) (h : (tokS s).2.2 = 0) : 1 ≤ (tokS s).2.1 ∧ (tokS s).2.1 ≤ (s.size : Int) := by
  have hr := runL_le letP s.data.toList
  rw [← Lib.size_eq] at hr
  unfold tokS at h ⊢
  split
  · dsimp only; omega
  · rename_i c1
    rw [if_neg c1] at h
    split
    · rename_i c2
      have := runL_pos letP s h0 c2
      dsimp only
      omega
    · rename_i c2
      rw [if_neg c2] at h
      split
      · rename_i c3
        rw [if_pos c3] at h
        exact numS_size s h
      · rename_i c3
        rw [if_neg c3] at h
        exact absurd h (by decide)
/-- the tokens from a place on -/
def allL : Nat → ByteArray → List S32 → Nat → List S32 × Int × Int
  | 0, _, _, _ => ([], 0, 0)
  | k + 1, s, l, a =>
    if s.size ≤ a then (l ++ [⟨4, ⟨#[]⟩, 0, (s.size : Int)⟩], 0, 0)
    else if 0 < leftN (s.extract a s.size) then allL k s l (a + leftN (s.extract a s.size))
    else if (tokS (s.extract a s.size)).2.2 = 0 then allL k s (l ++ [⟨(tokS (s.extract a s.size)).1.1, (tokS (s.extract a s.size)).1.2.1, (tokS (s.extract a s.size)).1.2.2, (a : Int)⟩]) (a + (tokS (s.extract a s.size)).2.1.toNat)
    else ([], (a : Int), (tokS (s.extract a s.size)).2.2)
def scan_All.f (s : ByteArray) : Option (List S32 × Int × Int) := some (if s.size ≤ 100000 then allL (s.size + 1) s [] 0 else ([], 0, 7))
theorem all_done {k : Nat} {s : ByteArray} {l : List S32} {a : Nat} (h : s.size ≤ a) : allL (k + 1) s l a = (l ++ [⟨4, ⟨#[]⟩, 0, (s.size : Int)⟩], 0, 0) := by rw [allL, if_pos h]
def intOf : Value → Int | .int _ q => q | _ => 0
set_option maxRecDepth 1000000 in
set_option maxHeartbeats 4000000 in
theorem scan_All.calls (s : ByteArray) (r1 : List S32) (r2 : Int) (r3 : Int) (w : World) (hTb : Tab64 w) (h : scan_All.f s = some (r1, r2, r3)) :
    Calls Tryd.prog 11 #[.string s] w fun e w' => ∃ v0_ : Value, e = .returned (.tuple #[v0_, .int .i64 r2, .int .i64 r3]) ∧ Kd.R k32 32 w' w.heap.size (fun _ => True) v0_ r1 ∧ Below w.heap.size w w' := by
  have HTAB := Aside0.mk hTb
  replace h := Option.some.inj h
  clear hTb
  by_cases c0 : s.size ≤ 100000
  · rw [if_pos c0] at h
    have HL := Aside0.mk h
    clear h
    have c0z : (s.size : Int) ≤ 100000 := by omega
    go_enter Tryd.func11, Tryd.ntmps11
    go_wp2
    refine wp_scope_jumps 0 (fun a' w' => ∃ (l : List S32) (v : Value) (A n g k : Nat) (u7 u8 u9 u10 u11 u12 u13 u14 u15 u16 u17 u18 u19 u20 u21 u22 u23 u24 u25 u26 u27 u28 u29 u30 u31 u32 u33 u34 u35 u36 u37 u38 u39 u40 u41 u42 u43 u44 u45 u46 : Value), a' = { tmps := #[.string s, undef, v, .int .i64 A, .int .i64 0, .pointer (some ⟨g, 0, none⟩), .int .i64 n, u7, u8, u9, u10, u11, u12, u13, u14, u15, u16, u17, u18, u19, u20, u21, u22, u23, u24, u25, u26, u27, u28, u29, u30, u31, u32, u33, u34, u35, u36, u37, u38, u39, u40, u41, u42, u43, u44, u45, u46], defers := [] } ∧ A + n ≤ s.size ∧ Aside0 (s.size - (A + n) < k) ∧ Aside0 (allL k s l (A + n) = (r1, r2, r3)) ∧ Aside0 (l.length ≤ A + n) ∧ Aside0 (Kd.R k32 32 w' w.heap.size (fun k => k ≠ g) v l) ∧ Aside0 (Below w.heap.size w w') ∧ Aside0 (w.heap.size ≤ g) ∧ Aside0 (∃ b0 b1 b2 b3, w'.heap[g]? = some (.cells #[b0, b1, b2, b3] 32 (0, 0)))) (fun a' _ => s.size - ((intOf (a'.tmps.getD 3 undef)).toNat + (intOf (a'.tmps.getD 6 undef)).toNat)) rfl ?_ ?_
    · go_wp2
      go_step3
      (try simp only [Exit.then])
      rename_i hK0
      refine hK0 _ _ ?_
      refine (fun C Q u7 u8 u9 u10 u11 u12 u13 u14 u15 u16 u17 u18 u19 u20 u21 u22 u23 u24 u25 u26 u27 u28 u29 u30 u31 u32 u33 u34 u35 u36 u37 u38 u39 u40 u41 u42 u43 u44 u45 u46 h => h [] (.slice none 0 0) 0 0 w.heap.size (s.size + 1) (w.alloc (.cells #[.int .i64 0, .string ⟨#[]⟩, .int .i64 0, .int .i64 0] 32 (0, 0))) u7 u8 u9 u10 u11 u12 u13 u14 u15 u16 u17 u18 u19 u20 u21 u22 u23 u24 u25 u26 u27 u28 u29 u30 u31 u32 u33 u34 u35 u36 u37 u38 u39 u40 u41 u42 u43 u44 u45 u46 (by omega) ⟨by omega⟩ ⟨HL.out⟩ ⟨Nat.le_refl _⟩ ⟨Kd.R_nil _ _ _ _ _⟩ ⟨below_alloc (Below.refl _ _) _⟩ ⟨Nat.le_refl _⟩ ⟨_, _, _, _, blk_new _ _⟩ : ∀ (C : Code) (Q : Exit → Act → World → Prop) (u7 u8 u9 u10 u11 u12 u13 u14 u15 u16 u17 u18 u19 u20 u21 u22 u23 u24 u25 u26 u27 u28 u29 u30 u31 u32 u33 u34 u35 u36 u37 u38 u39 u40 u41 u42 u43 u44 u45 u46 : Value), (∀ (l : List S32) (v : Value) (A n g k : Nat) (w' : World) (u7 u8 u9 u10 u11 u12 u13 u14 u15 u16 u17 u18 u19 u20 u21 u22 u23 u24 u25 u26 u27 u28 u29 u30 u31 u32 u33 u34 u35 u36 u37 u38 u39 u40 u41 u42 u43 u44 u45 u46 : Value) (hle : A + n ≤ s.size) (HK : Aside0 (s.size - (A + n) < k)) (HI : Aside0 (allL k s l (A + n) = (r1, r2, r3))) (HLN : Aside0 (l.length ≤ A + n)) (HR : Aside0 (Kd.R k32 32 w' w.heap.size (fun k => k ≠ g) v l)) (HB : Aside0 (Below w.heap.size w w')) (HG : Aside0 (w.heap.size ≤ g)) (HBK0 : Aside0 (∃ b0 b1 b2 b3, w'.heap[g]? = some (.cells #[b0, b1, b2, b3] 32 (0, 0)))), C.wp Tryd.prog Q { tmps := #[.string s, undef, v, .int .i64 A, .int .i64 0, .pointer (some ⟨g, 0, none⟩), .int .i64 n, u7, u8, u9, u10, u11, u12, u13, u14, u15, u16, u17, u18, u19, u20, u21, u22, u23, u24, u25, u26, u27, u28, u29, u30, u31, u32, u33, u34, u35, u36, u37, u38, u39, u40, u41, u42, u43, u44, u45, u46], defers := [] } w') → C.wp Tryd.prog Q { tmps := #[.string s, undef, (.slice none 0 0), .int .i64 0, .int .i64 0, .pointer (some ⟨w.heap.size, 0, none⟩), .int .i64 0, u7, u8, u9, u10, u11, u12, u13, u14, u15, u16, u17, u18, u19, u20, u21, u22, u23, u24, u25, u26, u27, u28, u29, u30, u31, u32, u33, u34, u35, u36, u37, u38, u39, u40, u41, u42, u43, u44, u45, u46], defers := [] } (w.alloc (.cells #[.int .i64 0, .string ⟨#[]⟩, .int .i64 0, .int .i64 0] 32 (0, 0)))) _ _ _ _ _ _ _ _ _ _ _ _ _ _ _ _ _ _ _ _ _ _ _ _ _ _ _ _ _ _ _ _ _ _ _ _ _ _ _ _ _ _ ?_
      rintro l v A n g k w' u7 u8 u9 u10 u11 u12 u13 u14 u15 u16 u17 u18 u19 u20 u21 u22 u23 u24 u25 u26 u27 u28 u29 u30 u31 u32 u33 u34 u35 u36 u37 u38 u39 u40 u41 u42 u43 u44 u45 u46 hle HK HI HLN HR HB HG HBK0
      obtain ⟨b0, b1, b2, b3, hbk⟩ := HBK0.out
      have HBK := Aside0.mk hbk
      have hc0 := (blk_cell hbk 0).trans rfl
      have hc1 := (blk_cell hbk 1).trans rfl
      have hc2 := (blk_cell hbk 2).trans rfl
      have hc3 := (blk_cell hbk 3).trans rfl
      have hf0 := blk_frozen hbk 0
      have hf1 := blk_frozen hbk 1
      have hf2 := blk_frozen hbk 2
      have hf3 := blk_frozen hbk 3
      clear hbk HBK0
      obtain ⟨k, rfl⟩ : ∃ j, k = j + 1 := ⟨k - 1, by have := HK.out; omega⟩
      have HI2 := HI.out
      clear HI
      obtain ⟨p, hp⟩ : ∃ p, p = A + n := ⟨_, rfl⟩
      rw [← hp] at hle HK HI2 HLN
      have hpz : (A : Int) + (n : Int) = (p : Int) := by omega
      have HP := Aside0.mk hp
      clear hp
      have hlz : (p : Int) ≤ (s.size : Int) := by omega
      by_cases c1 : s.size ≤ p
      · rw [all_done c1] at HI2
        simp only [Prod.mk.injEq] at HI2
        obtain ⟨rfl, rfl, rfl⟩ := HI2
        have c1z : (s.size : Int) ≤ (p : Int) := by omega
        go_wp2_with (at_builtin; refine Kd.R_append k32 (w0 := w) w.heap.size rfl (.tmp 17) (.tmp 21) 23 32 (.agg #[.int .i64 0, .string ⟨#[]⟩, .int .i64 0, .int .i64 0]) 40 rfl Tryd.underlying23 info32 rfl (by decide) (by omega) v l (⟨4, ⟨#[]⟩, 0, (s.size : Int)⟩ : S32) [.int .i64 4, .string ⟨#[]⟩, .int .i64 0, .int .i64 (s.size : Int)] (fun k => k ≠ g) (fun _ => False) rfl rfl ?aP (fun _ hk => hk.elim) ?aF ?aO ?aB ?aS ?aL ?_; (case aP => exact k32_mkM _ _ _ (⟨4, ⟨#[]⟩, 0, (s.size : Int)⟩ : S32)); (case aB => exact HB.out); (case aF => exact Kd.freshB HBK.out); (case aO => exact HR.out); (case aS => exact below_size HB.out); (case aL => have := HLN.out; omega); intro v1 w5 ho hb hg hat; have HO := Aside0.mk ho; have HB3 := Aside0.mk hb; clear ho hb hg hat)
        (try simp only [Exit.jump])
        go_ret3
        exact ⟨_, rfl, Kd.R_mono HO.out (fun _ _ => trivial), HB3.out⟩
      · have c1z : ¬ (s.size : Int) ≤ (p : Int) := by omega
        obtain ⟨P, hP⟩ : ∃ P, P = s.extract p s.size := ⟨_, rfl⟩
        have HPS : P.size = s.size - p := by rw [hP, ByteArray.size_extract]; omega
        have hP0 : 0 < P.size := by omega
        rw [allL, if_neg c1, ← hP] at HI2
        have HLEFT := Aside0.mk (scan_left.callsL P hP0 (by omega))
        have HTOK := Aside0.mk (scan_token.callsT P hP0 (by omega))
        have hln := leftN_le P hP0
        have hts := tokS_size P hP0
        obtain ⟨q, hq⟩ : ∃ q, q = leftN P := ⟨_, rfl⟩
        rw [← hq] at HLEFT hln HI2
        obtain ⟨tk, htk⟩ : ∃ tk, tk = tokS P := ⟨_, rfl⟩
        rw [← htk] at HTOK hts HI2
        obtain ⟨⟨k1, k2, k3⟩, z, er⟩ := tk
        dsimp only at HTOK hts HI2
        replace hP := hP.symm
        clear hq htk c1
        by_cases c2 : 0 < q
        · rw [if_pos c2] at HI2
          have HI := Aside0.mk HI2
          have c2z : (0 : Int) < (q : Int) := by omega
          clear HI2 hts
          go_wp2_with (go_at_call 13; refine (HLEFT.out _).mono ?_; rintro e w1 ⟨rfl, ⟨nd, rfl⟩⟩)
          go_step3
          refine ⟨rfl, l, v, p, q, g, k, _, _, _, _, _, _, _, _, _, _, _, _, _, _, _, _, _, _, _, _, _, _, _, _, _, _, _, _, _, _, _, _, _, _, _, _, _, _, _, _, rfl, by omega, ⟨by have := HK.out; omega⟩, HI, ⟨by have := HLN.out; omega⟩, ⟨Kd.R_drewN HR.out _⟩, ⟨pw_below_drewN HB.out _⟩, HG, ⟨_, _, _, _, blk_drewN HBK.out _⟩⟩
        · rw [if_neg c2] at HI2
          obtain rfl : q = 0 := by omega
          clear c2 hln
          by_cases c3 : er = 0
          · subst c3
            rw [if_pos rfl] at HI2
            obtain ⟨t1, t2⟩ := hts rfl
            obtain ⟨z, rfl⟩ := Int.eq_ofNat_of_zero_le (show 0 ≤ z by omega)
            have HI := Aside0.mk HI2
            clear HI2 hts
            go_wp2_with (first | (go_at_call 13; refine (HLEFT.out _).mono ?_; rintro e w1 ⟨rfl, ⟨nd, rfl⟩⟩) | (go_at_call 14; refine (HTOK.out _ (tab_drewN (tab_below HTAB.out HB.out) _)).mono ?_; rintro e w2 ⟨rfl, hb⟩; clear hc0 hc1 hc2 hc3 hf0 hf1 hf2 hf3; have HB2 := Aside0.mk (below_step (w := w) (pw_below_drewN HB.out _) hb); have hk2 := blk_below (blk_drewN HBK.out _) hb; have HBK2 := Aside0.mk hk2; have HR2 := Aside0.mk (Kd.R_below (Kd.R_drewN HR.out _) hb); have hd0 := (blk_cell hk2 0).trans rfl; have hd1 := (blk_cell hk2 1).trans rfl; have hd2 := (blk_cell hk2 2).trans rfl; have hd3 := (blk_cell hk2 3).trans rfl; have he0 := blk_frozen hk2 0; have he1 := blk_frozen hk2 1; have he2 := blk_frozen hk2 2; have he3 := blk_frozen hk2 3; clear hb hk2) | ((with_reducible refine gate_dst (N := 42) rfl ?_); obtain ⟨w3, hw3⟩ : ∃ w3, w3 = ((((w2.setCell ⟨g, 0, none⟩ (.int .i64 k1)).setCell ⟨g, 1, none⟩ (.string k2)).setCell ⟨g, 2, none⟩ (.int .i64 k3)).setCell ⟨g, 3, none⟩ (.int .i64 0)) := ⟨_, rfl⟩; rw [← hw3]; have hk3 := tok_put HBK2.out (.int .i64 k1) (.string k2) (.int .i64 k3) (.int .i64 0); rw [← hw3] at hk3; have HR3 := Aside0.mk (Kd.R_far (p := ⟨g, 3, none⟩) (Kd.R_far (p := ⟨g, 2, none⟩) (Kd.R_far (p := ⟨g, 1, none⟩) (Kd.R_far (p := ⟨g, 0, none⟩) HR2.out (fun _ h => h) (.int .i64 k1)) (fun _ h => h) (.string k2)) (fun _ h => h) (.int .i64 k3)) (fun _ h => h) (.int .i64 0)); rw [← hw3] at HR3; have HB3 := Aside0.mk (below_set (j := 3) (v := .int .i64 0) (below_set (j := 2) (v := .int .i64 k3) (below_set (j := 1) (v := .string k2) (below_set (j := 0) (v := .int .i64 k1) HB2.out HG.out) HG.out) HG.out) HG.out); rw [← hw3] at HB3; have HBK3 := Aside0.mk hk3; clear hw3 HBK2 HR2 HB2 hd0 hd1 hd2 hd3 he0 he1 he2 he3; have hd0 := (blk_cell hk3 0).trans rfl; have hd1 := (blk_cell hk3 1).trans rfl; have hd2 := (blk_cell hk3 2).trans rfl; have hd3 := (blk_cell hk3 3).trans rfl; have he0 := blk_frozen hk3 0; have he1 := blk_frozen hk3 1; have he2 := blk_frozen hk3 2; have he3 := blk_frozen hk3 3; clear hk3) | (at_builtin; refine Kd.R_append k32 (w0 := w) w.heap.size rfl (.tmp 43) (.tmp 45) 23 32 (.agg #[.int .i64 0, .string ⟨#[]⟩, .int .i64 0, .int .i64 0]) 40 rfl Tryd.underlying23 info32 rfl (by decide) (by omega) v l (⟨k1, k2, k3, (p : Int)⟩ : S32) [.int .i64 k1, .string k2, .int .i64 k3, .int .i64 (p : Int)] (fun k => k ≠ g) (fun _ => False) rfl (by show Value.slice (some ⟨w3.heap.size, 0, none⟩) 1 1 = _; simp [World.setCell]) ?aP (fun _ hk => hk.elim) ?aF ?aO ?aB ?aS ?aL ?_; (case aP => exact k32_mkM _ _ _ (⟨k1, k2, k3, (p : Int)⟩ : S32)); (case aB => exact (below_set HB3.out HG.out)); (case aF => exact Kd.freshB (blk_put (cs' := #[.int .i64 k1, .string k2, .int .i64 k3, .int .i64 p]) HBK3.out 3 (.int .i64 p) rfl)); (case aO => exact (Kd.R_far HR3.out (fun _ h => h) _)); (case aS => exact below_size (below_set HB3.out HG.out)); (case aL => have := HLN.out; omega); intro v1 w5 ho hb hg hat; have HO := Aside0.mk ho; have HB4 := Aside0.mk hb; have HBK4 := Aside0.mk (blk_grown (blk_put (cs' := #[.int .i64 k1, .string k2, .int .i64 k3, .int .i64 p]) HBK3.out 3 (.int .i64 p) rfl) hg (fun e => HR3.out.1 g e.symm rfl)); clear ho hb hg hat))
            go_step3
            refine ⟨rfl, l ++ [⟨k1, k2, k3, (p : Int)⟩], v1, p, z, g, k, _, _, _, _, _, _, _, _, _, _, _, _, _, _, _, _, _, _, _, _, _, _, _, _, _, _, _, _, _, _, _, _, _, _, _, _, _, _, _, _, rfl, by omega, ⟨by have := HK.out; omega⟩, ⟨by simpa using HI.out⟩, ⟨by have := HLN.out; simp only [List.length_append, List.length_cons, List.length_nil]; omega⟩, HO, HB4, HG, ⟨_, _, _, _, HBK4.out⟩⟩
          · rw [if_neg c3] at HI2
            simp only [Prod.mk.injEq] at HI2
            obtain ⟨rfl, rfl, rfl⟩ := HI2
            have c3b : (er == 0) = false := beq_false_of_ne c3
            clear hts
            go_wp2_with (first | (go_at_call 13; refine (HLEFT.out _).mono ?_; rintro e w1 ⟨rfl, ⟨nd, rfl⟩⟩) | (go_at_call 14; refine (HTOK.out _ (tab_drewN (tab_below HTAB.out HB.out) _)).mono ?_; rintro e w2 ⟨rfl, hb⟩; clear hc0 hc1 hc2 hc3 hf0 hf1 hf2 hf3; have HB2 := Aside0.mk (below_step (w := w) (pw_below_drewN HB.out _) hb); have hk2 := blk_below (blk_drewN HBK.out _) hb; have HBK2 := Aside0.mk hk2; have hd0 := (blk_cell hk2 0).trans rfl; have hd1 := (blk_cell hk2 1).trans rfl; have hd2 := (blk_cell hk2 2).trans rfl; have hd3 := (blk_cell hk2 3).trans rfl; have he0 := blk_frozen hk2 0; have he1 := blk_frozen hk2 1; have he2 := blk_frozen hk2 2; have he3 := blk_frozen hk2 3; clear hb hk2))
            (try simp only [Exit.jump])
            go_ret3
            exact ⟨_, rfl, Kd.R_nil _ _ _ _ _, (by repeat (first | exact HB2.out | refine below_set ?_ HG.out))⟩
    · rintro a' w' ⟨l, v, A, n, g, k, u7, u8, u9, u10, u11, u12, u13, u14, u15, u16, u17, u18, u19, u20, u21, u22, u23, u24, u25, u26, u27, u28, u29, u30, u31, u32, u33, u34, u35, u36, u37, u38, u39, u40, u41, u42, u43, u44, u45, u46, rfl, hle, HK, HI, HLN, HR, HB, HG, HBK0⟩
      obtain ⟨b0, b1, b2, b3, hbk⟩ := HBK0.out
      have HBK := Aside0.mk hbk
      have hc0 := (blk_cell hbk 0).trans rfl
      have hc1 := (blk_cell hbk 1).trans rfl
      have hc2 := (blk_cell hbk 2).trans rfl
      have hc3 := (blk_cell hbk 3).trans rfl
      have hf0 := blk_frozen hbk 0
      have hf1 := blk_frozen hbk 1
      have hf2 := blk_frozen hbk 2
      have hf3 := blk_frozen hbk 3
      clear hbk HBK0
      obtain ⟨k, rfl⟩ : ∃ j, k = j + 1 := ⟨k - 1, by have := HK.out; omega⟩
      have HI2 := HI.out
      clear HI
      obtain ⟨p, hp⟩ : ∃ p, p = A + n := ⟨_, rfl⟩
      rw [← hp] at hle HK HI2 HLN
      have hpz : (A : Int) + (n : Int) = (p : Int) := by omega
      have HP := Aside0.mk hp
      clear hp
      have hlz : (p : Int) ≤ (s.size : Int) := by omega
      by_cases c1 : s.size ≤ p
      · rw [all_done c1] at HI2
        simp only [Prod.mk.injEq] at HI2
        obtain ⟨rfl, rfl, rfl⟩ := HI2
        have c1z : (s.size : Int) ≤ (p : Int) := by omega
        go_wp2_with (at_builtin; refine Kd.R_append k32 (w0 := w) w.heap.size rfl (.tmp 17) (.tmp 21) 23 32 (.agg #[.int .i64 0, .string ⟨#[]⟩, .int .i64 0, .int .i64 0]) 40 rfl Tryd.underlying23 info32 rfl (by decide) (by omega) v l (⟨4, ⟨#[]⟩, 0, (s.size : Int)⟩ : S32) [.int .i64 4, .string ⟨#[]⟩, .int .i64 0, .int .i64 (s.size : Int)] (fun k => k ≠ g) (fun _ => False) rfl rfl ?aP (fun _ hk => hk.elim) ?aF ?aO ?aB ?aS ?aL ?_; (case aP => exact k32_mkM _ _ _ (⟨4, ⟨#[]⟩, 0, (s.size : Int)⟩ : S32)); (case aB => exact HB.out); (case aF => exact Kd.freshB HBK.out); (case aO => exact HR.out); (case aS => exact below_size HB.out); (case aL => have := HLN.out; omega); intro v1 w5 ho hb hg hat; have HO := Aside0.mk ho; have HB3 := Aside0.mk hb; clear ho hb hg hat)
        (try simp only [Exit.jump])
        go_ret3
        exact ⟨_, rfl, Kd.R_mono HO.out (fun _ _ => trivial), HB3.out⟩
      · have c1z : ¬ (s.size : Int) ≤ (p : Int) := by omega
        obtain ⟨P, hP⟩ : ∃ P, P = s.extract p s.size := ⟨_, rfl⟩
        have HPS : P.size = s.size - p := by rw [hP, ByteArray.size_extract]; omega
        have hP0 : 0 < P.size := by omega
        rw [allL, if_neg c1, ← hP] at HI2
        have HLEFT := Aside0.mk (scan_left.callsL P hP0 (by omega))
        have HTOK := Aside0.mk (scan_token.callsT P hP0 (by omega))
        have hln := leftN_le P hP0
        have hts := tokS_size P hP0
        obtain ⟨q, hq⟩ : ∃ q, q = leftN P := ⟨_, rfl⟩
        rw [← hq] at HLEFT hln HI2
        obtain ⟨tk, htk⟩ : ∃ tk, tk = tokS P := ⟨_, rfl⟩
        rw [← htk] at HTOK hts HI2
        obtain ⟨⟨k1, k2, k3⟩, z, er⟩ := tk
        dsimp only at HTOK hts HI2
        replace hP := hP.symm
        clear hq htk c1
        by_cases c2 : 0 < q
        · rw [if_pos c2] at HI2
          have HI := Aside0.mk HI2
          have c2z : (0 : Int) < (q : Int) := by omega
          clear HI2 hts
          go_wp2_with (go_at_call 13; refine (HLEFT.out _).mono ?_; rintro e w1 ⟨rfl, ⟨nd, rfl⟩⟩)
          go_step3
          refine ⟨rfl, ⟨l, v, p, q, g, k, _, _, _, _, _, _, _, _, _, _, _, _, _, _, _, _, _, _, _, _, _, _, _, _, _, _, _, _, _, _, _, _, _, _, _, _, _, _, _, _, rfl, by omega, ⟨by have := HK.out; omega⟩, HI, ⟨by have := HLN.out; omega⟩, ⟨Kd.R_drewN HR.out _⟩, ⟨pw_below_drewN HB.out _⟩, HG, ⟨_, _, _, _, blk_drewN HBK.out _⟩⟩, ?_⟩
          have := HP.out
          simp [intOf]
          omega
        · rw [if_neg c2] at HI2
          obtain rfl : q = 0 := by omega
          clear c2 hln
          by_cases c3 : er = 0
          · subst c3
            rw [if_pos rfl] at HI2
            obtain ⟨t1, t2⟩ := hts rfl
            obtain ⟨z, rfl⟩ := Int.eq_ofNat_of_zero_le (show 0 ≤ z by omega)
            have HI := Aside0.mk HI2
            clear HI2 hts
            go_wp2_with (first | (go_at_call 13; refine (HLEFT.out _).mono ?_; rintro e w1 ⟨rfl, ⟨nd, rfl⟩⟩) | (go_at_call 14; refine (HTOK.out _ (tab_drewN (tab_below HTAB.out HB.out) _)).mono ?_; rintro e w2 ⟨rfl, hb⟩; clear hc0 hc1 hc2 hc3 hf0 hf1 hf2 hf3; have HB2 := Aside0.mk (below_step (w := w) (pw_below_drewN HB.out _) hb); have hk2 := blk_below (blk_drewN HBK.out _) hb; have HBK2 := Aside0.mk hk2; have HR2 := Aside0.mk (Kd.R_below (Kd.R_drewN HR.out _) hb); have hd0 := (blk_cell hk2 0).trans rfl; have hd1 := (blk_cell hk2 1).trans rfl; have hd2 := (blk_cell hk2 2).trans rfl; have hd3 := (blk_cell hk2 3).trans rfl; have he0 := blk_frozen hk2 0; have he1 := blk_frozen hk2 1; have he2 := blk_frozen hk2 2; have he3 := blk_frozen hk2 3; clear hb hk2) | ((with_reducible refine gate_dst (N := 42) rfl ?_); obtain ⟨w3, hw3⟩ : ∃ w3, w3 = ((((w2.setCell ⟨g, 0, none⟩ (.int .i64 k1)).setCell ⟨g, 1, none⟩ (.string k2)).setCell ⟨g, 2, none⟩ (.int .i64 k3)).setCell ⟨g, 3, none⟩ (.int .i64 0)) := ⟨_, rfl⟩; rw [← hw3]; have hk3 := tok_put HBK2.out (.int .i64 k1) (.string k2) (.int .i64 k3) (.int .i64 0); rw [← hw3] at hk3; have HR3 := Aside0.mk (Kd.R_far (p := ⟨g, 3, none⟩) (Kd.R_far (p := ⟨g, 2, none⟩) (Kd.R_far (p := ⟨g, 1, none⟩) (Kd.R_far (p := ⟨g, 0, none⟩) HR2.out (fun _ h => h) (.int .i64 k1)) (fun _ h => h) (.string k2)) (fun _ h => h) (.int .i64 k3)) (fun _ h => h) (.int .i64 0)); rw [← hw3] at HR3; have HB3 := Aside0.mk (below_set (j := 3) (v := .int .i64 0) (below_set (j := 2) (v := .int .i64 k3) (below_set (j := 1) (v := .string k2) (below_set (j := 0) (v := .int .i64 k1) HB2.out HG.out) HG.out) HG.out) HG.out); rw [← hw3] at HB3; have HBK3 := Aside0.mk hk3; clear hw3 HBK2 HR2 HB2 hd0 hd1 hd2 hd3 he0 he1 he2 he3; have hd0 := (blk_cell hk3 0).trans rfl; have hd1 := (blk_cell hk3 1).trans rfl; have hd2 := (blk_cell hk3 2).trans rfl; have hd3 := (blk_cell hk3 3).trans rfl; have he0 := blk_frozen hk3 0; have he1 := blk_frozen hk3 1; have he2 := blk_frozen hk3 2; have he3 := blk_frozen hk3 3; clear hk3) | (at_builtin; refine Kd.R_append k32 (w0 := w) w.heap.size rfl (.tmp 43) (.tmp 45) 23 32 (.agg #[.int .i64 0, .string ⟨#[]⟩, .int .i64 0, .int .i64 0]) 40 rfl Tryd.underlying23 info32 rfl (by decide) (by omega) v l (⟨k1, k2, k3, (p : Int)⟩ : S32) [.int .i64 k1, .string k2, .int .i64 k3, .int .i64 (p : Int)] (fun k => k ≠ g) (fun _ => False) rfl (by show Value.slice (some ⟨w3.heap.size, 0, none⟩) 1 1 = _; simp [World.setCell]) ?aP (fun _ hk => hk.elim) ?aF ?aO ?aB ?aS ?aL ?_; (case aP => exact k32_mkM _ _ _ (⟨k1, k2, k3, (p : Int)⟩ : S32)); (case aB => exact (below_set HB3.out HG.out)); (case aF => exact Kd.freshB (blk_put (cs' := #[.int .i64 k1, .string k2, .int .i64 k3, .int .i64 p]) HBK3.out 3 (.int .i64 p) rfl)); (case aO => exact (Kd.R_far HR3.out (fun _ h => h) _)); (case aS => exact below_size (below_set HB3.out HG.out)); (case aL => have := HLN.out; omega); intro v1 w5 ho hb hg hat; have HO := Aside0.mk ho; have HB4 := Aside0.mk hb; have HBK4 := Aside0.mk (blk_grown (blk_put (cs' := #[.int .i64 k1, .string k2, .int .i64 k3, .int .i64 p]) HBK3.out 3 (.int .i64 p) rfl) hg (fun e => HR3.out.1 g e.symm rfl)); clear ho hb hg hat))
            go_step3
            refine ⟨rfl, ⟨l ++ [⟨k1, k2, k3, (p : Int)⟩], v1, p, z, g, k, _, _, _, _, _, _, _, _, _, _, _, _, _, _, _, _, _, _, _, _, _, _, _, _, _, _, _, _, _, _, _, _, _, _, _, _, _, _, _, _, rfl, by omega, ⟨by have := HK.out; omega⟩, ⟨by simpa using HI.out⟩, ⟨by have := HLN.out; simp only [List.length_append, List.length_cons, List.length_nil]; omega⟩, HO, HB4, HG, ⟨_, _, _, _, HBK4.out⟩⟩, ?_⟩
            have := HP.out
            simp [intOf]
            omega
          · rw [if_neg c3] at HI2
            simp only [Prod.mk.injEq] at HI2
            obtain ⟨rfl, rfl, rfl⟩ := HI2
            have c3b : (er == 0) = false := beq_false_of_ne c3
            clear hts
            go_wp2_with (first | (go_at_call 13; refine (HLEFT.out _).mono ?_; rintro e w1 ⟨rfl, ⟨nd, rfl⟩⟩) | (go_at_call 14; refine (HTOK.out _ (tab_drewN (tab_below HTAB.out HB.out) _)).mono ?_; rintro e w2 ⟨rfl, hb⟩; clear hc0 hc1 hc2 hc3 hf0 hf1 hf2 hf3; have HB2 := Aside0.mk (below_step (w := w) (pw_below_drewN HB.out _) hb); have hk2 := blk_below (blk_drewN HBK.out _) hb; have HBK2 := Aside0.mk hk2; have hd0 := (blk_cell hk2 0).trans rfl; have hd1 := (blk_cell hk2 1).trans rfl; have hd2 := (blk_cell hk2 2).trans rfl; have hd3 := (blk_cell hk2 3).trans rfl; have he0 := blk_frozen hk2 0; have he1 := blk_frozen hk2 1; have he2 := blk_frozen hk2 2; have he3 := blk_frozen hk2 3; clear hb hk2))
            (try simp only [Exit.jump])
            go_ret3
            exact ⟨_, rfl, Kd.R_nil _ _ _ _ _, (by repeat (first | exact HB2.out | refine below_set ?_ HG.out))⟩

  · rw [if_neg c0] at h
    have c0z : decide (100000 < (s.size : Int)) = true := decide_eq_true (by omega)
    simp only [Prod.mk.injEq] at h
    obtain ⟨rfl, rfl, rfl⟩ := h
    go_enter Tryd.func11, Tryd.ntmps11
    go_wp2
    refine wp_scope_jumps 0 (fun _ _ => False) (fun _ _ => 0) rfl ?_ (fun _ _ h => h.elim)
    go_wp2
    (try simp only [Exit.jump])
    go_ret3
    exact ⟨_, rfl, Kd.R_nil _ _ _ _ _, Below.refl _ _⟩

end Go.Proofs.YtfgabdfnbkmaeaaDoor.Pr
