-- Printed by a program of this session's own (wip/tools/pp.py) over the kit's print.py; Lean checks it.
import Derived.Shelf.SlSortCmp.Whole1
import Derived.Test.YtlnmgljiggebiaaPr0
import Derived.Test.YtlnmgljiggebiaaPr4
import Derived.Test.YtlnmgljiggebiaaPr5
namespace Go.Proofs.Ytlnmgljiggebiaa.Pr
open Go.RowKit Go.Proofs.YtlnmgljiggebiaaW.PrintWords Go.Proofs.YtlnmgljiggebiaaW.PrintLast Go.Proofs.YtlnmgljiggebiaaW.PrintMore
attribute [local go_sem] max2_int min2_int max_two min_two max_three min_three max_four min_four   -- for this text's walks alone
set_option linter.unusedVariables false
set_option linter.unusedSimpArgs false

-- given by hand
/-! ### slices_SortFunc_int_int: function 35 -/
-- IMPORT Derived.Shelf.SlSortCmp.Whole1
-- needs slices_CompactFunc_int_int slices_BinarySearchFunc_int_int_int tuple_Compare
theorem cmpT_self : ∀ a : List Int, cmpT a a = 0
  | [] => rfl
  | x :: l => by rw [cmpT, if_neg (by omega), if_neg (by omega)]; exact cmpT_self l
theorem cmpT_swap : ∀ a b : List Int, cmpT b a = - cmpT a b
  | [], [] => rfl
  | [], _ :: _ => rfl
  | _ :: _, [] => rfl
  | x :: l, y :: m => by
    rw [cmpT, cmpT]
    by_cases h1 : x < y
    · rw [if_neg (by omega), if_pos h1, if_pos h1]; rfl
    · by_cases h2 : y < x
      · rw [if_pos h2, if_neg h1, if_pos h2]
      · rw [if_neg h2, if_neg h1, if_neg h1, if_neg h2]; exact cmpT_swap l m
theorem cmpT_eq : ∀ a b : List Int, cmpT a b = 0 → a = b
  | [], [], _ => rfl
  | [], _ :: _, h => by simp [cmpT] at h
  | _ :: _, [], h => by simp [cmpT] at h
  | x :: l, y :: m, h => by
    rw [cmpT] at h
    by_cases h1 : x < y
    · rw [if_pos h1] at h; omega
    · by_cases h2 : y < x
      · rw [if_neg h1, if_pos h2] at h; omega
      · rw [if_neg h1, if_neg h2] at h
        rw [cmpT_eq l m h, show x = y by omega]
theorem cmpT_trans : ∀ a b c : List Int, cmpT a b ≤ 0 → cmpT b c ≤ 0 → cmpT a c ≤ 0
  | [], _, [], _, _ => by simp [cmpT]
  | [], _, _ :: _, _, _ => by simp [cmpT]
  | _ :: _, [], _, h, _ => by simp [cmpT] at h
  | _ :: _, _ :: _, [], _, h => by simp [cmpT] at h
  | x :: l, y :: m, z :: n, h1, h2 => by
    rw [cmpT] at h1 h2 ⊢
    by_cases a1 : x < y
    · by_cases b1 : y < z
      · rw [if_pos (by omega)]; omega
      · by_cases b2 : z < y
        · rw [if_neg b1, if_pos b2] at h2; omega
        · rw [if_pos (by omega)]; omega
    · by_cases a2 : y < x
      · rw [if_neg a1, if_pos a2] at h1; omega
      · rw [if_neg a1, if_neg a2] at h1
        by_cases b1 : y < z
        · rw [if_pos (by omega)]; omega
        · by_cases b2 : z < y
          · rw [if_neg b1, if_pos b2] at h2; omega
          · rw [if_neg b1, if_neg b2] at h2
            rw [if_neg (by omega), if_neg (by omega)]
            exact cmpT_trans l m n h1 h2
def slices_SortFunc_int_int.lays_ren : Go.Shelf.Ren := ⟨fun | 6 => 35 | 15 => 44 | 14 => 43 | 28 => 55 | 29 => 56 | 20 => 47 | 21 => 48 | 22 => 49 | 23 => 50 | 24 => 51 | 25 => 52 | 26 => 53 | 27 => 54 | 46 => 58 | 47 => 59 | 48 => 60 | 49 => 61 | 50 => 62 | 57 => 63 | n => n, fun | 22 => 22 | 24 => 23 | 25 => 28 | 3 => 3 | 39 => 44 | 0 => 0 | 53 => 55 | 55 => 57 | 4 => 4 | 46 => 49 | 45 => 48 | 50 => 26 | 5 => 5 | 9 => 9 | 66 => 59 | 70 => 63 | 76 => 65 | 77 => 66 | n => n, fun | n => n⟩
theorem slices_SortFunc_int_int.lays : Go.Proofs.SlLaysF.n6 Try.prog slices_SortFunc_int_int.lays_ren := {
  mixed := by kernel_rfl,
  f6 := ⟨Try.f35.name, by decide, Try.func35.trans (congrArg some (by kernel_rfl))⟩,
  f14 := ⟨Try.f43.name, by decide, Try.func43.trans (congrArg some (by kernel_rfl))⟩,
  f15 := Try.func44.trans (congrArg some (by kernel_rfl)),
  f20 := ⟨Try.f47.name, by decide, Try.func47.trans (congrArg some (by kernel_rfl))⟩,
  f21 := ⟨Try.f48.name, by decide, Try.func48.trans (congrArg some (by kernel_rfl))⟩,
  f22 := ⟨Try.f49.name, by decide, Try.func49.trans (congrArg some (by kernel_rfl))⟩,
  f23 := ⟨Try.f50.name, by decide, Try.func50.trans (congrArg some (by kernel_rfl))⟩,
  f24 := ⟨Try.f51.name, by decide, Try.func51.trans (congrArg some (by kernel_rfl))⟩,
  f25 := ⟨Try.f52.name, by decide, Try.func52.trans (congrArg some (by kernel_rfl))⟩,
  f26 := ⟨Try.f53.name, by decide, Try.func53.trans (congrArg some (by kernel_rfl))⟩,
  f27 := ⟨Try.f54.name, by decide, Try.func54.trans (congrArg some (by kernel_rfl))⟩,
  f28 := Try.func55.trans (congrArg some (by kernel_rfl)),
  f29 := Try.func56.trans (congrArg some (by kernel_rfl)),
  f46 := ⟨Try.f58.name, by decide, Try.func58.trans (congrArg some (by kernel_rfl))⟩,
  f47 := Try.func59.trans (congrArg some (by kernel_rfl)),
  f48 := Try.func60.trans (congrArg some (by kernel_rfl)),
  f49 := ⟨Try.f61.name, by decide, Try.func61.trans (congrArg some (by kernel_rfl))⟩,
  f50 := ⟨Try.f62.name, by decide, Try.func62.trans (congrArg some (by kernel_rfl))⟩,
  f57 := ⟨Try.f63.name, by decide, Try.func63.trans (congrArg some (by kernel_rfl))⟩,
  t0 := Try.underlying0,
  a0 := Try.isAgg0,
  z0 := Try.sizeOf0,
  v0 := Try.zeroValue0,
  t3 := Try.underlying3,
  a3 := Try.isAgg3,
  z3 := Try.sizeOf3,
  v3 := Try.zeroValue3,
  t4 := Try.underlying4,
  a4 := Try.isAgg4,
  z4 := Try.sizeOf4,
  v4 := Try.zeroValue4,
  t5 := Try.underlying5,
  a5 := Try.isAgg5,
  z5 := Try.sizeOf5,
  v5 := Try.zeroValue5,
  t9 := Try.underlying9,
  a9 := Try.isAgg9,
  z9 := Try.sizeOf9,
  v9 := Try.zeroValue9,
  t22 := Try.underlying22,
  a22 := Try.isAgg22,
  z22 := Try.sizeOf22,
  v22 := Try.zeroValue22,
  a24 := Try.isAgg23,
  z24 := Try.sizeOf23,
  t25 := Try.underlying28,
  a25 := Try.isAgg28,
  z25 := Try.sizeOf28,
  v25 := Try.zeroValue28,
  t39 := Try.underlying44,
  a39 := Try.isAgg44,
  z39 := Try.sizeOf44,
  v39 := Try.zeroValue44,
  t45 := Try.underlying48,
  a45 := Try.isAgg48,
  z45 := Try.sizeOf48,
  v45 := Try.zeroValue48,
  t46 := Try.underlying49,
  a46 := Try.isAgg49,
  z46 := Try.sizeOf49,
  v46 := Try.zeroValue49,
  t50 := Try.underlying26,
  a50 := Try.isAgg26,
  z50 := Try.sizeOf26,
  v50 := Try.zeroValue26,
  t53 := Try.underlying55,
  a53 := Try.isAgg55,
  z53 := Try.sizeOf55,
  v53 := Try.zeroValue55,
  t55 := Try.underlying57,
  a55 := Try.isAgg57,
  z55 := Try.sizeOf57,
  v55 := Try.zeroValue57,
  t66 := Try.underlying59,
  a66 := Try.isAgg59,
  z66 := Try.sizeOf59,
  v66 := Try.zeroValue59,
  t70 := Try.underlying63,
  a70 := Try.isAgg63,
  z70 := Try.sizeOf63,
  v70 := Try.zeroValue63,
  t76 := Try.underlying65,
  a76 := Try.isAgg65,
  z76 := Try.sizeOf65,
  v76 := Try.zeroValue65,
  t77 := Try.underlying66,
  a77 := Try.isAgg66,
  z77 := Try.sizeOf66,
  v77 := Try.zeroValue66 }

section
open Go.Sort Go.Shelf Go.Lib
theorem cmpT_swo (ct : Nat → List Int) : SWO (ltOf (fun i j => cmpT (ct i) (ct j))) where
  irrefl x := by show decide (cmpT (ct x) (ct x) < 0) = false; rw [cmpT_self]; rfl
  trans x y z h1 h2 := by
    unfold ltOf at *
    simp only [decide_eq_true_eq] at *
    have h3 := cmpT_trans (ct x) (ct y) (ct z) (by omega) (by omega)
    rcases Int.lt_or_eq_of_le h3 with h | h
    · exact h
    · have e := cmpT_eq _ _ h
      rw [← e, cmpT_swap] at h2
      omega
  ntrans x y z h1 h2 := by
    unfold ltOf at *
    simp only [decide_eq_false_iff_not] at *
    have h3 := cmpT_trans (ct z) (ct y) (ct x) (by rw [cmpT_swap]; omega) (by rw [cmpT_swap]; omega)
    rw [cmpT_swap] at h3
    omega
theorem sort_heap (enc : Nat → Value) (w : World) (g m : Nat) (dk : Array Nat) (os : Array Obj) (k : Nat) (h : k ≠ g) (hk : k < w.heap.size) : (sortWorld enc w g 0 m dk os).heap[k]? = w.heap[k]? := by
  unfold sortWorld
  rw [heap_grow_old _ _ (by simpa [putRow, mapBlock, Sort.ahead] using hk)]
  exact put_heap enc w m g dk k h
theorem compare_el {W : World} {base g : Nat} {x y : List Int} {u v : Value} (hx : EL W base g x u) (hy : EL W base g y v) :
    Calls Try.prog 18 #[u, v] W fun e W' => e = .returned (.int .i64 (cmpT x y)) ∧ Drawn0 W W' := by
  obtain ⟨A, c, rfl, h1, h2⟩ := EL_reads hx
  obtain ⟨B, d, rfl, h3, h4⟩ := EL_reads hy
  exact compare_call A c x x.length rfl B d y y.length rfl _ rfl W h2 h1 h4 h3
set_option maxHeartbeats 4000000 in
theorem slices_SortFunc_int_int.callsC (enc : Nat → Value) (ct : Nat → List Int) (g cap base : Nat) (d : Array Nat) (w : World) (hlt : g < w.heap.size) (hsz : d.size < 17592186044416) (hH : Holds enc w g 0 d) (hE : ∀ i, EL w base g (ct i) (enc i)) :
    Calls Try.prog 35 #[.slice (some ⟨g, 0, none⟩) d.size cap, .func (.func 18) #[] #[]] w fun e w' =>
      e = .returned (.tuple #[]) ∧ ∃ d' n os, PermIn 0 d.size d d' ∧ SortedIn (ltOf (fun i j => cmpT (ct i) (ct j))) 0 d.size d' ∧ w' = sortWorld enc w g 0 n d' os := by
  have h1 : OneCell enc := fun i => by
    obtain ⟨A, c, e, _⟩ := EL_reads (hE i)
    rw [e]; rfl
  have eg : ∀ args W, (callFunc 18 args).run Try.prog W = .ok (.enter 18 args) W := enters_of Try.func18 (by kernel_rfl) rfl
  have hcmp : CmpReads Try.prog 18 #[] enc (fun i j => cmpT (ct i) (ct j)) g 0 d.size w := fun m os dk hs x y => by
    have hx := EL_move (hE x) (W1 := sortWorld enc w g 0 m dk os) (fun k hk hl => sort_heap enc w g m dk os k hk hl)
    have hy := EL_move (hE y) (W1 := sortWorld enc w g 0 m dk os) (fun k hk hl => sort_heap enc w g m dk os k hk hl)
    have := compare_el hx hy
    refine this.mono ?_
    rintro e w' ⟨he, hd⟩
    exact ⟨he, hd.out⟩
  exact Any.slices_SortFunc slices_SortFunc_int_int.lays enc h1 (fun i j => cmpT (ct i) (ct j)) (cmpT_swo ct) 18 #[] g 0 cap d w eg hcmp.lays hH hlt (by omega)
end

end Go.Proofs.Ytlnmgljiggebiaa.Pr
