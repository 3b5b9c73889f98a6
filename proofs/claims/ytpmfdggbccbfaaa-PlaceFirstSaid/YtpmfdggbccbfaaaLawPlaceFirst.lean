-- Printed by a program of this session's own (wip/tools/pp.py) over the kit's print.py; Lean checks it.
import Derived.Test.YtpmfdggbccbfaaaRows
import Derived.Test.YtpmfdggbccbfaaaPr68
import Derived.Test.YtpmfdggbccbfaaaPurePlaceFirst
import Derived.Test.YtpmfdggbccbfaaaOpens
import Derived.WalkKit
import Derived.ProofKit
import Derived.OpenShut
import Derived.ShutString
import Derived.ChangeOld
import Derived.Below
import Derived.SizedLaws
namespace Go.Proofs.Ytpmfdggbccbfaaa.placeFirst
open Go.ChangeShapes Go.WideShapes Go.ChangeAt Go.RowKit Go.Proofs.Ytpmfdggbccbfaaa.Pr Go.Proofs.Ytpmfdggbccbfaaa.Opens Go.Proofs.YtpmfdggbccbfaaaW.PrintWords
open Go.ChangeMaps (open_string shut_string)
set_option linter.unusedVariables false
theorem shares_ {α : Type} {d : Kd α} (hd : Kd.Heap d) {W : World} {A : Option Addr} {c : Nat} {xs : List α} {e b : Nat} (h : d.C W A xs.length xs) (hc : xs.length ≤ c) : Kd.V d e W b (fun _ => True) (.slice A xs.length c) xs :=
  Kd.V_mk hc (fun W' hW => Kd.C_kept_came (S := fun _ => False) hd h (Below.refl _ _) (fun _ h => h.elim) W' ⟨by
    by_cases h0 : W.heap.size = 0
    · omega
    · have h1 := hW (W.heap.size - 1) trivial (by omega)
      have h2 : W.heap[W.heap.size - 1]? ≠ none := by rw [Array.getElem?_eq_getElem (by omega)]; simp
      rw [← h1] at h2
      have h3 : W.heap.size - 1 < W'.heap.size := by
        refine Nat.lt_of_not_le (fun hle => h2 (Array.getElem?_eq_none hle))
      omega, fun i hi _ => hW i trivial hi⟩)
theorem own : ownKnob Try.prog.godebug = none := by kernel_rfl
theorem laidOut : laidOutB Try.prog = true := by kernel_rfl
set_option maxRecDepth 100000 in
set_option maxHeartbeats 2000000 in
theorem lifted (os : Os) (started : os.Started) (H : Type) (enc : TypeId × Value → H) :
    ReturnsInHanded {} Try.checked os 14 .any (Rows.placeFirstSpec.pre6 enc Try.prog Try.f14 Rows.placeFirstRow.domain false) (Rows.placeFirstSpec.post enc Try.prog Try.f14 false true false false) := by
  refine returnsInHanded_of_change_sized (C := Try.checked) own started (by kernel_rfl) Try.func14
    (ChangeSpec.witness6 (enc := enc) (C := Try.checked) false ⟨#[], #[.slice none 0 0, .slice none 0 0], []⟩ 8 (by kernel_rfl) (by kernel_rfl) (by kernel_rfl) (by kernel_rfl)) ?_
  intro W base args ds gs before hval0 hW hcnd hsz0 _
  have hval : ∀ (j : Nat) t v, Try.f14.params[j]? = some t → args[j]? = some v → Value.okWide Try.prog W .any base t v := hval0
  have hW' := hW
  obtain ⟨p, q, hA0, hV, rfl, hfz, hnd⟩ := hW
  have hA : DataW.TrodAll enc Try.prog W 0 (fun _ => true) true Try.f14.params.toList args.toList ds p := hA0
  rw [Try.params14] at hA hval
  obtain ⟨v0, vs0, d0, ds0, p0, q0, hargs, rfl, rfl, h0, r0⟩ := trodAll_cons hA
  obtain ⟨v1, vs1, d1, ds1, p1, q1, rfl, rfl, rfl, h1, r1⟩ := trodAll_cons r0
  obtain ⟨rfl, rfl, rfl⟩ := trodAll_nil r1
  obtain rfl : args = #[v0, v1] := by cases args; simp_all
  obtain ⟨rfl, rfl⟩ := trodVars_none hV
  have k0 := h0
  have lt0 : ∀ x ∈ p0, x.block < W.heap.size := by obtain ⟨m, hm⟩ := k0; exact DataW.trod_lt m _ _ _ hm
  obtain ⟨fuel0, hf0⟩ := h0
  obtain ⟨a0, len0, cap0, rfl⟩ := okWide_slice Try.underlying22 (hval 0 22 v0 rfl rfl)
  obtain ⟨l0, ⟨A0, c0, hcs0, hc0, hr0⟩, y0⟩ := (show Opens Try.prog 22 (Kd.slice 23 (Kd.slice 3 (Kd.int .i64))) (fun y => (y.length ≤ maxLen ∧ ∀ z0 ∈ y, (z0.length ≤ maxLen ∧ ∀ z1 ∈ z0, (Lit.int .i64 z1).wf = true))) from Opens.slice Try.underlying22 (show Opens Try.prog 23 (Kd.slice 3 (Kd.int .i64)) (fun y => (y.length ≤ maxLen ∧ ∀ z0 ∈ y, (Lit.int .i64 z0).wf = true)) from Opens.slice Try.underlying23 (show Opens Try.prog 3 (Kd.int .i64) (fun y => (Lit.int .i64 y).wf = true) from Opens.int Try.underlying3) (by kernel_rfl)) (by kernel_rfl)) enc W 0 true fuel0 _ _ hf0
  obtain ⟨rfl, rfl, rfl⟩ : a0 = A0 ∧ len0 = l0.length ∧ cap0 = c0 := by simpa [Value.cells] using hcs0
  have k1 := h1
  have lt1 : ∀ x ∈ p1, x.block < W.heap.size := by obtain ⟨m, hm⟩ := k1; exact DataW.trod_lt m _ _ _ hm
  obtain ⟨fuel1, hf1⟩ := h1
  obtain ⟨a1, len1, cap1, rfl⟩ := okWide_slice Try.underlying23 (hval 1 23 v1 rfl rfl)
  obtain ⟨l1, ⟨A1, c1, hcs1, hc1, hr1⟩, y1⟩ := (show Opens Try.prog 23 (Kd.slice 3 (Kd.int .i64)) (fun y => (y.length ≤ maxLen ∧ ∀ z0 ∈ y, (Lit.int .i64 z0).wf = true)) from Opens.slice Try.underlying23 (show Opens Try.prog 3 (Kd.int .i64) (fun y => (Lit.int .i64 y).wf = true) from Opens.int Try.underlying3) (by kernel_rfl)) enc W 0 true fuel1 _ _ hf1
  obtain ⟨rfl, rfl, rfl⟩ : a1 = A1 ∧ len1 = l1.length ∧ cap1 = c1 := by simpa [Value.cells] using hcs1
  clear hA0 hval0 hsz0
  obtain ⟨k, hP⟩ := Pure.PlaceFirst l0 l1 y0 y1
  refine (arboristlaw13_PlaceFirst.calls k _ _ l0 _ _ _ l1 true W hr0 hc0 (shares_ (Kd.heap_int .i64) hr1 hc1) rfl hP).mono ?_
  rintro e W' ⟨rfl, bel0⟩
  have bel : Below W.heap.size W W' := bel0
  exact ⟨_, rfl, _, _, _, [], _, [], hW', trodAll_mk1 (shut_bool Try.underlying4 _), (trodAll_cons_mk (Below.trod laidOut (by kernel_rfl) (of_decide_eq_true (by kernel_rfl)) k0 bel lt0) (trodAll_cons_mk (Below.trod laidOut (by kernel_rfl) (of_decide_eq_true (by kernel_rfl)) k1 bel lt1) trodAll_mk0)), rfl, bel.frame _, fun h => by cases h⟩
theorem over : Rows.placeFirstRow.holds Try.pinned (OpenSpec.ofChange Rows.placeFirstSpec) :=
  OpenClaim.holds_of_wide 14 Try.f14 rfl rfl rfl rfl rfl rfl rfl ⟨rfl, rfl, rfl, rfl, rfl⟩ rfl rfl rfl rfl rfl (by kernel_rfl) Try.func14 (by kernel_rfl)
    (of_decide_eq_true (by kernel_rfl)) (by unfold Func.isWrapper; first | (rw [if_pos (by decide +kernel)]; kernel_rfl) | (rw [if_neg (by decide +kernel)]; exact ⟨rfl, rfl⟩))
    (fun os started H enc _ => lifted os started H enc)
theorem said : Rows.PlaceFirstSaid := over
theorem proved : Rows.PlaceFirstSaid := said
#print axioms proved
end Go.Proofs.Ytpmfdggbccbfaaa.placeFirst
namespace Go.Proofs.Ytpmfdggbccbfaaa
/-- The row, under a short name, for the claim. -/
theorem placeFirst_holds : Rows.PlaceFirstSaid := placeFirst.proved
end Go.Proofs.Ytpmfdggbccbfaaa
