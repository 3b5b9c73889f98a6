-- Printed by a program of this session's own (wip/tools/pp.py) over the kit's print.py; Lean checks it.
import Derived.Test.YtpmfdggbccbfaaaRows
import Derived.Test.YtpmfdggbccbfaaaPr48
import Derived.Test.YtpmfdggbccbfaaaPurePlaceTells
import Derived.Test.YtpmfdggbccbfaaaOpens
import Derived.WalkKit
import Derived.ProofKit
import Derived.OpenShut
import Derived.ShutString
import Derived.ChangeOld
import Derived.Below
import Derived.SizedLaws
namespace Go.Proofs.Ytpmfdggbccbfaaa.placeTells
open Go.ChangeShapes Go.WideShapes Go.ChangeAt Go.RowKit Go.Proofs.Ytpmfdggbccbfaaa.Pr Go.Proofs.Ytpmfdggbccbfaaa.Opens Go.Proofs.YtpmfdggbccbfaaaW.PrintWords
open Go.ChangeMaps (open_string shut_string)
set_option linter.unusedVariables false
theorem own : ownKnob Try.prog.godebug = none := by kernel_rfl
theorem laidOut : laidOutB Try.prog = true := by kernel_rfl
set_option maxRecDepth 100000 in
set_option maxHeartbeats 2000000 in
theorem lifted (os : Os) (started : os.Started) (H : Type) (enc : TypeId × Value → H) :
    ReturnsInHanded {} Try.checked os 9 .any (Rows.placeTellsSpec.pre6 enc Try.prog Try.f9 Rows.placeTellsRow.domain false) (Rows.placeTellsSpec.post enc Try.prog Try.f9 false true false false) := by
  refine returnsInHanded_of_change_sized (C := Try.checked) own started (by kernel_rfl) Try.func9
    (ChangeSpec.witness6 (enc := enc) (C := Try.checked) false ⟨#[], #[.slice none 0 0, .slice none 0 0, .int .i64 0, .slice none 0 0], []⟩ 8 (by kernel_rfl) (by kernel_rfl) (by kernel_rfl) (by kernel_rfl)) ?_
  intro W base args ds gs before hval0 hW hcnd hsz0 _
  have hval : ∀ (j : Nat) t v, Try.f9.params[j]? = some t → args[j]? = some v → Value.okWide Try.prog W .any base t v := hval0
  have hW' := hW
  obtain ⟨p, q, hA0, hV, rfl, hfz, hnd⟩ := hW
  have hA : DataW.TrodAll enc Try.prog W 0 (fun _ => true) true Try.f9.params.toList args.toList ds p := hA0
  rw [Try.params9] at hA hval
  obtain ⟨v0, vs0, d0, ds0, p0, q0, hargs, rfl, rfl, h0, r0⟩ := trodAll_cons hA
  obtain ⟨v1, vs1, d1, ds1, p1, q1, rfl, rfl, rfl, h1, r1⟩ := trodAll_cons r0
  obtain ⟨v2, vs2, d2, ds2, p2, q2, rfl, rfl, rfl, h2, r2⟩ := trodAll_cons r1
  obtain ⟨v3, vs3, d3, ds3, p3, q3, rfl, rfl, rfl, h3, r3⟩ := trodAll_cons r2
  obtain ⟨rfl, rfl, rfl⟩ := trodAll_nil r3
  obtain rfl : args = #[v0, v1, v2, v3] := by cases args; simp_all
  obtain ⟨rfl, rfl⟩ := trodVars_none hV
  have k0 := h0
  have lt0 : ∀ x ∈ p0, x.block < W.heap.size := by obtain ⟨m, hm⟩ := k0; exact DataW.trod_lt m _ _ _ hm
  obtain ⟨fuel0, hf0⟩ := h0
  obtain ⟨a0, len0, cap0, rfl⟩ := okWide_slice Try.underlying23 (hval 0 23 v0 rfl rfl)
  obtain ⟨l0, ⟨A0, c0, hcs0, hc0, hr0⟩, y0⟩ := (show Opens Try.prog 23 (Kd.slice 3 (Kd.int .i64)) (fun y => (y.length ≤ maxLen ∧ ∀ z0 ∈ y, (Lit.int .i64 z0).wf = true)) from Opens.slice Try.underlying23 (show Opens Try.prog 3 (Kd.int .i64) (fun y => (Lit.int .i64 y).wf = true) from Opens.int Try.underlying3) (by kernel_rfl)) enc W 0 true fuel0 _ _ hf0
  obtain ⟨rfl, rfl, rfl⟩ : a0 = A0 ∧ len0 = l0.length ∧ cap0 = c0 := by simpa [Value.cells] using hcs0
  have k1 := h1
  have lt1 : ∀ x ∈ p1, x.block < W.heap.size := by obtain ⟨m, hm⟩ := k1; exact DataW.trod_lt m _ _ _ hm
  obtain ⟨fuel1, hf1⟩ := h1
  obtain ⟨a1, len1, cap1, rfl⟩ := okWide_slice Try.underlying22 (hval 1 22 v1 rfl rfl)
  obtain ⟨l1, ⟨A1, c1, hcs1, hc1, hr1⟩, y1⟩ := (show Opens Try.prog 22 (Kd.slice 23 (Kd.slice 3 (Kd.int .i64))) (fun y => (y.length ≤ maxLen ∧ ∀ z0 ∈ y, (z0.length ≤ maxLen ∧ ∀ z1 ∈ z0, (Lit.int .i64 z1).wf = true))) from Opens.slice Try.underlying22 (show Opens Try.prog 23 (Kd.slice 3 (Kd.int .i64)) (fun y => (y.length ≤ maxLen ∧ ∀ z0 ∈ y, (Lit.int .i64 z0).wf = true)) from Opens.slice Try.underlying23 (show Opens Try.prog 3 (Kd.int .i64) (fun y => (Lit.int .i64 y).wf = true) from Opens.int Try.underlying3) (by kernel_rfl)) (by kernel_rfl)) enc W 0 true fuel1 _ _ hf1
  obtain ⟨rfl, rfl, rfl⟩ : a1 = A1 ∧ len1 = l1.length ∧ cap1 = c1 := by simpa [Value.cells] using hcs1
  obtain ⟨a2, rfl, rfl, rfl, w2⟩ := open_int Try.underlying3 (hval 2 3 v2 rfl rfl) h2
  have k3 := h3
  have lt3 : ∀ x ∈ p3, x.block < W.heap.size := by obtain ⟨m, hm⟩ := k3; exact DataW.trod_lt m _ _ _ hm
  obtain ⟨fuel3, hf3⟩ := h3
  obtain ⟨a3, len3, cap3, rfl⟩ := okWide_slice Try.underlying22 (hval 3 22 v3 rfl rfl)
  obtain ⟨l3, ⟨A3, c3, hcs3, hc3, hr3⟩, y3⟩ := (show Opens Try.prog 22 (Kd.slice 23 (Kd.slice 3 (Kd.int .i64))) (fun y => (y.length ≤ maxLen ∧ ∀ z0 ∈ y, (z0.length ≤ maxLen ∧ ∀ z1 ∈ z0, (Lit.int .i64 z1).wf = true))) from Opens.slice Try.underlying22 (show Opens Try.prog 23 (Kd.slice 3 (Kd.int .i64)) (fun y => (y.length ≤ maxLen ∧ ∀ z0 ∈ y, (Lit.int .i64 z0).wf = true)) from Opens.slice Try.underlying23 (show Opens Try.prog 3 (Kd.int .i64) (fun y => (Lit.int .i64 y).wf = true) from Opens.int Try.underlying3) (by kernel_rfl)) (by kernel_rfl)) enc W 0 true fuel3 _ _ hf3
  obtain ⟨rfl, rfl, rfl⟩ : a3 = A3 ∧ len3 = l3.length ∧ cap3 = c3 := by simpa [Value.cells] using hcs3
  clear hA0 hval0 hsz0
  obtain ⟨k, hP⟩ := Pure.PlaceTells l0 l1 a2 l3 y0 y1 w2 y3
  refine (arboristlaw13_PlaceTells.calls k _ _ l0 _ _ l1 a2 _ _ l3 true W hr0 hc0 hr1 hc1 hr3 hc3 rfl hP).mono ?_
  rintro e W' ⟨rfl, bel0⟩
  have bel : Below W.heap.size W W' := bel0
  exact ⟨_, rfl, _, _, _, [], _, [], hW', trodAll_mk1 (shut_bool Try.underlying4 _), (trodAll_cons_mk (Below.trod laidOut (by kernel_rfl) (of_decide_eq_true (by kernel_rfl)) k0 bel lt0) (trodAll_cons_mk (Below.trod laidOut (by kernel_rfl) (of_decide_eq_true (by kernel_rfl)) k1 bel lt1) (trodAll_cons_mk (shut_int Try.underlying3 w2) (trodAll_cons_mk (Below.trod laidOut (by kernel_rfl) (of_decide_eq_true (by kernel_rfl)) k3 bel lt3) trodAll_mk0)))), rfl, bel.frame _, fun h => by cases h⟩
theorem over : Rows.placeTellsRow.holds Try.pinned (OpenSpec.ofChange Rows.placeTellsSpec) :=
  OpenClaim.holds_of_wide 9 Try.f9 rfl rfl rfl rfl rfl rfl rfl ⟨rfl, rfl, rfl, rfl, rfl⟩ rfl rfl rfl rfl rfl (by kernel_rfl) Try.func9 (by kernel_rfl)
    (of_decide_eq_true (by kernel_rfl)) (by unfold Func.isWrapper; first | (rw [if_pos (by decide +kernel)]; kernel_rfl) | (rw [if_neg (by decide +kernel)]; exact ⟨rfl, rfl⟩))
    (fun os started H enc _ => lifted os started H enc)
theorem proved : Rows.PlaceTellsSaid := over
#print axioms proved
end Go.Proofs.Ytpmfdggbccbfaaa.placeTells
namespace Go.Proofs.Ytpmfdggbccbfaaa
/-- The row, under a short name, for the claim. -/
theorem placeTells_holds : Rows.PlaceTellsSaid := placeTells.proved
end Go.Proofs.Ytpmfdggbccbfaaa
