-- Printed by a program of this session's own (wip/tools/pp.py) over the kit's print.py; Lean checks it.
import Derived.Test.YtlckejeglchgmaaRows
import Derived.Test.YtlckejeglchgmaaPr35
import Derived.Test.YtlckejeglchgmaaPureBuiltTurned
import Derived.Test.YtlckejeglchgmaaOpens
import Derived.WalkKit
import Derived.ProofKit
import Derived.OpenShut
import Derived.ShutString
import Derived.ChangeOld
import Derived.Below
import Derived.SizedLaws
namespace Go.Proofs.Ytlckejeglchgmaa.builtTurned
open Go.ChangeShapes Go.WideShapes Go.ChangeAt Go.RowKit Go.Proofs.Ytlckejeglchgmaa.Pr Go.Proofs.Ytlckejeglchgmaa.Opens Go.Proofs.YtlckejeglchgmaaW.PrintWords
open Go.ChangeMaps (open_string shut_string)
set_option linter.unusedVariables false
theorem own : ownKnob Try.prog.godebug = none := by kernel_rfl
theorem laidOut : laidOutB Try.prog = true := by kernel_rfl
set_option maxRecDepth 100000 in
set_option maxHeartbeats 2000000 in
theorem lifted (os : Os) (started : os.Started) (H : Type) (enc : TypeId × Value → H) :
    ReturnsInHanded {} Try.checked os 4 .any (Rows.builtTurnedSpec.pre6 enc Try.prog Try.f4 Rows.builtTurnedRow.domain false) (Rows.builtTurnedSpec.post enc Try.prog Try.f4 false true false false) := by
  refine returnsInHanded_of_change_sized (C := Try.checked) own started (by kernel_rfl) Try.func4
    (ChangeSpec.witness6 (enc := enc) (C := Try.checked) false ⟨#[], #[.int .i64 0, .slice none 0 0, .slice none 0 0], []⟩ 8 (by kernel_rfl) (by kernel_rfl) (by kernel_rfl) (by kernel_rfl)) ?_
  intro W base args ds gs before hval0 hW hcnd hsz0 _
  have hval : ∀ (j : Nat) t v, Try.f4.params[j]? = some t → args[j]? = some v → Value.okWide Try.prog W .any base t v := hval0
  have hW' := hW
  obtain ⟨p, q, hA0, hV, rfl, hfz, hnd⟩ := hW
  have hA : DataW.TrodAll enc Try.prog W 0 (fun _ => true) true Try.f4.params.toList args.toList ds p := hA0
  rw [Try.params4] at hA hval
  obtain ⟨v0, vs0, d0, ds0, p0, q0, hargs, rfl, rfl, h0, r0⟩ := trodAll_cons hA
  obtain ⟨v1, vs1, d1, ds1, p1, q1, rfl, rfl, rfl, h1, r1⟩ := trodAll_cons r0
  obtain ⟨v2, vs2, d2, ds2, p2, q2, rfl, rfl, rfl, h2, r2⟩ := trodAll_cons r1
  obtain ⟨rfl, rfl, rfl⟩ := trodAll_nil r2
  obtain rfl : args = #[v0, v1, v2] := by cases args; simp_all
  obtain ⟨rfl, rfl⟩ := trodVars_none hV
  obtain ⟨a0, rfl, rfl, rfl, w0⟩ := open_int Try.underlying3 (hval 0 3 v0 rfl rfl) h0
  have k1 := h1
  have lt1 : ∀ x ∈ p1, x.block < W.heap.size := by obtain ⟨m, hm⟩ := k1; exact DataW.trod_lt m _ _ _ hm
  obtain ⟨fuel1, hf1⟩ := h1
  obtain ⟨a1, len1, cap1, rfl⟩ := okWide_slice Try.underlying22 (hval 1 22 v1 rfl rfl)
  obtain ⟨l1, ⟨A1, c1, hcs1, hc1, hr1⟩, y1⟩ := (show Opens Try.prog 22 (Kd.slice 23 (Kd.slice 3 (Kd.int .i64))) (fun y => (y.length ≤ maxLen ∧ ∀ z0 ∈ y, (z0.length ≤ maxLen ∧ ∀ z1 ∈ z0, (Lit.int .i64 z1).wf = true))) from Opens.slice Try.underlying22 (show Opens Try.prog 23 (Kd.slice 3 (Kd.int .i64)) (fun y => (y.length ≤ maxLen ∧ ∀ z0 ∈ y, (Lit.int .i64 z0).wf = true)) from Opens.slice Try.underlying23 (show Opens Try.prog 3 (Kd.int .i64) (fun y => (Lit.int .i64 y).wf = true) from Opens.int Try.underlying3) (by kernel_rfl)) (by kernel_rfl)) enc W 0 true fuel1 _ _ hf1
  obtain ⟨rfl, rfl, rfl⟩ : a1 = A1 ∧ len1 = l1.length ∧ cap1 = c1 := by simpa [Value.cells] using hcs1
  have k2 := h2
  have lt2 : ∀ x ∈ p2, x.block < W.heap.size := by obtain ⟨m, hm⟩ := k2; exact DataW.trod_lt m _ _ _ hm
  obtain ⟨fuel2, hf2⟩ := h2
  obtain ⟨a2, len2, cap2, rfl⟩ := okWide_slice Try.underlying23 (hval 2 23 v2 rfl rfl)
  obtain ⟨l2, ⟨A2, c2, hcs2, hc2, hr2⟩, y2⟩ := (show Opens Try.prog 23 (Kd.slice 3 (Kd.int .i64)) (fun y => (y.length ≤ maxLen ∧ ∀ z0 ∈ y, (Lit.int .i64 z0).wf = true)) from Opens.slice Try.underlying23 (show Opens Try.prog 3 (Kd.int .i64) (fun y => (Lit.int .i64 y).wf = true) from Opens.int Try.underlying3) (by kernel_rfl)) enc W 0 true fuel2 _ _ hf2
  obtain ⟨rfl, rfl, rfl⟩ : a2 = A2 ∧ len2 = l2.length ∧ cap2 = c2 := by simpa [Value.cells] using hcs2
  clear hA0 hval0 hsz0
  obtain ⟨k, hP⟩ := Pure.BuiltTurned a0 l1 l2 w0 y1 y2
  refine (arboristlaw07_BuiltTurned.calls k a0 _ _ l1 _ _ l2 true W hr1 hc1 hr2 hc2 rfl hP).mono ?_
  rintro e W' ⟨rfl, bel0⟩
  have bel : Below W.heap.size W W' := bel0
  exact ⟨_, rfl, _, _, _, [], _, [], hW', trodAll_mk1 (shut_bool Try.underlying4 _), (trodAll_cons_mk (shut_int Try.underlying3 w0) (trodAll_cons_mk (Below.trod laidOut (by kernel_rfl) (of_decide_eq_true (by kernel_rfl)) k1 bel lt1) (trodAll_cons_mk (Below.trod laidOut (by kernel_rfl) (of_decide_eq_true (by kernel_rfl)) k2 bel lt2) trodAll_mk0))), rfl, bel.frame _, fun h => by cases h⟩
theorem over : Rows.builtTurnedRow.holds Try.pinned (OpenSpec.ofChange Rows.builtTurnedSpec) :=
  OpenClaim.holds_of_wide 4 Try.f4 rfl rfl rfl rfl rfl rfl rfl ⟨rfl, rfl, rfl, rfl, rfl⟩ rfl rfl rfl rfl rfl (by kernel_rfl) Try.func4 (by kernel_rfl)
    (of_decide_eq_true (by kernel_rfl)) (by unfold Func.isWrapper; first | (rw [if_pos (by decide +kernel)]; kernel_rfl) | (rw [if_neg (by decide +kernel)]; exact ⟨rfl, rfl⟩))
    (fun os started H enc _ => lifted os started H enc)
theorem said : Rows.BuiltTurnedSaid := over
theorem proved : Rows.BuiltTurnedSaid := said
#print axioms proved
end Go.Proofs.Ytlckejeglchgmaa.builtTurned
namespace Go.Proofs.Ytlckejeglchgmaa
/-- The row, under a short name, for the claim. -/
theorem builtTurned_holds : Rows.BuiltTurnedSaid := builtTurned.proved
end Go.Proofs.Ytlckejeglchgmaa
