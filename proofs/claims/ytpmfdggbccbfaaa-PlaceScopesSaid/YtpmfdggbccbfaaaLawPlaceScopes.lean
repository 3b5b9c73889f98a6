-- Printed by a program of this session's own (wip/tools/pp.py) over the kit's print.py; Lean checks it.
import Derived.Test.YtpmfdggbccbfaaaRows
import Derived.Test.YtpmfdggbccbfaaaPr65
import Derived.Test.YtpmfdggbccbfaaaPurePlaceScopes
import Derived.Test.YtpmfdggbccbfaaaOpens
import Derived.WalkKit
import Derived.ProofKit
import Derived.OpenShut
import Derived.ShutString
import Derived.ChangeOld
import Derived.Below
import Derived.SizedLaws
namespace Go.Proofs.Ytpmfdggbccbfaaa.placeScopes
open Go.ChangeShapes Go.WideShapes Go.ChangeAt Go.RowKit Go.Proofs.Ytpmfdggbccbfaaa.Pr Go.Proofs.Ytpmfdggbccbfaaa.Opens Go.Proofs.YtpmfdggbccbfaaaW.PrintWords
open Go.ChangeMaps (open_string shut_string)
set_option linter.unusedVariables false
structure S49 where
  f0 : List (List Int)
  f1 : List (S69)
  f2 : List (S73)
def k49 : Kd S49 := Kd.iso (Kd.pair (Kd.slice 23 (Kd.slice 3 (Kd.int .i64))) (Kd.pair (Kd.slice 69 k69) (Kd.slice 73 k73))) (fun x : S49 => (x.f0, x.f1, x.f2))
theorem k49_open {w : World} {x : S49} {cs : List Value} (h : k49.K w x cs) : ∃ A0 c0 A1 c1 A2 c2, cs = [.slice A0 x.f0.length c0, .slice A1 x.f1.length c1, .slice A2 x.f2.length c2] ∧ x.f0.length ≤ c0 ∧ (Kd.slice 3 (Kd.int .i64)).C w A0 x.f0.length x.f0 ∧ x.f1.length ≤ c1 ∧ k69.C w A1 x.f1.length x.f1 ∧ x.f2.length ≤ c2 ∧ k73.C w A2 x.f2.length x.f2 := by
  obtain ⟨_, _, rfl, ⟨A0, c0, rfl, l0, g0⟩, ⟨_, _, rfl, ⟨A1, c1, rfl, l1, g1⟩, ⟨A2, c2, rfl, l2, g2⟩⟩⟩ := h
  exact ⟨A0, c0, A1, c1, A2, c2, rfl, l0, g0, l1, g1, l2, g2⟩
instance : Inhabited S69 := ⟨z69⟩
instance : Inhabited S73 := ⟨z73⟩
theorem own : ownKnob Try.prog.godebug = none := by kernel_rfl
theorem laidOut : laidOutB Try.prog = true := by kernel_rfl
set_option maxRecDepth 100000 in
set_option maxHeartbeats 2000000 in
theorem lifted (os : Os) (started : os.Started) (H : Type) (enc : TypeId × Value → H) :
    ReturnsInHanded {} Try.checked os 11 .any (Rows.placeScopesSpec.pre6 enc Try.prog Try.f11 Rows.placeScopesRow.domain false) (Rows.placeScopesSpec.post enc Try.prog Try.f11 false true false false) := by
  refine returnsInHanded_of_change_sized (C := Try.checked) own started (by kernel_rfl) Try.func11
    (ChangeSpec.witness6 (enc := enc) (C := Try.checked) false ⟨#[], #[.agg #[.slice none 0 0, .slice none 0 0, .slice none 0 0], .slice none 0 0], []⟩ 8 (by kernel_rfl) (by kernel_rfl) (by kernel_rfl) (by kernel_rfl)) ?_
  intro W base args ds gs before hval0 hW hcnd hsz0 _
  have hval : ∀ (j : Nat) t v, Try.f11.params[j]? = some t → args[j]? = some v → Value.okWide Try.prog W .any base t v := hval0
  have hW' := hW
  obtain ⟨p, q, hA0, hV, rfl, hfz, hnd⟩ := hW
  have hA : DataW.TrodAll enc Try.prog W 0 (fun _ => true) true Try.f11.params.toList args.toList ds p := hA0
  rw [Try.params11] at hA hval
  obtain ⟨v0, vs0, d0, ds0, p0, q0, hargs, rfl, rfl, h0, r0⟩ := trodAll_cons hA
  obtain ⟨v1, vs1, d1, ds1, p1, q1, rfl, rfl, rfl, h1, r1⟩ := trodAll_cons r0
  obtain ⟨rfl, rfl, rfl⟩ := trodAll_nil r1
  obtain rfl : args = #[v0, v1] := by cases args; simp_all
  obtain ⟨rfl, rfl⟩ := trodVars_none hV
  have k0 := h0
  have lt0 : ∀ x ∈ p0, x.block < W.heap.size := by obtain ⟨m, hm⟩ := k0; exact DataW.trod_lt m _ _ _ hm
  obtain ⟨fuel0, hf0⟩ := h0
  obtain ⟨cs0, rfl, hz0⟩ := okWide_struct Try.underlying49 (hval 0 49 v0 rfl rfl)
  obtain ⟨x0, hK0, y0⟩ := (show Opens Try.prog 49 k49 (fun y => ((y.f0.length ≤ maxLen ∧ ∀ z0 ∈ y.f0, (z0.length ≤ maxLen ∧ ∀ z1 ∈ z0, (Lit.int .i64 z1).wf = true)) ∧ (y.f1.length ≤ maxLen ∧ ∀ z0 ∈ y.f1, ((Lit.int .i64 z0.f0).wf = true ∧ (z0.f1.length ≤ maxLen ∧ ∀ z1 ∈ z0.f1, (Lit.int .i64 z1).wf = true) ∧ (z0.f2.length ≤ maxLen ∧ ∀ z1 ∈ z0.f2, (z1.length ≤ maxLen ∧ ∀ z2 ∈ z1, (Lit.int .i64 z2).wf = true)) ∧ (z0.f3.length ≤ maxLen ∧ ∀ z1 ∈ z0.f3, (Lit.int .i64 z1).wf = true))) ∧ (y.f2.length ≤ maxLen ∧ ∀ z0 ∈ y.f2, ((z0.f0.length ≤ maxLen ∧ ∀ z1 ∈ z0.f0, (Lit.int .i64 z1).wf = true) ∧ (z0.f1.length ≤ maxLen ∧ ∀ z1 ∈ z0.f1, (z1.length ≤ maxLen ∧ ∀ z2 ∈ z1, (Lit.int .i64 z2).wf = true)) ∧ (z0.f2.length ≤ maxLen ∧ ∀ z1 ∈ z0.f2, (Lit.int .i64 z1).wf = true) ∧ (Lit.int .i64 z0.f3).wf = true)))) from Opens.iso (Opens.struct3 Try.underlying49 (by kernel_rfl) rfl rfl rfl (by kernel_rfl) (by kernel_rfl) (by kernel_rfl) (show Opens Try.prog 22 (Kd.slice 23 (Kd.slice 3 (Kd.int .i64))) (fun y => (y.length ≤ maxLen ∧ ∀ z0 ∈ y, (z0.length ≤ maxLen ∧ ∀ z1 ∈ z0, (Lit.int .i64 z1).wf = true))) from Opens.slice Try.underlying22 (show Opens Try.prog 23 (Kd.slice 3 (Kd.int .i64)) (fun y => (y.length ≤ maxLen ∧ ∀ z0 ∈ y, (Lit.int .i64 z0).wf = true)) from Opens.slice Try.underlying23 (show Opens Try.prog 3 (Kd.int .i64) (fun y => (Lit.int .i64 y).wf = true) from Opens.int Try.underlying3) (by kernel_rfl)) (by kernel_rfl)) (show Opens Try.prog 46 (Kd.slice 69 k69) (fun y => (y.length ≤ maxLen ∧ ∀ z0 ∈ y, ((Lit.int .i64 z0.f0).wf = true ∧ (z0.f1.length ≤ maxLen ∧ ∀ z1 ∈ z0.f1, (Lit.int .i64 z1).wf = true) ∧ (z0.f2.length ≤ maxLen ∧ ∀ z1 ∈ z0.f2, (z1.length ≤ maxLen ∧ ∀ z2 ∈ z1, (Lit.int .i64 z2).wf = true)) ∧ (z0.f3.length ≤ maxLen ∧ ∀ z1 ∈ z0.f3, (Lit.int .i64 z1).wf = true)))) from Opens.slice Try.underlying46 (show Opens Try.prog 69 k69 (fun y => ((Lit.int .i64 y.f0).wf = true ∧ (y.f1.length ≤ maxLen ∧ ∀ z0 ∈ y.f1, (Lit.int .i64 z0).wf = true) ∧ (y.f2.length ≤ maxLen ∧ ∀ z0 ∈ y.f2, (z0.length ≤ maxLen ∧ ∀ z1 ∈ z0, (Lit.int .i64 z1).wf = true)) ∧ (y.f3.length ≤ maxLen ∧ ∀ z0 ∈ y.f3, (Lit.int .i64 z0).wf = true))) from Opens.iso (Opens.struct4 Try.underlying69 (by kernel_rfl) rfl rfl rfl rfl (by kernel_rfl) (by kernel_rfl) (by kernel_rfl) (by kernel_rfl) (show Opens Try.prog 3 (Kd.int .i64) (fun y => (Lit.int .i64 y).wf = true) from Opens.int Try.underlying3) (show Opens Try.prog 23 (Kd.slice 3 (Kd.int .i64)) (fun y => (y.length ≤ maxLen ∧ ∀ z0 ∈ y, (Lit.int .i64 z0).wf = true)) from Opens.slice Try.underlying23 (show Opens Try.prog 3 (Kd.int .i64) (fun y => (Lit.int .i64 y).wf = true) from Opens.int Try.underlying3) (by kernel_rfl)) (show Opens Try.prog 22 (Kd.slice 23 (Kd.slice 3 (Kd.int .i64))) (fun y => (y.length ≤ maxLen ∧ ∀ z0 ∈ y, (z0.length ≤ maxLen ∧ ∀ z1 ∈ z0, (Lit.int .i64 z1).wf = true))) from Opens.slice Try.underlying22 (show Opens Try.prog 23 (Kd.slice 3 (Kd.int .i64)) (fun y => (y.length ≤ maxLen ∧ ∀ z0 ∈ y, (Lit.int .i64 z0).wf = true)) from Opens.slice Try.underlying23 (show Opens Try.prog 3 (Kd.int .i64) (fun y => (Lit.int .i64 y).wf = true) from Opens.int Try.underlying3) (by kernel_rfl)) (by kernel_rfl)) (show Opens Try.prog 23 (Kd.slice 3 (Kd.int .i64)) (fun y => (y.length ≤ maxLen ∧ ∀ z0 ∈ y, (Lit.int .i64 z0).wf = true)) from Opens.slice Try.underlying23 (show Opens Try.prog 3 (Kd.int .i64) (fun y => (Lit.int .i64 y).wf = true) from Opens.int Try.underlying3) (by kernel_rfl))) (fun x : S69 => (x.f0, x.f1, x.f2, x.f3)) (fun a => ⟨a.1, a.2.1, a.2.2.1, a.2.2.2⟩) (fun _ => rfl)) (by kernel_rfl)) (show Opens Try.prog 47 (Kd.slice 73 k73) (fun y => (y.length ≤ maxLen ∧ ∀ z0 ∈ y, ((z0.f0.length ≤ maxLen ∧ ∀ z1 ∈ z0.f0, (Lit.int .i64 z1).wf = true) ∧ (z0.f1.length ≤ maxLen ∧ ∀ z1 ∈ z0.f1, (z1.length ≤ maxLen ∧ ∀ z2 ∈ z1, (Lit.int .i64 z2).wf = true)) ∧ (z0.f2.length ≤ maxLen ∧ ∀ z1 ∈ z0.f2, (Lit.int .i64 z1).wf = true) ∧ (Lit.int .i64 z0.f3).wf = true))) from Opens.slice Try.underlying47 (show Opens Try.prog 73 k73 (fun y => ((y.f0.length ≤ maxLen ∧ ∀ z0 ∈ y.f0, (Lit.int .i64 z0).wf = true) ∧ (y.f1.length ≤ maxLen ∧ ∀ z0 ∈ y.f1, (z0.length ≤ maxLen ∧ ∀ z1 ∈ z0, (Lit.int .i64 z1).wf = true)) ∧ (y.f2.length ≤ maxLen ∧ ∀ z0 ∈ y.f2, (Lit.int .i64 z0).wf = true) ∧ (Lit.int .i64 y.f3).wf = true)) from Opens.iso (Opens.struct4 Try.underlying73 (by kernel_rfl) rfl rfl rfl rfl (by kernel_rfl) (by kernel_rfl) (by kernel_rfl) (by kernel_rfl) (show Opens Try.prog 23 (Kd.slice 3 (Kd.int .i64)) (fun y => (y.length ≤ maxLen ∧ ∀ z0 ∈ y, (Lit.int .i64 z0).wf = true)) from Opens.slice Try.underlying23 (show Opens Try.prog 3 (Kd.int .i64) (fun y => (Lit.int .i64 y).wf = true) from Opens.int Try.underlying3) (by kernel_rfl)) (show Opens Try.prog 22 (Kd.slice 23 (Kd.slice 3 (Kd.int .i64))) (fun y => (y.length ≤ maxLen ∧ ∀ z0 ∈ y, (z0.length ≤ maxLen ∧ ∀ z1 ∈ z0, (Lit.int .i64 z1).wf = true))) from Opens.slice Try.underlying22 (show Opens Try.prog 23 (Kd.slice 3 (Kd.int .i64)) (fun y => (y.length ≤ maxLen ∧ ∀ z0 ∈ y, (Lit.int .i64 z0).wf = true)) from Opens.slice Try.underlying23 (show Opens Try.prog 3 (Kd.int .i64) (fun y => (Lit.int .i64 y).wf = true) from Opens.int Try.underlying3) (by kernel_rfl)) (by kernel_rfl)) (show Opens Try.prog 71 (Kd.slice 2 (Kd.int .i64)) (fun y => (y.length ≤ maxLen ∧ ∀ z0 ∈ y, (Lit.int .i64 z0).wf = true)) from Opens.slice Try.underlying71 (show Opens Try.prog 2 (Kd.int .i64) (fun y => (Lit.int .i64 y).wf = true) from Opens.int Try.underlying2) (by kernel_rfl)) (show Opens Try.prog 2 (Kd.int .i64) (fun y => (Lit.int .i64 y).wf = true) from Opens.int Try.underlying2)) (fun x : S73 => (x.f0, x.f1, x.f2, x.f3)) (fun a => ⟨a.1, a.2.1, a.2.2.1, a.2.2.2⟩) (fun _ => rfl)) (by kernel_rfl))) (fun x : S49 => (x.f0, x.f1, x.f2)) (fun a => ⟨a.1, a.2.1, a.2.2⟩) (fun _ => rfl)) enc W 0 true fuel0 _ _ hf0
  obtain ⟨A0_0, c0_0, A0_1, c0_1, A0_2, c0_2, e0, hc0_0, hr0_0, hc0_1, hr0_1, hc0_2, hr0_2⟩ := k49_open hK0
  obtain rfl : cs0 = #[.slice A0_0 x0.f0.length c0_0, .slice A0_1 x0.f1.length c0_1, .slice A0_2 x0.f2.length c0_2] := by apply Array.toList_inj.1; simpa [Value.cells] using e0
  have k1 := h1
  have lt1 : ∀ x ∈ p1, x.block < W.heap.size := by obtain ⟨m, hm⟩ := k1; exact DataW.trod_lt m _ _ _ hm
  obtain ⟨fuel1, hf1⟩ := h1
  obtain ⟨a1, len1, cap1, rfl⟩ := okWide_slice Try.underlying23 (hval 1 23 v1 rfl rfl)
  obtain ⟨l1, ⟨A1, c1, hcs1, hc1, hr1⟩, y1⟩ := (show Opens Try.prog 23 (Kd.slice 3 (Kd.int .i64)) (fun y => (y.length ≤ maxLen ∧ ∀ z0 ∈ y, (Lit.int .i64 z0).wf = true)) from Opens.slice Try.underlying23 (show Opens Try.prog 3 (Kd.int .i64) (fun y => (Lit.int .i64 y).wf = true) from Opens.int Try.underlying3) (by kernel_rfl)) enc W 0 true fuel1 _ _ hf1
  obtain ⟨rfl, rfl, rfl⟩ : a1 = A1 ∧ len1 = l1.length ∧ cap1 = c1 := by simpa [Value.cells] using hcs1
  clear hA0 hval0 hsz0
  obtain ⟨k, hP⟩ := Pure.PlaceScopes x0.f0 x0.f1 x0.f2 l1 y0.1 y0.2.1 y0.2.2 y1
  refine (arboristlaw13_PlaceScopes.calls k _ _ x0.f0 _ _ x0.f1 _ _ x0.f2 _ _ l1 true W hr0_0 hc0_0 hr0_1 hc0_1 hr0_2 hc0_2 hr1 hc1 rfl hP).mono ?_
  rintro e W' ⟨rfl, bel0⟩
  have bel : Below W.heap.size W W' := bel0
  exact ⟨_, rfl, _, _, _, [], _, [], hW', trodAll_mk1 (shut_bool Try.underlying4 _), (trodAll_cons_mk (Below.trod laidOut (by kernel_rfl) (of_decide_eq_true (by kernel_rfl)) k0 bel lt0) (trodAll_cons_mk (Below.trod laidOut (by kernel_rfl) (of_decide_eq_true (by kernel_rfl)) k1 bel lt1) trodAll_mk0)), rfl, bel.frame _, fun h => by cases h⟩
theorem over : Rows.placeScopesRow.holds Try.pinned (OpenSpec.ofChange Rows.placeScopesSpec) :=
  OpenClaim.holds_of_wide 11 Try.f11 rfl rfl rfl rfl rfl rfl rfl ⟨rfl, rfl, rfl, rfl, rfl⟩ rfl rfl rfl rfl rfl (by kernel_rfl) Try.func11 (by kernel_rfl)
    (of_decide_eq_true (by kernel_rfl)) (by unfold Func.isWrapper; first | (rw [if_pos (by decide +kernel)]; kernel_rfl) | (rw [if_neg (by decide +kernel)]; exact ⟨rfl, rfl⟩))
    (fun os started H enc _ => lifted os started H enc)
theorem said : Rows.PlaceScopesSaid := over
theorem proved : Rows.PlaceScopesSaid := said
#print axioms proved
end Go.Proofs.Ytpmfdggbccbfaaa.placeScopes
namespace Go.Proofs.Ytpmfdggbccbfaaa
/-- The row, under a short name, for the claim. -/
theorem placeScopes_holds : Rows.PlaceScopesSaid := placeScopes.proved
end Go.Proofs.Ytpmfdggbccbfaaa
