import Derived.Deep.Slices
import Derived.Deep.Strs
import Derived.Lib.SmallJoins
import Derived.WideShapes
import Derived.ProofKit
import Derived.SizedLaws
import Derived.Test.YtpmfdggbccbfaaaWWords
set_option linter.unusedVariables false
namespace Go.Proofs.Ytpmfdggbccbfaaa.Opens
open Go.ChangeShapes Go.WideShapes Go.RowKit Go.Proofs.YtpmfdggbccbfaaaW.PrintWords
/-- Whatever reads as a datum of type t has cells of the kind d, and is well formed. -/
def Opens (P : Program) (t : TypeId) {α : Type} (d : Kd α) (wf : α → Prop) : Prop :=
  ∀ {H : Type} (enc : TypeId × Value → H) (w : World) (base : Nat) (held : Bool) (fuel : Nat) (cs : List Value) (x : DataW H × List MemPlace), DataW.trod enc P w base (fun _ => true) held fuel t cs = some x → ∃ a : α, d.K w a cs ∧ wf a
variable {P : Program} {t e : TypeId} {α β γ δ ε : Type}
theorem Opens.imp {d : Kd α} {wf wf' : α → Prop} (h : Opens P t d wf) (hi : ∀ a, wf a → wf' a) : Opens P t d wf' := fun enc w base held fuel cs x hx => by
  obtain ⟨a, ha, hw⟩ := h enc w base held fuel cs x hx
  exact ⟨a, ha, hi a hw⟩
theorem Opens.int {k : IntKind} (hu : P.underlying t = some (.int k)) : Opens P t (Kd.int k) (fun a => (Lit.int k a).wf = true) := fun enc w base held fuel cs x hx => by
  obtain ⟨a, e0, _, wa⟩ := DataW.trod_int hu hx
  exact ⟨a, e0, wa⟩
theorem Opens.iso {d : Kd α} {wf : α → Prop} (h : Opens P t d wf) (f : β → α) (g : α → β) (hg : ∀ a, f (g a) = a) : Opens P t (Kd.iso d f) (fun b => wf (f b)) := fun enc w base held fuel cs x hx => by
  obtain ⟨a, ha, hw⟩ := h enc w base held fuel cs x hx
  refine ⟨g a, ?_, ?_⟩
  · show d.K w (f (g a)) cs
    rw [hg]; exact ha
  · show wf (f (g a))
    rw [hg]; exact hw
theorem cells_run (w : World) (base : Nat) (a : Addr) (n : Nat) (cs : List Value) (h : w.cells? base a n = some cs) : cs.length = n ∧ ∀ i u, cs[i]? = some u → w.cell? (a.add i) = some u := by
  obtain ⟨_, hl, hc⟩ := World.cells?_some h
  exact ⟨hl, fun i u hu => (hc i (by have := (List.getElem?_eq_some_iff.1 hu).1; omega)).trans hu⟩
theorem Opens.slice {d : Kd α} {wf : α → Prop} [Inhabited α] (hu : P.underlying t = some (.slice e)) (h : Opens P e d wf) (hsz : P.cellsOf e = d.sz) : Opens P t (Kd.slice e d) (fun l => l.length ≤ maxLen ∧ ∀ a ∈ l, wf a) := fun enc w base held fuel cs x hx => by
  rcases Go.Deep.open_slice hu hx with ⟨rfl, _⟩ | ⟨a, len, cap, m, n, D, Pl, rfl, hb, hl, hm, hmm, _, hx2⟩
  · exact ⟨[], ⟨none, 0, rfl, Nat.le_refl _, Kd.C_nil _ _⟩, by simp⟩
  · simp only [if_true] at hmm
    subst hmm
    obtain ⟨X, hX⟩ := Go.Deep.choose_lt (α := α) (n := len) (p := fun i x => ∃ c, w.cells? base (a.add (i * P.cellsOf e)) (P.cellsOf e) = some c ∧ d.K w x c ∧ wf x) (fun i hi => by
      obtain ⟨c, h1, h2⟩ := hx2 i (by omega)
      obtain ⟨y, h3, h4⟩ := h enc w base held n c _ h2
      exact ⟨y, c, h1, h3, h4⟩)
    refine ⟨(List.range len).map X, ⟨some a, m, by simp, by simpa using hl, by simp, by simp; unfold maxLen at hm; omega, fun h0 => ⟨a, rfl, fun j p hj => ?_⟩⟩, by simp; omega, fun y hy => ?_⟩
    · obtain ⟨hjl, hp⟩ := List.getElem?_eq_some_iff.1 hj
      simp at hjl hp
      obtain ⟨c, h1, h2, _⟩ := hX j hjl
      obtain ⟨h3, h4⟩ := cells_run w base _ _ c h1
      refine ⟨c, by rw [h3, hsz], hp ▸ h2, fun i u hu => ?_⟩
      have := h4 i u hu
      rw [Go.Deep.add_add, hsz] at this
      exact this
    · obtain ⟨i, hi, rfl⟩ := List.mem_map.1 hy
      obtain ⟨_, _, _, h4⟩ := hX i (List.mem_range.1 hi)
      exact h4
theorem list2 {cs : List Value} (h : cs.length = 2) : ∃ a b, cs = [a, b] := by
  match cs, h with
  | [a, b], _ => exact ⟨a, b, rfl⟩
theorem list3 {cs : List Value} (h : cs.length = 3) : ∃ a b c, cs = [a, b, c] := by
  match cs, h with
  | [a, b, c], _ => exact ⟨a, b, c, rfl⟩
theorem list4 {cs : List Value} (h : cs.length = 4) : ∃ a b c e, cs = [a, b, c, e] := by
  match cs, h with
  | [a, b, c, e], _ => exact ⟨a, b, c, e, rfl⟩
theorem Opens.struct2 {f0 f1 : Field} {d0 : Kd α} {d1 : Kd β} {w0 : α → Prop} {w1 : β → Prop} (hu : P.underlying t = some (.struct #[f0, f1])) (hc : P.cellsOf t = 2) (o0 : f0.offset = 0) (o1 : f1.offset = 1) (c0 : P.cellsOf f0.type = 1) (c1 : P.cellsOf f1.type = 1)
    (h0 : Opens P f0.type d0 w0) (h1 : Opens P f1.type d1 w1) : Opens P t (Kd.pair d0 d1) (fun a => w0 a.1 ∧ w1 a.2) := fun enc w base held fuel cs x hx => by
  obtain ⟨y0, y1, n, _, hl, q0, q1⟩ := Go.ChangeShapes.trod_struct2 hu hx
  obtain ⟨a, b, rfl⟩ := list2 (hl.trans hc)
  rw [o0, c0] at q0
  rw [o1, c1] at q1
  obtain ⟨x0, k0, g0⟩ := h0 enc w base held n _ _ q0
  obtain ⟨x1, k1, g1⟩ := h1 enc w base held n _ _ q1
  exact ⟨(x0, x1), ⟨_, _, rfl, k0, k1⟩, g0, g1⟩
theorem Opens.struct3 {f0 f1 f2 : Field} {d0 : Kd α} {d1 : Kd β} {d2 : Kd γ} {w0 : α → Prop} {w1 : β → Prop} {w2 : γ → Prop} (hu : P.underlying t = some (.struct #[f0, f1, f2])) (hc : P.cellsOf t = 3) (o0 : f0.offset = 0) (o1 : f1.offset = 1) (o2 : f2.offset = 2) (c0 : P.cellsOf f0.type = 1) (c1 : P.cellsOf f1.type = 1) (c2 : P.cellsOf f2.type = 1)
    (h0 : Opens P f0.type d0 w0) (h1 : Opens P f1.type d1 w1) (h2 : Opens P f2.type d2 w2) : Opens P t (Kd.pair d0 (Kd.pair d1 d2)) (fun a => w0 a.1 ∧ w1 a.2.1 ∧ w2 a.2.2) := fun enc w base held fuel cs x hx => by
  obtain ⟨y0, y1, y2, n, _, hl, q0, q1, q2⟩ := Go.Deep.trod_struct3 hu hx
  obtain ⟨a, b, c, rfl⟩ := list3 (hl.trans hc)
  rw [o0, c0] at q0
  rw [o1, c1] at q1
  rw [o2, c2] at q2
  obtain ⟨x0, k0, g0⟩ := h0 enc w base held n _ _ q0
  obtain ⟨x1, k1, g1⟩ := h1 enc w base held n _ _ q1
  obtain ⟨x2, k2, g2⟩ := h2 enc w base held n _ _ q2
  exact ⟨(x0, x1, x2), ⟨[_], _, rfl, k0, ⟨[_], _, rfl, k1, k2⟩⟩, g0, g1, g2⟩
theorem Opens.struct4 {f0 f1 f2 f3 : Field} {d0 : Kd α} {d1 : Kd β} {d2 : Kd γ} {d3 : Kd δ} {w0 : α → Prop} {w1 : β → Prop} {w2 : γ → Prop} {w3 : δ → Prop} (hu : P.underlying t = some (.struct #[f0, f1, f2, f3])) (hc : P.cellsOf t = 4) (o0 : f0.offset = 0) (o1 : f1.offset = 1) (o2 : f2.offset = 2) (o3 : f3.offset = 3) (c0 : P.cellsOf f0.type = 1) (c1 : P.cellsOf f1.type = 1) (c2 : P.cellsOf f2.type = 1) (c3 : P.cellsOf f3.type = 1)
    (h0 : Opens P f0.type d0 w0) (h1 : Opens P f1.type d1 w1) (h2 : Opens P f2.type d2 w2) (h3 : Opens P f3.type d3 w3) : Opens P t (Kd.pair d0 (Kd.pair d1 (Kd.pair d2 d3))) (fun a => w0 a.1 ∧ w1 a.2.1 ∧ w2 a.2.2.1 ∧ w3 a.2.2.2) := fun enc w base held fuel cs x hx => by
  obtain ⟨y0, y1, y2, y3, n, _, hl, q0, q1, q2, q3⟩ := Go.Joins.trod_struct4 hu hx
  obtain ⟨a, b, c, e, rfl⟩ := list4 (hl.trans hc)
  rw [o0, c0] at q0
  rw [o1, c1] at q1
  rw [o2, c2] at q2
  rw [o3, c3] at q3
  obtain ⟨x0, k0, g0⟩ := h0 enc w base held n _ _ q0
  obtain ⟨x1, k1, g1⟩ := h1 enc w base held n _ _ q1
  obtain ⟨x2, k2, g2⟩ := h2 enc w base held n _ _ q2
  obtain ⟨x3, k3, g3⟩ := h3 enc w base held n _ _ q3
  exact ⟨(x0, x1, x2, x3), ⟨[_], _, rfl, k0, ⟨[_], _, rfl, k1, ⟨[_], _, rfl, k2, k3⟩⟩⟩, g0, g1, g2, g3⟩
end Go.Proofs.Ytpmfdggbccbfaaa.Opens
