-- Printed by a program of this session's own (wip/tools/pp.py) over the kit's print.py; Lean checks it.
import Derived.Test.YtopjffgmpphdbaaDoorProg
import Derived.Below
import Derived.Deep.Draws
import Derived.Deep.AppendLies
import Derived.Maps.AppendAt
import Derived.OwnWalk
import Derived.Laws.BytesArg
import Derived.Laws.MakeOwn
import Derived.Laws.OwnMore
import Derived.Deep.OwnRows
import Derived.Tactics
import Derived.Lib.ConvBytes
import Derived.Laws.Slices
import Derived.WalkKit
import Derived.KernelRfl
import Derived.RowKit3
import Derived.Deep.LoopGhost
import Derived.Deep.QuietTactic
import Derived.BigQuiet
import Derived.WideLaws
import Derived.Deep.DeepCutAuto
import Derived.Deep.CutBlock
import Derived.Deep.RegionHeld3
import Derived.Laws.Rows
import Derived.Lib.AppendStr
import Derived.ArgAppend
import Derived.Laws.IdiomCopy
import Derived.OrdersHeld
import Derived.Laws.BitsLemmas
import Derived.RowKit
import Derived.Lib.SliceRun
import Derived.Shelf.Abstract
import Derived.Maps.OwnOps
import Derived.Maps.OwnSet
import Derived.Test.YtopjffgmpphdbaaDoorWWords
import Derived.Test.YtopjffgmpphdbaaDoorWLast
import Derived.Test.YtopjffgmpphdbaaDoorWTab
import Derived.Test.YtopjffgmpphdbaaDoorWFour
import Derived.Test.YtopjffgmpphdbaaDoorWQPut
import Derived.Test.YtopjffgmpphdbaaDoorWApart
import Derived.Test.YtopjffgmpphdbaaDoorWArr
import Derived.Test.YtopjffgmpphdbaaDoorWZeros
import Derived.Test.YtopjffgmpphdbaaDoorWFoot
import Derived.Test.YtopjffgmpphdbaaDoorWKept
import Derived.Test.YtopjffgmpphdbaaDoorWShare
import Derived.Test.YtopjffgmpphdbaaDoorWN
import Derived.Test.YtopjffgmpphdbaaDoorWFootNe
import Derived.Test.YtopjffgmpphdbaaDoorWAt
import Derived.Test.YtopjffgmpphdbaaDoorWEqStruct
import Derived.Test.YtopjffgmpphdbaaDoorWRepsOne
import Derived.Test.YtopjffgmpphdbaaDoorWInv
import Derived.Test.YtopjffgmpphdbaaDoorWInvWords
import Derived.Test.YtopjffgmpphdbaaDoorWGuard
import Derived.Test.YtopjffgmpphdbaaDoorWNEv
import Derived.Test.YtopjffgmpphdbaaDoorWMore
namespace Go.Proofs.YtopjffgmpphdbaaDoor.Pr
open Go.RowKit Go.Proofs.YtopjffgmpphdbaaDoorW.PrintWords Go.Proofs.YtopjffgmpphdbaaDoorW.PrintLast Go.Proofs.YtopjffgmpphdbaaDoorW.PrintMore
attribute [local go_sem] max2_int min2_int max_two min_two max_three min_three max_four min_four
set_option linter.unusedVariables false
set_option linter.unusedSimpArgs false
@[go_sem] theorem go_wrap_one : wrap64 1 = 1 := by unfold wrap64; omega
def errW : Option Int → Value
 | none => .nilIface
 | some c => .iface 0 (.int .i64 c)
theorem errW_none : errW none = .nilIface := rfl
theorem errW_some (c : Int) : errW (some c) = .iface 0 (.int .i64 c) := rfl
theorem info3 : (Tryd.prog.info? 3).map (fun i => (i.zero, i.size, i.bytes)) = some (some (.int .i64 0), 1, 8) := by kernel_rfl
theorem info4 : (Tryd.prog.info? 4).map (fun i => (i.zero, i.size, i.bytes)) = some (some (.bool false), 1, 1) := by kernel_rfl
theorem info23 : (Tryd.prog.info? 23).map (fun i => (i.zero, i.size, i.bytes)) = some (some (.slice none 0 0), 1, 24) := by kernel_rfl
theorem info55 : (Tryd.prog.info? 55).map (fun i => (i.zero, i.size, i.bytes)) = some (some (.slice none 0 0), 1, 24) := by kernel_rfl
theorem info61 : (Tryd.prog.info? 61).map (fun i => (i.zero, i.size, i.bytes)) = some (some (.int .u64 0), 1, 8) := by kernel_rfl
def rd_L1 (xs : List (List Int)) (i : Int) : (List Int) := xs.getD i.toNat ([] : List Int)
theorem at_L1 {w : World} {A : Option Addr} {n : Nat} {xs : List (List Int)} (h : Kd.C (Kd.slice 3 (Kd.int .i64)) w A n xs) (i : Int) (h0 : 0 ≤ i) (h1 : i < n) : ∃ ad A0 c0, A = some ad ∧ w.cell? (ad.add i.toNat) = some (.slice A0 (rd_L1 xs i).length c0) ∧ (rd_L1 xs i).length ≤ c0 ∧ (Kd.int .i64).C w A0 (rd_L1 xs i).length (rd_L1 xs i) := by
 obtain ⟨ad, c, e, _, hK, hc0⟩ := Kd.C_get h ([] : List Int) i h0 h1;have hc : ∀ j u, c[j]? = some u → w.cell? (ad.add (i.toNat * 1 + j)) = some u := hc0;obtain ⟨A0, c0, rfl, l0, g0⟩ := hK;exact ⟨ad, A0, c0, e, by have hq := hc 0 _ rfl; rwa [Nat.mul_one, Nat.add_zero] at hq, l0, g0⟩
/-! #### struct type 29 -/
structure S29 where
 f0 : (List Int)
def rd_L7 (xs : List (List Bool)) (i : Int) : (List Bool) := xs.getD i.toNat ([] : List Bool)
theorem at_L7 {w : World} {A : Option Addr} {n : Nat} {xs : List (List Bool)} (h : Kd.C (Kd.slice 4 Kd.bool) w A n xs) (i : Int) (h0 : 0 ≤ i) (h1 : i < n) : ∃ ad A0 c0, A = some ad ∧ w.cell? (ad.add i.toNat) = some (.slice A0 (rd_L7 xs i).length c0) ∧ (rd_L7 xs i).length ≤ c0 ∧ Kd.bool.C w A0 (rd_L7 xs i).length (rd_L7 xs i) := by
 obtain ⟨ad, c, e, _, hK, hc0⟩ := Kd.C_get h ([] : List Bool) i h0 h1;have hc : ∀ j u, c[j]? = some u → w.cell? (ad.add (i.toNat * 1 + j)) = some u := hc0;obtain ⟨A0, c0, rfl, l0, g0⟩ := hK;exact ⟨ad, A0, c0, e, by have hq := hc 0 _ rfl; rwa [Nat.mul_one, Nat.add_zero] at hq, l0, g0⟩
theorem qR {p q : Prop} (h : p) (t : p → q := by (intro h_; (with_reducible repeat (first | apply Kd.R_alloc | apply Kd.R_drewN | apply Kd.R_drew)); exact h_)) : q := t h
theorem qS {p q : Prop} (h : p) (t : p → q := by (intro h_; (with_reducible repeat (first | apply Kd.S_alloc | apply Kd.S_drewN | apply Kd.S_drew)); exact h_)) : q := t h
theorem qK {p q : Prop} (h : p) (t : p → q := by (intro h_; (with_reducible repeat (first | refine blk_drewN ?_ _ | refine blk_drew ?_ | refine blk_alloc ?_ _)); exact h_)) : q := t h
theorem qB {p q : Prop} (h : p) (t : p → q := by (intro h_; repeat (first | (with_reducible first | exact h_ | apply below_alloc | apply pw_below_drewN | apply below_drew1) | exact h_))) : q := t h
theorem qB1 {p q a : Prop} (h1 : a) (h : p) (t : a → p → q := by (intro g1_ h_; repeat (first | (with_reducible first | exact h_ | apply below_alloc | apply pw_below_drewN | apply below_drew1 | refine below_set ?_ g1_) | exact h_))) : q := t h1 h
theorem qB2 {p q a b : Prop} (h1 : a) (h2 : b) (h : p) (t : a → b → p → q := by (intro g1_ g2_ h_; repeat (first | (with_reducible first | exact h_ | apply below_alloc | apply pw_below_drewN | apply below_drew1 | refine below_set ?_ g1_ | refine below_set ?_ g2_) | exact h_))) : q := t h1 h2 h
theorem qB3 {p q a b c : Prop} (h1 : a) (h2 : b) (h3 : c) (h : p) (t : a → b → c → p → q := by (intro g1_ g2_ g3_ h_; repeat (first | (with_reducible first | exact h_ | apply below_alloc | apply pw_below_drewN | apply below_drew1 | refine below_set ?_ g1_ | refine below_set ?_ g2_ | refine below_set ?_ g3_) | exact h_))) : q := t h1 h2 h3 h
theorem qA {p : Prop} (h : p := by (first | (with_reducible assumption) | assumption)) : p := h
theorem qM {p : Prop} (h : p := by ((try simp only [List.map_toArray, List.map_cons, List.map_nil]); first | done | rfl | (simp only [List.length_drop, List.length_take]; rfl))) : p := h
theorem qP {P : Program} {ops : Array Oper} {Q : Exit → Act → World → Prop} {md : Region.Mode} {S : World → Prop} {ds : List Nat} (i : Nat) (N : Option Tmp) {oi : Oper} {v : Value} {fuel : Nat} {l : Array Bool} {a : Act} {w : World} (l' : Array Bool) {T : Bool × List (List Nat × List Nat)} (hT : rtab md ops = T)
    {a' : Act} (h : wpAnyLast P md ops Q S ds fuel l' a' w) (hi : ops[i]? = some oi := by rfl) (hN : oi.dst = N := by rfl) (hc : anyT T l.toList l'.toList i = true := by kernel_rfl)
    (hQ : ∀ c a w, Q (.panic c) (a.put oi.dst v) w → Q (.panic c) a w := by (exact fun _ _ _ h => h)) (hg : Region.wanted oi (yielded ops a.tmps) = true := by rfl) (hy : ∀ w', (execOp a.eval oi).run P w' = .ok (.value v) w' := by (intro w'; go_simp; with_reducible rfl)) (ha : a.put N v = a' := by (simp only [Act.put, List.setIfInBounds_toArray, List.set_cons_zero, List.set_cons_succ, i64_w, i32_w]; rfl)) :
    wpAnyLast P md ops Q S ds (fuel + 1) l a w := pure_ l' hi hN (any_of hT hc) hQ (Or.inl ⟨hg, hy⟩) ha h
end Go.Proofs.YtopjffgmpphdbaaDoor.Pr
