-- Printed by a program of this session's own (wip/tools/pp.py) over the kit's print.py; Lean checks it.
import Derived.RangeFuncRecord
import Derived.MapKept
import Derived.Deep.QuietTactic
import Derived.BigRegion
import Derived.BigQuiet
import Derived.Test.YtopjffgmpphdbaaDoorPr0
import Derived.Test.YtopjffgmpphdbaaDoorPr1
import Derived.Test.YtopjffgmpphdbaaDoorPr16
import Derived.Test.YtopjffgmpphdbaaDoorPr17
import Derived.Test.YtopjffgmpphdbaaDoorPr19
import Derived.Test.YtopjffgmpphdbaaDoorPr22
import Derived.Test.YtopjffgmpphdbaaDoorPr26
import Derived.Test.YtopjffgmpphdbaaDoorPr27
namespace Go.Proofs.YtopjffgmpphdbaaDoor.Pr
open Go.RowKit Go.Proofs.YtopjffgmpphdbaaDoorW.PrintWords Go.Proofs.YtopjffgmpphdbaaDoorW.PrintLast Go.Proofs.YtopjffgmpphdbaaDoorW.PrintMore
attribute [local go_sem] max2_int min2_int max_two min_two max_three min_three max_four min_four
set_option linter.unusedVariables false
set_option linter.unusedSimpArgs false
/-! ### order_Of: function 30 -/
/-- the worth that an order goes by -/
def worthF (how : Int) (l0 : List Int) (All : Nat) (l : List Int) (L : Nat) : Int → Int := if how = 1 then missF l else if how = 2 then degreeF l else cardF l0 All L
def ofRun (how : Int) (l0 : List Int) (All : Nat) : Nat → List Int → Nat → List Int → List Int
 | 0, _, _, out => out
 | k + 1, l, L, out => if L = 0 then out else
   let v := (leastF (worthF how l0 All l L) (listN L)).toNat
   ofRun how l0 All k (if how = 3 then l else goRows l v) (anl L (2 ^ v)) (out ++ [(v : Int)])
theorem map_put {P : Program} {w : World} {m : Nat} {es : Array MapEntry} {clock : Nat} {mt kt et : TypeId} (hm : P.underlying mt = some (.map kt et)) (hk : P.underlying kt = some (.int .i64)) (hb : w.heap[m]? = some (.map es clock)) (x : Int) (val : Value)
  (hf : Instr.findNow (.int .i64) (.int .i64 x) es.toList 0 = some none) : (Instr.mapUpdate mt (.map (some m)) (.int .i64 x) val).run P w = .ok () { w with heap := w.heap.setIfInBounds m (.map (es.push { key := .int .i64 x, val := val, born := clock }) (clock + 1)) } := by
 simp [Instr.mapUpdate, run_underlying hm, Result.andThen, Go.MapKept.run_getObj_map hb, Go.MapKept.run_checkKey hk (k := .int .i64 x) (by simp [Go.MapKept.IsKey]), Go.MapKept.run_findKey hk hf, Go.MapKept.run_setObj_map _ hb]
theorem map_get {P : Program} {w : World} {m : Nat} {es : Array MapEntry} {clock : Nat} {mt kt et : TypeId} (hm : P.underlying mt = some (.map kt et)) (hk : P.underlying kt = some (.int .i64)) (hb : w.heap[m]? = some (.map es clock)) (x : Int) (i : Nat) (val : Value)
  (hf : Instr.findNow (.int .i64) (.int .i64 x) es.toList 0 = some (some (i, val))) : (Instr.lookup mt (.map (some m)) (.int .i64 x) false).run P w = .ok val w := by
 simp [Instr.lookup, run_underlying hm, Result.andThen, Go.MapKept.run_getObj_map hb, Go.MapKept.run_checkKey hk (k := .int .i64 x) (by simp [Go.MapKept.IsKey]), Go.MapKept.run_findKey hk hf]
theorem insert_event {P : Program} {ops : Array Oper} {rest : List Oper} {o : Oper} {a : Act} {Q : Exit → Act → World → Prop} {W w1 : World} (hgd : o.guard = none) {t : TypeId} {p k v : Operand} (_ho : o.op = .insert t p k v) (hN : o.dst = none)
  (hrun : (execOp a.eval o).run P W = .ok .skip w1) (h : wpList P ops Q rest a w1) : wpList P ops Q (o :: rest) a W := by
 refine wpList_plain hgd fun K hK => ?_
 unfold Oper.wp
 rw [hrun]
 show K (a.put o.dst undef) w1
 rw [hN]
 exact hK _ _ h
theorem make_event {P : Program} {ops : Array Oper} {rest : List Oper} {o : Oper} {a : Act} {Q : Exit → Act → World → Prop} {W : World} (hgd : o.guard = none) {t : TypeId} (ho : o.op = .makeMap t none)
  (h : ∀ w1, w1 = W.alloc (.map #[] 0) → wpList P ops Q rest (a.put o.dst (.map (some W.heap.size))) w1) : wpList P ops Q (o :: rest) a W := by
 have hrun : (execOp a.eval o).run P W = .ok (.value (.map (some W.heap.size))) (W.alloc (.map #[] 0)) := by simp [execOp, ho, Instr.makeMap, Result.andThen]
 refine wpList_plain hgd fun K hK => ?_
 unfold Oper.wp
 rw [hrun]
 exact hK _ _ (h _ rfl)
theorem insert_put {P : Program} {ops : Array Oper} {rest : List Oper} {o : Oper} {a : Act} {Q : Exit → Act → World → Prop} {W : World} (hgd : o.guard = none) {t kt et : TypeId} {p k v : Operand} (ho : o.op = .insert t p k v) (hN : o.dst = none)
  {m : Nat} {x : Int} {val : Value} {es : Array MapEntry} {clock : Nat} (hp : a.eval p = .map (some m)) (hk : a.eval k = .int .i64 x) (hv : a.eval v = val) (hm : P.underlying t = some (.map kt et)) (hkt : P.underlying kt = some (.int .i64)) (hb : W.heap[m]? = some (.map es clock))
  (hf : Instr.findNow (.int .i64) (.int .i64 x) es.toList 0 = some none)
  (h : ∀ w1 : World, w1.heap[m]? = some (.map (es.push { key := .int .i64 x, val := val, born := clock }) (clock + 1)) → (∀ i ob, i ≠ m → W.heap[i]? = some ob → w1.heap[i]? = some ob) → (∀ B w0, B ≤ m → Below B w0 W → Below B w0 w1) → wpList P ops Q rest a w1) : wpList P ops Q (o :: rest) a W := by
 have hlt : m < W.heap.size := (Array.getElem?_eq_some_iff.1 hb).1;refine insert_event hgd ho hN (by simp [execOp, ho, hp, hk, hv, map_put hm hkt hb x val hf, Result.andThen]; rfl) (h (W.putObj m (.map (es.push { key := .int .i64 x, val := val, born := clock }) (clock + 1))) (World.putObj_heap_same hlt) (fun i ob hi hh => (World.putObj_heap_other hi).trans hh) (fun B w0 hB hh => ?_));exact ⟨hh.os, hh.tape, hh.output, by have := hh.size; simpa [World.putObj] using this, fun i hi => (World.putObj_heap_other (by omega)).trans (hh.block i hi)⟩
theorem lookup_get {P : Program} {ops : Array Oper} {rest : List Oper} {o : Oper} {a : Act} {Q : Exit → Act → World → Prop} {W : World} (hgd : o.guard = none) {t kt et : TypeId} {p k : Operand} (ho : o.op = .lookup t p k false)
  {m : Nat} {x : Int} {val : Value} {es : Array MapEntry} {clock i : Nat} (hp : a.eval p = .map (some m)) (hk : a.eval k = .int .i64 x) (hm : P.underlying t = some (.map kt et)) (hkt : P.underlying kt = some (.int .i64)) (hb : W.heap[m]? = some (.map es clock))
  (hf : Instr.findNow (.int .i64) (.int .i64 x) es.toList 0 = some (some (i, val))) (h : wpList P ops Q rest (a.put o.dst val) W) : wpList P ops Q (o :: rest) a W := by
 have hrun : (execOp a.eval o).run P W = .ok (.value val) W := by simp [execOp, ho, hp, hk, map_get hm hkt hb x i val hf, Result.andThen]
 refine wpList_plain hgd fun K hK => ?_
 unfold Oper.wp
 rw [hrun]
 exact hK _ _ h
/-- the three worthsMap by their numbers -/
def worthsMap (bp gb ab pb : Nat) : Array MapEntry := #[{ key := .int .i64 1, val := .func (.func 42) #[.pointer (some ⟨bp, 0, none⟩)] #[], born := 0 }, { key := .int .i64 2, val := .func (.func 43) #[.pointer (some ⟨bp, 0, none⟩)] #[], born := 1 }, { key := .int .i64 3, val := .func (.func 44) #[] #[.pointer (some ⟨gb, 0, none⟩), .pointer (some ⟨ab, 0, none⟩), .pointer (some ⟨pb, 0, none⟩)], born := 2 }]
theorem worthsMap_find (bp gb ab pb : Nat) (how : Int) (h1 : 1 ≤ how) (h3 : how ≤ 3) : ∃ i val, Instr.findNow (.int .i64) (.int .i64 how) (worthsMap bp gb ab pb).toList 0 = some (some (i, val)) ∧
  (how = 1 → val = .func (.func 42) #[.pointer (some ⟨bp, 0, none⟩)] #[]) ∧ (how = 2 → val = .func (.func 43) #[.pointer (some ⟨bp, 0, none⟩)] #[]) ∧
  (how = 3 → val = .func (.func 44) #[] #[.pointer (some ⟨gb, 0, none⟩), .pointer (some ⟨ab, 0, none⟩), .pointer (some ⟨pb, 0, none⟩)]) := by
 have h : how = 1 ∨ how = 2 ∨ how = 3 := by omega
 rcases h with rfl | rfl | rfl
 ·exact ⟨0, _, rfl, fun _ => rfl, fun h => absurd h (by decide), fun h => absurd h (by decide)⟩
 ·exact ⟨1, _, rfl, fun h => absurd h (by decide), fun _ => rfl, fun h => absurd h (by decide)⟩
 ·exact ⟨2, _, rfl, fun h => absurd h (by decide), fun h => absurd h (by decide), fun _ => rfl⟩
instance (l : List Int) : Decidable (Good l) := by unfold Good; infer_instance
def order_Of.f (k : Nat) (l0 : List Int) (how : Int) : Option (List Int × Int) :=
 if how < 1 ∨ 3 < how then some ([], 1) else (graph_Right.f k l0).bind fun b => if b = false then some ([], 0) else
  if Good l0 ∧ l0.length ≤ 40 then some (let out := ofRun how l0 (2 ^ l0.length - 1) 64 l0 (2 ^ l0.length - 1) []; (if how = 3 then out.reverse else out, 0)) else none
theorem order_Of.mono (l0 : List Int) (how : Int) (k : Nat) : LeO (order_Of.f k l0 how) (order_Of.f (k + 1) l0 how) := by
 intro r h
 unfold order_Of.f at h ⊢
 by_cases c : how < 1 ∨ 3 < how
 ·rw [if_pos c] at h ⊢; exact h
 ·rw [if_neg c] at h ⊢
  cases hR : graph_Right.f k l0 with
  | none => rw [hR] at h; cases h
  | some b =>
   rw [hR] at h
   rw [graph_Right.mono l0 k b hR]
   exact h
/-- the board is laid: a pointer's cell that leads to it -/
def Laid (B gb : Nat) (w : World) (o : Obj) (l0 : List Int) (L : Int) (pv : Value) (wx : World) : Prop :=
 ∃ (pb bp : Nat) (v3 : Value), pv = .pointer (some ⟨pb, 0, none⟩) ∧ Aside0 (wx.heap[pb]? = some (.cells #[.pointer (some ⟨bp, 0, none⟩)] 72 (0, 0))) ∧ Aside0 (Board wx bp B v3 l0 L) ∧ Aside0 (wx.heap[gb]? = some o) ∧ Aside0 (Below B w wx) ∧ Aside0 (B ≤ bp ∧ B ≤ pb)
theorem good_all {l : List Int} (h : Good l) : (∀ x ∈ l, 0 ≤ x ∧ x < 18446744073709551616) ∧ ∀ x ∈ l, ∀ a ∈ listN x.toNat, a < (l.length : Int) := ⟨fun x hx => (h x hx).1, fun x hx => (h x hx).2⟩
theorem laid_a {B gb N : Nat} {w w3 : World} {o : Obj} {l0 : List Int} {L : Int} {v3 : Value} (hB : Below B w w3) (hBN : B ≤ N) (hs : B ≤ w3.heap.size) (ho : Kd.R (Kd.int .u64) 61 w3 N (fun _ => True) v3 l0) (hg : w3.heap[gb]? = some o) (hG : Good l0) :
  Laid B gb w o l0 L (.pointer (some ⟨w3.heap.size + 1, 0, none⟩)) ((w3.alloc (.cells #[v3, .int .u64 L] 74)).alloc (.cells #[.pointer (some ⟨w3.heap.size, 0, none⟩)] 72)) := by
 have e : (w3.alloc (.cells #[v3, .int .u64 L] 74)).heap.size = w3.heap.size + 1 := by simp
 have k : ∀ i ob, w3.heap[i]? = some ob → ((w3.alloc (.cells #[v3, .int .u64 L] 74)).alloc (.cells #[.pointer (some ⟨w3.heap.size, 0, none⟩)] 72)).heap[i]? = some ob := fun i ob h =>
  (Below.heap_alloc _ _ i (by rw [e]; have := blk_lt h; omega)).trans ((Below.heap_alloc w3 _ i (blk_lt h)).trans h)
 refine ⟨w3.heap.size + 1, w3.heap.size, v3, rfl, ⟨?_⟩, ⟨⟨?_, ?_, (good_all hG).1, (good_all hG).2⟩⟩, ⟨k _ _ hg⟩, ⟨(hB.alloc hs _).alloc (by rw [e]; omega) _⟩, ⟨hs, by omega⟩⟩
 ·rw [← e]; exact blk_new _ _
 ·exact (Below.heap_alloc _ _ _ (by rw [e]; omega)).trans (blk_new w3 _)
 ·exact Kd.R_below (Kd.R_lower ho hBN) (((Below.refl _ _).alloc (Nat.le_refl _) _).alloc (by rw [e]; omega) _)
theorem laid_b {B gb N : Nat} {w w3 : World} {o : Obj} {l0 : List Int} {L : Int} {v3 : Value} (hB : Below B w w3) (hBN : B ≤ N) (hs : B ≤ w3.heap.size) (ho : Kd.R (Kd.int .u64) 61 w3 N (fun _ => True) v3 l0) (hg : w3.heap[gb]? = some o) (hG : Good l0) :
  Laid B gb w o l0 L (.pointer (some ⟨w3.heap.size, 0, none⟩)) ((w3.alloc (.cells #[.pointer (some ⟨w3.heap.size + 1, 0, none⟩)] 72)).alloc (.cells #[v3, .int .u64 L] 74)) := by
 have e : (w3.alloc (.cells #[.pointer (some ⟨w3.heap.size + 1, 0, none⟩)] 72)).heap.size = w3.heap.size + 1 := by simp
 have k : ∀ i ob, w3.heap[i]? = some ob → ((w3.alloc (.cells #[.pointer (some ⟨w3.heap.size + 1, 0, none⟩)] 72)).alloc (.cells #[v3, .int .u64 L] 74)).heap[i]? = some ob := fun i ob h =>
  (Below.heap_alloc _ _ i (by rw [e]; have := blk_lt h; omega)).trans ((Below.heap_alloc w3 _ i (blk_lt h)).trans h)
 refine ⟨w3.heap.size, w3.heap.size + 1, v3, rfl, ⟨?_⟩, ⟨⟨?_, ?_, (good_all hG).1, (good_all hG).2⟩⟩, ⟨k _ _ hg⟩, ⟨(hB.alloc hs _).alloc (by rw [e]; omega) _⟩, ⟨by omega, hs⟩⟩
 ·exact (Below.heap_alloc _ _ _ (by rw [e]; omega)).trans (blk_new w3 _)
 ·have h := blk_new (w3.alloc (.cells #[.pointer (some ⟨w3.heap.size + 1, 0, none⟩)] 72)) (.cells #[v3, .int .u64 L] 74);rw [e] at h
  exact h
 ·exact Kd.R_below (Kd.R_lower ho hBN) (((Below.refl _ _).alloc (Nat.le_refl _) _).alloc (by rw [e]; omega) _)
theorem laid_c {B gb q : Nat} {w w3 : World} {o : Obj} {l0 : List Int} {L : Int} {v3 : Value} (hB : Below B w w3) (hs : B ≤ w3.heap.size) (ho : Kd.R (Kd.int .u64) 61 w3 B (fun _ => True) v3 l0) (hg : w3.heap[gb]? = some o) (hG : Good l0) (hq : w3.heap[q]? = some (.cells #[.pointer none] 72 (0, 0))) (hBq : B ≤ q) (hne : gb ≠ q) :
  Laid B gb w o l0 L (.pointer (some ⟨q, 0, none⟩)) ((w3.alloc (.cells #[v3, .int .u64 L] 74)).setCell ⟨q, 0, none⟩ (.pointer (some ⟨w3.heap.size, 0, none⟩))) := by
 have hq2 : (w3.alloc (.cells #[v3, .int .u64 L] 74)).heap[q]? = some (.cells #[.pointer none] 72 (0, 0)) := (Below.heap_alloc w3 _ q (blk_lt hq)).trans hq;have hb2 := blk_new w3 (.cells #[v3, .int .u64 L] 74);have k : ∀ i ob, (w3.alloc (.cells #[v3, .int .u64 L] 74)).heap[i]? = some ob → i ≠ q → ((w3.alloc (.cells #[v3, .int .u64 L] 74)).setCell ⟨q, 0, none⟩ (.pointer (some ⟨w3.heap.size, 0, none⟩))).heap[i]? = some ob := fun i ob h hi => (Below.heap_setCell _ ⟨q, 0, none⟩ _ i hi).trans h
 refine ⟨q, w3.heap.size, v3, rfl, ⟨blk_put hq2 0 _ rfl⟩, ⟨⟨k _ _ hb2 (by have := blk_lt hq; omega), ?_, (good_all hG).1, (good_all hG).2⟩⟩, ⟨k _ _ ((Below.heap_alloc w3 _ gb (blk_lt hg)).trans hg) hne⟩, ⟨(hB.alloc hs _).setCell hBq _⟩, ⟨hs, hBq⟩⟩;exact Kd.R_set (Kd.R_below ho ((Below.refl _ _).alloc (Nat.le_refl _) _)) hq2 (by decide) _ _
theorem Board.grown {W w1 : World} {bp base b2 : Nat} {ok : Nat → Prop} {v s : Value} {l out : List Int} {L : Int} (h : Board W bp base v l L) (hs : Kd.R (Kd.int .i64) 3 W b2 ok s out) (hg : W.grownBy w1 s.ownBlock) : Board w1 bp base v l L :=
 ⟨blk_grown h.obj hg (Kd.R_ne hs h.obj (by decide)), Kd.R_over' h.row (Kd.R_typed hs) (by decide) hg, h.all, h.ins⟩
theorem out_keep {W w1 : World} {b : Nat} {s : Value} {out : List Int} (hs : Kd.R (Kd.int .i64) 3 W b (fun _ => True) s out) (hk : ∀ k, s.ownBlock = some k → w1.heap[k]? = W.heap[k]?) : Kd.R (Kd.int .i64) 3 w1 b (fun _ => True) s out :=
 Kd.R_mono (Kd.R_step (Kd.R_tight rfl hs) (fun k ok _ => hk k ok.symm)) (fun _ _ => trivial)
/-- what lies at the loop's head -/
structure OfW (w : World) (pb bp gb ab : Nat) (v3 : Value) (A0 : Option Addr) (n c0 All : Nat) (l : List Int) (L : Nat) (s9 : Value) (out : List Int) (W : World) : Prop where
 bd : Board W bp w.heap.size v3 l (L : Int)
 hP : W.heap[pb]? = some (.cells #[.pointer (some ⟨bp, 0, none⟩)] 72 (0, 0))
 hG : W.heap[gb]? = some (.cells #[.slice A0 n c0] 29 (0, 0))
 hA : W.heap[ab]? = some (.cells #[.int .u64 (All : Int)] 61 (0, 0))
 bel : Below w.heap.size w W
 row : Kd.R (Kd.int .i64) 3 W w.heap.size (fun _ => True) s9 out
 lo : w.heap.size ≤ bp
 ne : v3.ownBlock ≠ some ab
 len : l.length = n
 gw : GoodW n L
section
variable {w W w1 : World} {pb bp gb ab n c0 All L : Nat} {v3 s9 : Value} {A0 : Option Addr} {l out : List Int}
theorem OfW.size (h : OfW w pb bp gb ab v3 A0 n c0 All l L s9 out W) : w.heap.size ≤ W.heap.size := h.bel.size
theorem OfW.below (h : OfW w pb bp gb ab v3 A0 n c0 All l L s9 out W) (hb : Below W.heap.size W w1) : OfW w pb bp gb ab v3 A0 n c0 All l L s9 out w1 :=
 ⟨h.bd.below hb, (hb.block _ (blk_lt h.hP)).trans h.hP, (hb.block _ (blk_lt h.hG)).trans h.hG, (hb.block _ (blk_lt h.hA)).trans h.hA, below_then h.bel h.size hb, Kd.R_below h.row hb, h.lo, h.ne, h.len, h.gw⟩
theorem OfW.app (h : OfW w pb bp gb ab v3 A0 n c0 All l L s9 out W) {v1 : Value} {out1 : List Int} (hr : Kd.R (Kd.int .i64) 3 w1 w.heap.size (fun _ => True) v1 out1) (hb : Below w.heap.size w w1) (hg : W.grownBy w1 s9.ownBlock) : OfW w pb bp gb ab v3 A0 n c0 All l L v1 out1 w1 :=
 ⟨Board.grown h.bd h.row hg, blk_grown h.hP hg (Kd.R_ne h.row h.hP (by decide)), blk_grown h.hG hg (Kd.R_ne h.row h.hG (by decide)), blk_grown h.hA hg (Kd.R_ne h.row h.hA (by decide)), hb, hr, h.lo, h.ne, h.len, h.gw⟩
theorem OfW.cells (h : OfW w pb bp gb ab v3 A0 n c0 All l L s9 out W) : W.cell? ⟨pb, 0, none⟩ = some (.pointer (some ⟨bp, 0, none⟩)) ∧ W.cell? ⟨bp, 1, none⟩ = some (.int .u64 (L : Int)) ∧ W.frozen? ⟨bp, 1, none⟩ = false :=
 ⟨(blk_cell h.hP 0).trans rfl, (blk_cell h.bd.obj 1).trans rfl, blk_frozen h.bd.obj 1⟩
theorem OfW.left (h : OfW w pb bp gb ab v3 A0 n c0 All l L s9 out W) (L2 : Nat) (hL2 : GoodW n L2) : OfW w pb bp gb ab v3 A0 n c0 All l L2 s9 out (W.setCell ⟨bp, 1, none⟩ (.int .u64 (L2 : Int))) := by
 have ne : ∀ i o, W.heap[i]? = some o → i ≠ bp → (W.setCell ⟨bp, 1, none⟩ (.int .u64 (L2 : Int))).heap[i]? = some o := fun i o h1 h2 => (Below.heap_setCell W ⟨bp, 1, none⟩ _ i h2).trans h1
 refine ⟨h.bd.left _, ne _ _ h.hP (blk_ne h.hP h.bd.obj (by decide)), ne _ _ h.hG (blk_ne h.hG h.bd.obj (by decide)), ne _ _ h.hA (blk_ne h.hA h.bd.obj (by decide)), h.bel.setCell h.lo _, Kd.R_set h.row h.bd.obj (by decide) _ _, h.lo, h.ne, h.len, hL2⟩
theorem OfW.went (h : OfW w pb bp gb ab v3 A0 n c0 All l L s9 out W) {g c m : Nat} (hv : v3 = .slice (some ⟨g, 0, none⟩) m c) {l2 : List Int} {L2 : Nat} (hb : Board w1 bp w.heap.size v3 l2 (L2 : Int)) (hw : Below w.heap.size w w1) (hk : ∀ i, i ≠ bp → i ≠ g → w1.heap[i]? = W.heap[i]?) (hl : l2.length = n) (hg : GoodW n L2) : OfW w pb bp gb ab v3 A0 n c0 All l2 L2 s9 out w1 := by
 subst hv;obtain ⟨cells, hc⟩ := own_typed (Kd.own_of_R (enc := Value.int .u64) (h1 := fun _ => rfl) h.bd.row) g (by simp [Value.ownBlock]);have ne : ∀ i o, W.heap[i]? = some o → i ≠ bp → i ≠ g → w1.heap[i]? = some o := fun i o h1 h2 h3 => (hk i h2 h3).trans h1
 refine ⟨hb, ne _ _ h.hP (blk_ne h.hP h.bd.obj (by decide)) (blk_ne h.hP hc (by decide)), ne _ _ h.hG (blk_ne h.hG h.bd.obj (by decide)) (blk_ne h.hG hc (by decide)), ne _ _ h.hA (blk_ne h.hA h.bd.obj (by decide)) (fun e => h.ne (by rw [e]; simp [Value.ownBlock])), hw, out_keep h.row (fun k ek => ?_), h.lo, h.ne, hl, hg⟩;obtain ⟨cells2, hc2⟩ := Kd.R_typed h.row k ek;exact hk k (blk_ne hc2 h.bd.obj (by decide)) (blk_ne hc2 hc (by decide))
end
theorem goRows_len (l : List Int) (x : Nat) : (goRows l x).length = l.length := by
 unfold goRows
 rw [List.length_set]
 generalize (listN (rd l (x : Int)).toNat) = ys;generalize (rd l (x : Int)).toNat = b;induction ys generalizing l with
 | nil => rfl
 | cons y ys ih => rw [List.foldl_cons, ih, goStep_len]
theorem GoodW_anl {n L : Nat} (h : GoodW n L) (c : Nat) : GoodW n (anl L c) := ⟨Nat.lt_of_le_of_lt Nat.and_le_left h.1, fun j hj => h.2 j (by unfold anl at hj; rw [Nat.testBit_and, Bool.and_eq_true] at hj; exact hj.1)⟩
theorem lessW_in (f : Int → Int) : ∀ (xs : List Int) (b : Int), xs.foldl (lessW f) b = b ∨ xs.foldl (lessW f) b ∈ xs
 | [], b => .inl rfl
 | x :: xs, b => by
  rw [List.foldl_cons]
  rcases lessW_in f xs (lessW f b x) with h | h
  ·rw [h]
   unfold lessW
   split
   ·exact .inr List.mem_cons_self
   ·split
    ·exact .inr List.mem_cons_self
    ·exact .inl rfl
  ·exact .inr (List.mem_cons_of_mem _ h)
theorem leastF_in (f : Int → Int) (xs : List Int) (hx : ∀ x ∈ xs, 0 ≤ x) (h : xs ≠ []) : leastF f xs ∈ xs := by
 unfold leastF
 cases xs with
 | nil => exact absurd rfl h
 | cons x xs =>
  rw [List.foldl_cons]
  have e : lessW f (-1) x = x := by unfold lessW; rw [if_pos (by decide)]
  rw [e]
  rcases lessW_in f xs x with h | h
  ·rw [h]; exact List.mem_cons_self
  ·exact List.mem_cons_of_mem _ h
theorem listN_nil {L : Nat} (hL : L < 18446744073709551616) (h : listN L = []) : L = 0 := by
 rcases Nat.eq_zero_or_pos L with h0 | h0
 ·exact h0
 ·rw [listN_step L (by omega) hL] at h; cases h
theorem clear_one {L x : Nat} (hL : L < 18446744073709551616) (hx : (x : Int) ∈ listN L) : (listN (anl L (2 ^ x))).length < (listN L).length := by
 have hL2 : anl L (2 ^ x) < 18446744073709551616 := anl_lt hL;obtain ⟨i, hi, h64, hb⟩ := mem_listN.1 hx;obtain rfl : x = i := by omega
 have hbit : ∀ j, j < 64 → (anl L (2 ^ x)).testBit j = (L.testBit j && !decide (x = j)) := fun j hj => by
  unfold anl
  rw [Nat.testBit_and]
  congr 1
  have e : 18446744073709551615 - 2 ^ x = 2 ^ 64 - 2 ^ x - 1 := by omega
  have e2 : (18446744073709551615 - 2 ^ x).testBit j = !(2 ^ x).testBit j := by
   have := Nat.testBit_two_pow_sub_succ (x := 2 ^ x) (n := 64) (Nat.pow_lt_pow_right (by decide) h64) j;rw [show 2 ^ 64 - (2 ^ x + 1) = 18446744073709551615 - 2 ^ x by omega] at this
   rw [this, decide_eq_true hj, Bool.true_and]
  rw [e2, Nat.testBit_two_pow]
 have h1 : ∀ (p q : Nat → Bool) (ys : List Nat), (∀ y ∈ ys, p y = (q y && !decide (x = y))) → (ys.filter p).length ≤ (ys.filter q).length ∧ (x ∈ ys → q x = true → (ys.filter p).length < (ys.filter q).length) := by
  intro p q ys
  induction ys with
  | nil => intro _; exact ⟨Nat.le_refl _, fun h => by cases h⟩
  | cons y ys ih =>
   intro h
   obtain ⟨i1, i2⟩ := ih (fun z hz => h z (List.mem_cons_of_mem _ hz));have hy := h y List.mem_cons_self;by_cases hxy : x = y
   ·subst hxy;rw [List.filter_cons_of_neg (by rw [hy]; simp)]
    cases hq : q x with
    | true => rw [List.filter_cons_of_pos hq, List.length_cons]; exact ⟨by omega, fun _ _ => by omega⟩
    | false => rw [List.filter_cons_of_neg (by rw [hq]; simp)]; exact ⟨i1, fun _ h => by cases h⟩
   ·have hm : x ∈ y :: ys → x ∈ ys := fun h => (List.mem_cons.1 h).resolve_left hxy
    cases hl : q y with
    | false =>
     rw [List.filter_cons_of_neg (by rw [hy, hl]; simp), List.filter_cons_of_neg (by rw [hl]; simp)]
     exact ⟨i1, fun h => i2 (hm h)⟩
    | true =>
     rw [List.filter_cons_of_pos (by rw [hy, hl]; simp [hxy]), List.filter_cons_of_pos hl, List.length_cons, List.length_cons]
     exact ⟨by omega, fun h hq => by have := i2 (hm h) hq; omega⟩
 have h2 := (h1 (fun i => (anl L (2 ^ x)).testBit i) (fun i => L.testBit i) (List.range 64) (fun y hy => hbit y (List.mem_range.1 hy))).2 (List.mem_range.2 h64) hb;unfold listN
 rw [List.length_map, List.length_map]
 exact h2
theorem rev_l0 : ∀ (d : Nat) (a m b : List Int), m.length ≤ d → a.length = b.length → a.length + m.length + b.length < 1000000 → slices_Reverse_int_int.l0 (d + 1) (a ++ m ++ b) (a.length : Int) ((a.length : Int) + m.length - 1) = some (a ++ m.reverse ++ b) := by
 intro d
 induction d using Nat.strongRecOn with
 | ind d ih =>
  intro a m b hm hab hl
  match m, hm with
  | [], _ =>
   rw [slices_Reverse_int_int.l0, if_neg (by simp; omega)]
   rfl
  | [x], _ =>
   rw [slices_Reverse_int_int.l0, if_neg (by simp)]
   rfl
  | x :: y :: m, hm =>
   obtain ⟨mm, z, e⟩ : ∃ mm z, y :: m = mm ++ [z] := ⟨(y :: m).dropLast, (y :: m).getLast (by simp), (List.dropLast_concat_getLast (by simp)).symm⟩;rw [e] at hm hl ⊢
   simp only [List.length_cons, List.length_append, List.length_nil] at hm hl
   obtain ⟨d, rfl⟩ : ∃ d', d = d' + 1 := ⟨d - 1, by omega⟩;have l1 : (a ++ x :: (mm ++ [z]) ++ b).length = a.length + mm.length + 2 + b.length := by simp; omega
   have r1 : rd (a ++ x :: (mm ++ [z]) ++ b) ((a.length : Int) + (mm.length + 1 : Nat) ) = z := by
    rw [← Int.natCast_add]
    refine rd_nat _ _ _ ?_;rw [List.append_assoc, List.getElem?_append_right (by omega)]
    simp
   have r2 : rd (a ++ x :: (mm ++ [z]) ++ b) (a.length : Int) = x := by
    refine rd_nat _ _ _ ?_;rw [List.append_assoc, List.getElem?_append_right (by omega)]
    simp
   have e1 : (a.length : Int) + ((x :: (mm ++ [z])).length : Int) - 1 = (a.length : Int) + ((mm.length + 1 : Nat) : Int) := by simp; omega
   have st : (((a ++ x :: (mm ++ [z]) ++ b).set ((a.length : Int)).toNat z).set ((a.length : Int) + ((mm.length + 1 : Nat) : Int)).toNat x) = (a ++ [z]) ++ mm ++ ([x] ++ b) := by
    rw [Int.toNat_natCast, show ((a.length : Int) + ((mm.length + 1 : Nat) : Int)).toNat = a.length + (mm.length + 1) by omega]
    simp [List.append_assoc]
   have w1 : wrap64 ((a.length : Int) + 1) = ((a ++ [z]).length : Int) := by rw [wrap_id (by omega) (by omega)]; simp
   have w2 : wrap64 ((a.length : Int) + ((mm.length + 1 : Nat) : Int) - 1) = ((a ++ [z]).length : Int) + mm.length - 1 := by rw [wrap_id (by omega) (by omega)]; simp; omega
   have h := ih d (by omega) (a ++ [z]) mm ([x] ++ b) (by omega) (by simp; omega) (by simp; omega);rw [e1, slices_Reverse_int_int.l0, if_pos (by omega), if_pos (by omega), if_pos (by rw [l1]; omega), if_pos (by omega), if_pos (by rw [l1]; omega), r1, r2, st, w1, w2, h]
   simp [List.append_assoc]
theorem rev_f (l : List Int) (hl : l.length < 1000000) : slices_Reverse_int_int.f (l.length + 1) l = some l.reverse := by
 have h := rev_l0 l.length [] l [] (Nat.le_refl _) rfl (by simp; omega);unfold slices_Reverse_int_int.f
 rw [wrap_id (by omega) (by omega)]
 simpa using h
theorem least_any (how : Int) (h1 : 1 ≤ how) (h3 : how ≤ 3) (pb bp gb ab n c0 All L : Nat) (v3 s9 : Value) (A0 : Option Addr) (l0 l out : List Int) (w W : World) (hTb : Tab64 W) (hO : OfW w pb bp gb ab v3 A0 n c0 All l L s9 out W) (hC : Kd.C (Kd.int .u64) W A0 n l0) (hl : ∀ y ∈ l0, 0 ≤ y ∧ y < 18446744073709551616) (hAll : All < 18446744073709551616) (hn : l0.length = n) (wv : Value)
  (e1 : how = 1 → wv = .func (.func 42) #[.pointer (some ⟨bp, 0, none⟩)] #[]) (e2 : how = 2 → wv = .func (.func 43) #[.pointer (some ⟨bp, 0, none⟩)] #[])
  (e3 : how = 3 → wv = .func (.func 44) #[] #[.pointer (some ⟨gb, 0, none⟩), .pointer (some ⟨ab, 0, none⟩), .pointer (some ⟨pb, 0, none⟩)]) :
  Calls Tryd.prog 46 #[.pointer (some ⟨bp, 0, none⟩), wv] W fun e w' => e = .returned (.int .i64 (leastF (worthF how l0 All l L) (listN L))) ∧ Drawn0 W w' := by
 have hin : ∀ x ∈ listN L, 0 ≤ x ∧ x < (n : Int) := fun x hx => ⟨mem_listN_nn hx, hO.gw.list x hx⟩
 have h : how = 1 ∨ how = 2 ∨ how = 3 := by omega
 rcases h with rfl | rfl | rfl
 ·rw [e1 rfl]
  exact least_walk bp w.heap.size v3 l L W hTb hO.bd hO.gw.1 _ _ _ _ (fun _ _ => rfl) (worth_missing bp w.heap.size v3 l (L : Int) W hTb hO.bd (listN L) (by rw [hO.len]; exact hin))
 ·rw [e2 rfl]
  exact least_walk bp w.heap.size v3 l L W hTb hO.bd hO.gw.1 _ _ _ _ (fun _ _ => rfl) (worth_degree bp w.heap.size v3 l (L : Int) W hO.bd (listN L) (by rw [hO.len]; exact hin))
 ·rw [e3 rfl]
  exact least_walk bp w.heap.size v3 l L W hTb hO.bd hO.gw.1 _ _ _ _ (fun _ _ => rfl) (worth_card gb ab pb bp A0 n c0 l0 All L v3 W hO.hG hC hO.hA hO.hP hO.bd.obj hl hAll hO.gw.1 (listN L) hin)
set_option maxRecDepth 100000 in
set_option maxHeartbeats 8000000 in
theorem order_Of.calls (k : Nat) (A0 : Option Addr) (c0 : Nat) (l0 : List Int) (how : Int) (r1 : List Int) (r2 : Int) (w : World) (hTb : Tab64 w) (hr0 : Kd.C (Kd.int .u64) w A0 l0.length l0) (hc0 : l0.length ≤ c0) (h : order_Of.f k l0 how = some (r1, r2)) :
  Calls Tryd.prog 30 #[.agg #[.slice A0 l0.length c0], .int .i64 how] w fun e w' => ∃ v0_ : Value, e = .returned (.tuple #[v0_, .int .i64 r2]) ∧ Kd.R (Kd.int .i64) 3 w' w.heap.size (fun _ => True) v0_ r1 ∧ Below w.heap.size w w' := by
 unfold order_Of.f at h
 have HT := Aside0.mk hTb;have HR0 := Aside0.mk hr0;have HC0 := Aside0.mk hc0;by_cases hh : how < 1 ∨ 3 < how
 ·rw [if_pos hh] at h
  obtain ⟨rfl, rfl⟩ : [] = r1 ∧ 1 = r2 := by simpa using h
  obtain ⟨n, hn⟩ : ∃ n, n = l0.length := ⟨_, rfl⟩;rw [← hn]
  clear h hTb hr0 hc0 HT HR0 HC0 hn;by_cases h1 : how < 1
  ·have hh1 : decide (how < 1) = true := decide_eq_true h1;clear h1 hh;go_enter Tryd.func30, Tryd.ntmps30
   go_wp2_with ((with_reducible refine gate_dst (N := 2) rfl ?_); refine box_event ?hg (N := 2) ?hd (cs := #[.slice A0 n c0]) (t := 29) ?hr ?_; (case hd => rfl); (case hg => rfl); (case hr => first | (go_simp; done) | (go_simp; rfl)); intro gb hgb w1 hbox hb; have HB1 := Aside0.mk hb; have hcg : w1.cell? ⟨gb, 0, none⟩ = some (.slice A0 n c0) := (blk_cell hbox 0).trans rfl; clear hgb hbox hb)
   go_ret2
   exact ⟨_, rfl, Kd.R_nil _ _ _ _ _, HB1.out⟩
  ·have hh1 : decide (how < 1) = false := decide_eq_false h1;have hh3 : decide (3 < how) = true := decide_eq_true (by omega);clear h1 hh;go_enter Tryd.func30, Tryd.ntmps30
   go_wp2_with ((with_reducible refine gate_dst (N := 2) rfl ?_); refine box_event ?hg (N := 2) ?hd (cs := #[.slice A0 n c0]) (t := 29) ?hr ?_; (case hd => rfl); (case hg => rfl); (case hr => first | (go_simp; done) | (go_simp; rfl)); intro gb hgb w1 hbox hb; have HB1 := Aside0.mk hb; have hcg : w1.cell? ⟨gb, 0, none⟩ = some (.slice A0 n c0) := (blk_cell hbox 0).trans rfl; clear hgb hbox hb)
   go_ret2
   exact ⟨_, rfl, Kd.R_nil _ _ _ _ _, HB1.out⟩
 ·rw [if_neg hh] at h
  have hh1 : decide (how < 1) = false := by simp; omega
  have hh3 : decide (3 < how) = false := by simp; omega
  cases hR : graph_Right.f k l0 with
  | none => rw [hR] at h; cases h
  | some b =>
   rw [hR, Option.bind_some] at h
   cases b with
   | false =>
    rw [if_pos rfl] at h
    obtain ⟨rfl, rfl⟩ : [] = r1 ∧ 0 = r2 := by simpa using h
    have HRC := Aside0.mk (fun (W : World) (hW : Below w.heap.size w W) => graph_Right.calls k A0 c0 l0 false W (tab_below HT.out hW) (Kd.C_below HR0.out hW) hc0 hR);obtain ⟨n, hn⟩ : ∃ n, n = l0.length := ⟨_, rfl⟩;rw [← hn] at HRC ⊢
    clear h hTb hr0 hc0 HT HR0 HC0 hn hR;go_enter Tryd.func30, Tryd.ntmps30
    go_wp2_with (first | ((with_reducible refine gate_dst (N := 2) rfl ?_); refine box_event ?hg (N := 2) ?hd (cs := #[.slice A0 n c0]) (t := 29) ?hr ?_; (case hd => rfl); (case hg => rfl); (case hr => first | (go_simp; done) | (go_simp; rfl)); intro gb hgb w1 hbox hb; have HB1 := Aside0.mk hb; have hcg : w1.cell? ⟨gb, 0, none⟩ = some (.slice A0 n c0) := (blk_cell hbox 0).trans rfl; clear hgb hbox hb) | (go_at_call 41; refine (HRC.out _ HB1.out).mono ?_; rintro e w2 ⟨rfl, hb⟩; have HB2 := Aside0.mk (below_then HB1.out HB1.out.size hb); clear hb hcg))
    go_ret2
    exact ⟨_, rfl, Kd.R_nil _ _ _ _ _, HB2.out⟩
   | true =>
    rw [if_neg (by decide)] at h
    by_cases hG : Good l0 ∧ l0.length ≤ 40
    ·rw [if_pos hG] at h
     have HG := Aside0.mk hG;have HE := Aside0.mk (Option.some.inj h);have HRI := Aside0.mk hR;clear h hTb hr0 hG hR;have HRC := Aside0.mk (fun (W : World) (hW : Below w.heap.size w W) => graph_Right.calls k A0 c0 l0 true W (tab_below HT.out hW) (Kd.C_below HR0.out hW) hc0 HRI.out);have HCC := Aside0.mk (fun (W : World) (hW : Below w.heap.size w W) => slices_Clone_uint64_uint64.calls A0 c0 l0 l0 W (Kd.C_below HR0.out hW) hc0 (by unfold slices_Clone_uint64_uint64.f; rw [if_pos (by have := HG.out.2; omega)]));obtain ⟨n, hn⟩ : ∃ n, n = l0.length := ⟨_, rfl⟩;rw [← hn] at HR0 HC0 hc0 HRC HCC ⊢
     have HN := Aside0.mk hn;have hn40 : n ≤ 40 := by rw [hn]; exact HG.out.2
     have hone : (1 * (2 : Int) ^ n) = ((2 ^ n : Nat) : Int) := by rw [Int.one_mul]; simp
     have hp1 : 1 ≤ 2 ^ n := Nat.one_le_two_pow;have hp2 := two_lt (show n < 64 by omega);obtain ⟨tn, htn⟩ : ∃ tn, tn = 2 ^ n := ⟨_, rfl⟩;rw [← htn] at hone hp1 hp2
     have hwn : IntKind.u64.wrap (tn : Int) = (tn : Int) := wrapU _ hp2;have hwa : IntKind.u64.wrap ((tn : Int) - 1) = ((tn - 1 : Nat) : Int) := by rw [IntKind.wrap_u64]; omega
     have HTN := Aside0.mk htn;clear hn htn;go_enter Tryd.func30, Tryd.ntmps30
     go_upto_region 5 with (first
      | ((with_reducible refine gate_dst (N := 2) rfl ?_); refine box_event ?hg (N := 2) ?hd (cs := #[.slice A0 n c0]) (t := 29) ?hr ?_; (case hd => rfl); (case hg => rfl); (case hr => first | (go_simp; done) | (go_simp; rfl)); intro gb hgb w1 hbox hb; have HGB := Aside0.mk hgb; have HBOX := Aside0.mk hbox; have HB1 := Aside0.mk hb; have hcg : w1.cell? ⟨gb, 0, none⟩ = some (.slice A0 n c0) := (blk_cell hbox 0).trans rfl; clear hgb hbox hb)
      | (go_at_call 41; refine (HRC.out _ HB1.out).mono ?_; rintro e w2 ⟨rfl, hb⟩; have HB2 := Aside0.mk (below_then HB1.out HB1.out.size hb); have HBOX2 := Aside0.mk ((hb.block gb (blk_lt HBOX.out)).trans HBOX.out); have hcg2 : w2.cell? ⟨gb, 0, none⟩ = some (.slice A0 n c0) := (blk_cell HBOX2.out 0).trans rfl; clear hb hcg))
     go_cut [6] (fun s6 wx => Laid w.heap.size gb w (.cells #[.slice A0 n c0] 29 (0, 0)) l0 ((tn - 1 : Nat) : Int) s6 wx)
     case first =>
      have HBX2 := Aside0.mk (blk_lt HBOX2.out);have hcg2a : ∀ o, (w2.drew.alloc o).cell? ⟨gb, 0, none⟩ = some (.slice A0 n c0) := fun o => (blk_cell (cs := #[.slice A0 n c0]) (t := 29) ((Below.heap_alloc w2.drew o gb HBX2.out).trans HBOX2.out) 0).trans rfl
      have hcg2b : ∀ o, (w2.alloc o).cell? ⟨gb, 0, none⟩ = some (.slice A0 n c0) := fun o => (blk_cell (cs := #[.slice A0 n c0]) (t := 29) ((Below.heap_alloc w2 o gb HBX2.out).trans HBOX2.out) 0).trans rfl
      have hA2 : ∀ (W : World) (x : Value) (t : TypeId) (o : Obj), ((W.alloc (.cells #[x] t)).alloc o).cell? ⟨W.heap.size, 0, none⟩ = some x ∧ ((W.alloc (.cells #[x] t)).alloc o).frozen? ⟨W.heap.size, 0, none⟩ = false := fun W x t o =>
       have h := (Below.heap_alloc (W.alloc (.cells #[x] t)) o W.heap.size (by simp)).trans (blk_new W (.cells #[x] t));⟨(blk_cell (cs := #[x]) (t := t) h 0).trans rfl, blk_frozen (cs := #[x]) (t := t) h 0⟩
      have hA2c := fun W x t o => (hA2 W x t o).1
      have hA2f := fun W x t o => (hA2 W x t o).2
      clear hA2;go_region_with (first | (go_at_call 33; refine (HCC.out _ ?hbel).mono ?_; (case hbel => first | exact below_drew HB2.out | exact below_alloc (below_drew HB2.out) _ | exact below_drew (below_alloc HB2.out _)); rintro e w3 ⟨v3, rfl, ho, hb⟩; obtain ⟨A3, c3, rfl⟩ := Kd.R_slice ho; have hbox3 := (hb.block gb (by first | exact HBX2.out | exact Nat.lt_of_lt_of_le HBX2.out (by simp))).trans (show _ = some (Obj.cells #[.slice A0 n c0] 29 (0, 0)) by first | exact HBOX2.out | exact (Below.heap_alloc _ _ gb HBX2.out).trans HBOX2.out); have hcg3 : w3.cell? ⟨gb, 0, none⟩ = some (.slice A0 n c0) := (blk_cell hbox3 0).trans rfl; have hcg3a : ∀ o, (w3.alloc o).cell? ⟨gb, 0, none⟩ = some (.slice A0 n c0) := fun o => (blk_cell (cs := #[.slice A0 n c0]) (t := 29) ((Below.heap_alloc w3 o gb (blk_lt hbox3)).trans hbox3) 0).trans rfl; (try (have hpp := (hb.block w2.heap.size (by simp)).trans (blk_new w2.drew (.cells #[.pointer none] 72)); have hp3c : w3.cell? ⟨w2.heap.size, 0, none⟩ = some (.pointer none) := (blk_cell hpp 0).trans rfl; have hp3f := blk_frozen hpp 0; have hp3d : ∀ o, (w3.alloc o).cell? ⟨w2.heap.size, 0, none⟩ = some (.pointer none) := fun o => (blk_cell ((Below.heap_alloc w3 o _ (blk_lt hpp)).trans hpp) 0).trans rfl; have hp3e : ∀ o, (w3.alloc o).frozen? ⟨w2.heap.size, 0, none⟩ = false := fun o => blk_frozen ((Below.heap_alloc w3 o _ (blk_lt hpp)).trans hpp) 0; have HPP := Aside0.mk hpp; clear hpp)); have hs2 := HB2.out.size; have HBW3 := Aside0.mk (show Below w.heap.size w w3 by first | exact below_then (below_drew HB2.out) hs2 hb | exact below_then (below_drew (below_alloc HB2.out _)) (by simp; omega) hb | exact below_then (below_alloc (below_drew HB2.out) _) (by simp; omega) hb); have HO3 := Aside0.mk (Kd.R_lower ho (show w.heap.size ≤ _ by first | exact hs2 | (simp; omega))); have HBOX3 := Aside0.mk hbox3; clear ho hb hbox3 hs2))
      all_goals (go_wp2_with fail; go_meet; have hs3 := HBW3.out.size; first
       | exact laid_a HBW3.out (Nat.le_refl _) hs3 HO3.out HBOX3.out HG.out.1
       | exact laid_b HBW3.out (Nat.le_refl _) hs3 HO3.out HBOX3.out HG.out.1
       | exact laid_c HBW3.out hs3 HO3.out HBOX3.out HG.out.1 HPP.out HB2.out.size (blk_ne HBOX3.out HPP.out (by decide)))
     case rest =>
      obtain ⟨pb, bp, v3, rfl, HPB, HBD, HBG, HBW, HLE⟩ := hcut;have hcp : wc.cell? ⟨pb, 0, none⟩ = some (.pointer (some ⟨bp, 0, none⟩)) := (blk_cell HPB.out 0).trans rfl;have hcb : wc.cell? ⟨bp, 1, none⟩ = some (.int .u64 ((tn - 1 : Nat) : Int)) := (blk_cell HBD.out.obj 1).trans rfl;obtain ⟨ix, wv, hwf, hw1, hw2, hw3⟩ := worthsMap_find bp gb wc.heap.size pb how (by omega) (by omega);have HWF := Aside0.mk hwf;have HWV := Aside0.mk (And.intro hw1 (And.intro hw2 hw3));clear hwf hw1 hw2 hw3;go_wp2_with (first | ((with_reducible refine gate_dst (N := 34) rfl ?_); refine make_event rfl rfl ?_; intro w5 hw5; have e1 : (wc.alloc (.cells #[.int .u64 ((tn - 1 : Nat) : Int)] 61)).heap.size = wc.heap.size + 1 := (by simp); have k5 : ∀ i ob, wc.heap[i]? = some ob → w5.heap[i]? = some ob := (fun i ob h => by rw [hw5]; exact (Below.heap_alloc _ _ i (by rw [e1]; have := blk_lt h; omega)).trans ((Below.heap_alloc wc _ i (blk_lt h)).trans h)); have HM5 := Aside0.mk (show w5.heap[wc.heap.size + 1]? = some (.map #[] 0) by rw [hw5, ← e1]; exact blk_new _ _); have HA5 := Aside0.mk (show w5.heap[wc.heap.size]? = some (.cells #[.int .u64 ((tn - 1 : Nat) : Int)] 61 (0, 0)) by rw [hw5]; exact (Below.heap_alloc _ _ _ (by rw [e1]; omega)).trans (blk_new wc _)); have hcp5 : w5.cell? ⟨pb, 0, none⟩ = some (.pointer (some ⟨bp, 0, none⟩)) := (blk_cell (k5 _ _ HPB.out) 0).trans rfl; have HK5 := Aside0.mk k5; have HW5 := Aside0.mk hw5; clear hw5 k5 e1) | (refine insert_put rfl rfl rfl (m := wc.heap.size + 1) (x := 1) rfl rfl rfl Tryd.underlying77 Tryd.underlying3 HM5.out rfl ?_; intro w6 hm6 k6 b6; have HM6 := Aside0.mk hm6; have HA6 := Aside0.mk (k6 _ _ (by omega) HA5.out); have HK6 := Aside0.mk (fun i ob hi hh => k6 i ob (by have := blk_lt hh; omega) (HK5.out i ob hh) : ∀ i ob, i ≠ wc.heap.size + 1 → wc.heap[i]? = some ob → w6.heap[i]? = some ob); have HB6 := Aside0.mk b6; have hcp6 : w6.cell? ⟨pb, 0, none⟩ = some (.pointer (some ⟨bp, 0, none⟩)) := (blk_cell (HK6.out _ _ (by have := blk_lt HPB.out; omega) HPB.out) 0).trans rfl; clear hm6 k6 b6) | (refine insert_put rfl rfl rfl (m := wc.heap.size + 1) (x := 2) rfl rfl rfl Tryd.underlying77 Tryd.underlying3 HM6.out rfl ?_; intro w7 hm7 k7 b7; have HM7 := Aside0.mk hm7; have HA7 := Aside0.mk (k7 _ _ (by omega) HA6.out); have HK7 := Aside0.mk (fun i ob hi hh => k7 i ob (by have := blk_lt hh; omega) (HK6.out i ob hi hh) : ∀ i ob, i ≠ wc.heap.size + 1 → wc.heap[i]? = some ob → w7.heap[i]? = some ob); have HB7 := Aside0.mk b7; have hcp7 : w7.cell? ⟨pb, 0, none⟩ = some (.pointer (some ⟨bp, 0, none⟩)) := (blk_cell (HK7.out _ _ (by have := blk_lt HPB.out; omega) HPB.out) 0).trans rfl; clear hm7 k7 b7) | (refine insert_put rfl rfl rfl (m := wc.heap.size + 1) (x := 3) rfl rfl rfl Tryd.underlying77 Tryd.underlying3 HM7.out rfl ?_; intro w8 hm8 k8 b8; have HM8 := Aside0.mk hm8; have HA8 := Aside0.mk (k8 _ _ (by omega) HA7.out); have HK8 := Aside0.mk (fun i ob hi hh => k8 i ob (by have := blk_lt hh; omega) (HK7.out i ob hi hh) : ∀ i ob, i ≠ wc.heap.size + 1 → wc.heap[i]? = some ob → w8.heap[i]? = some ob); have HB8 := Aside0.mk b8; have hcp8 : w8.cell? ⟨pb, 0, none⟩ = some (.pointer (some ⟨bp, 0, none⟩)) := (blk_cell (HK8.out _ _ (by have := blk_lt HPB.out; omega) HPB.out) 0).trans rfl; clear hm8 k8 b8) | (refine lookup_get rfl rfl (m := wc.heap.size + 1) (x := how) rfl rfl Tryd.underlying77 Tryd.underlying3 HM8.out HWF.out ?_))
      have hbelow : Below w.heap.size w w8 := HB8.out _ _ (by have := HBW.out.size; omega) (HB7.out _ _ (by have := HBW.out.size; omega) (HB6.out _ _ (by have := HBW.out.size; omega) (by rw [HW5.out]; exact below_alloc (below_alloc HBW.out _) _)))
      have HO8 := Aside0.mk (show OfW w pb bp gb wc.heap.size v3 A0 n c0 (tn - 1) l0 (tn - 1) (.slice none 0 0) [] w8 from
       ⟨⟨HK8.out _ _ (by have := blk_lt HBD.out.obj; omega) HBD.out.obj, Kd.R_step HBD.out.row (fun k _ hk => by
         obtain ⟨o, ho⟩ : ∃ o, wc.heap[k]? = some o := ⟨_, Array.getElem?_eq_getElem hk⟩;rw [ho]; exact HK8.out k o (by omega) ho), HBD.out.all, HBD.out.ins⟩, HK8.out _ _ (by have := blk_lt HPB.out; omega) HPB.out, HK8.out _ _ (by have := blk_lt HBG.out; omega) HBG.out, HA8.out, hbelow, Kd.R_nil _ _ _ _ _, HLE.out.1, fun e => by
        have := Kd.R_lt HBD.out.row _ e; omega, HN.out.symm, by have := HTN.out; omega, fun j hj => by
        rw [HTN.out, Nat.testBit_two_pow_sub_one] at hj; simpa using hj⟩)
      have HR1 := Aside0.mk (show (if how = 3 then (ofRun how l0 (tn - 1) 64 l0 (tn - 1) []).reverse else ofRun how l0 (tn - 1) 64 l0 (tn - 1) []) = r1 ∧ 0 = r2 by have h := HE.out; rw [← HN.out, ← HTN.out] at h; simpa using h);obtain ⟨ab, hab⟩ : ∃ ab, ab = wc.heap.size := ⟨_, rfl⟩;rw [← hab] at HO8 HWV
      have HTN1 := Aside0.mk (show tn - 1 < 18446744073709551616 by omega);clear hcp hcb hbelow HM5 HM6 HM7 HM8 HA5 HA6 HA7 HA8 HK5 HK6 HK7 HK8 HB6 HB7 HB8 hcp5 hcp6 hcp7 hcp8 HW5 HWF HPB HBD HBG HBW HLE hab HB1 HBOX HB2 HBOX2 hcg2 HRC HCC hone hwn hwa hp1 hp2 HRI;go_loopg [9, 10] 64 (fun gg s9 s10 wr => ∃ (l : List Int) (L : Nat) (out : List Int), Aside0 (OfW w pb bp gb ab v3 A0 n c0 (tn - 1) l L s9 out wr) ∧ Aside0 ((listN L).length ≤ gg) ∧ Aside0 (out.length + (listN L).length ≤ 64) ∧ Aside0 (ofRun how l0 (tn - 1) gg l L out = ofRun how l0 (tn - 1) 64 l0 (tn - 1) []))
      case atStart => exact ⟨l0, tn - 1, [], HO8, ⟨listN_len _⟩, ⟨by simpa using listN_len _⟩, ⟨rfl⟩⟩
      case round =>
       obtain ⟨l, L, out, HO, HG2, HLN, HF⟩ := hrel;obtain ⟨hcp, hcb, hfb⟩ := HO.out.cells;by_cases hL : L = 0
       ·subst hL
        have hfo : out = ofRun how l0 (tn - 1) 64 l0 (tn - 1) [] := by
         rw [← HF.out]
         cases gk with
         | zero => rfl
         | succ g => rw [ofRun, if_pos rfl]
        have hol := HLN.out;have HR2 := HR1.out;rw [← hfo] at HR2
        obtain ⟨hr1, hr2⟩ := HR2;by_cases h3 : how = 3
        ·have hb3 : (how == (3 : Int)) = true := beq_iff_eq.mpr h3;rw [if_pos h3] at hr1
         have HR3 := Aside0.mk (And.intro hr1 hr2);have HRV := Aside0.mk (slices_Reverse_int_int.calls (out.length + 1) (fun _ => True) u9 out out.reverse w wr HO.out.bel HO.out.row (rev_f out (by omega)));clear hr1 hr2 hfo h3 hfb hol;go_wp2_with (go_at_call 48; refine HRV.out.mono ?_; rintro e w9 ⟨rfl, hr, hb, -⟩; have HR9 := Aside0.mk hr; have HB9 := Aside0.mk hb; clear hr hb)
         go_ret2
         rw [← HR3.out.2, ← HR3.out.1]
         exact ⟨_, rfl, Kd.R_mono HR9.out (fun _ _ => trivial), HB9.out⟩
        ·have hb3 : (how == (3 : Int)) = false := beq_eq_false_iff_ne.mpr h3;rw [if_neg h3] at hr1
         have HR3 := Aside0.mk (And.intro hr1 hr2);clear hr1 hr2 hfo h3 hfb hol;go_wp2
         go_ret2
         rw [← HR3.out.2, ← HR3.out.1]
         exact ⟨_, rfl, HO.out.row, HO.out.bel⟩
       ·have hm := leastF_in (worthF how l0 (tn - 1) l L) (listN L) (fun x hx => mem_listN_nn hx) (fun e => hL (listN_nil HO.out.gw.1 e));have hgl : 0 < (listN L).length := List.length_pos_iff.2 (fun e => by rw [e] at hm; cases hm);obtain ⟨x, hx, hx64, hxb⟩ := mem_listN.1 hm;have hxn : x < n := HO.out.gw.2 x hxb;rw [hx] at hm
        have hcl := clear_one HO.out.gw.1 hm;obtain ⟨g2, rfl⟩ : ∃ g2, gk = g2 + 1 := ⟨gk - 1, by have := HG2.out; omega⟩
        have HF2 := Aside0.mk (show ofRun how l0 (tn - 1) g2 (if how = 3 then l else goRows l x) (anl L (2 ^ x)) (out ++ [(x : Int)]) = ofRun how l0 (tn - 1) 64 l0 (tn - 1) [] by
         rw [← HF.out, ofRun, if_neg hL]; simp only [hx, Int.toNat_natCast])
        have HG3 := Aside0.mk (show (listN (anl L (2 ^ x))).length ≤ g2 by have := HG2.out; omega);have HLN3 := Aside0.mk (show (out ++ [(x : Int)]).length + (listN (anl L (2 ^ x))).length ≤ 64 by have := HLN.out; rw [List.length_append]; simp only [List.length_cons, List.length_nil]; omega);have HOL := Aside0.mk (show out.length ≤ 64 by have := HLN.out; omega);have hlst := least_any how (by omega) (by omega) pb bp gb ab n c0 (tn - 1) L v3 u9 A0 l0 l out w wr (tab_below HT.out HO.out.bel) HO.out (Kd.C_below HR0.out HO.out.bel) (good_all HG.out.1).1 HTN1.out HN.out.symm wv HWV.out.1 HWV.out.2.1 HWV.out.2.2;rw [hx] at hlst
        have HLST := Aside0.mk hlst;have hne : ((L : Int) != 0) = true := by simp; omega
        have HX := Aside0.mk (And.intro hxn hm);have HBT := Aside0.mk hxb;clear hlst hm hgl hx hcl hfb hxb;have hxl : x < 64 := hx64;have hsx : (1 * (2 : Int) ^ x) = ((2 ^ x : Nat) : Int) := by rw [Int.one_mul]; simp
        have hlx := two_lt hxl;have HGW := Aside0.mk (GoodW_anl HO.out.gw (2 ^ x));obtain ⟨sx, hsxe⟩ : ∃ sx, sx = 2 ^ x := ⟨_, rfl⟩;rw [← hsxe] at hsx hlx HGW HG3 HLN3 HF2
        have HSX := Aside0.mk hsxe;have hwx : IntKind.u64.wrap (sx : Int) = (sx : Int) := wrapU _ hlx;have han := anl_eq L sx HO.out.gw.1 hlx;clear hsxe;by_cases h3 : how = 3
        ·have hb3 : (how == (3 : Int)) = true := beq_iff_eq.mpr h3;rw [if_pos h3] at HF2
         clear h3;go_wp2_with (first | (go_at_call 46; refine HLST.out.mono ?_; rintro e w3 ⟨rfl, hd⟩; have HO3 := Aside0.mk (HO.out.below hd.below); clear hd) | (at_builtin; refine Kd.R_append (Kd.int .i64) (w0 := w) w.heap.size rfl (.tmp 51) (.tmp 53) 23 3 (.int .i64 0) 8 rfl Tryd.underlying23 info3 rfl (by decide) (by omega) _ out (x : Int) [.int .i64 (x : Int)] (fun _ => True) (fun _ => False) rfl rfl rfl (fun _ hk => hk.elim) (fun _ _ => trivial) HO3.out.row HO3.out.bel HO3.out.size (by have h1 := HOL.out; omega) ?_; intro v1 w4 ho hb hg hat; have HO4 := Aside0.mk (HO3.out.app ho hb hg); obtain ⟨hcp4, hcb4, hfb4⟩ := HO4.out.cells; clear ho hb hg hat))
         go_region
         have HO5 := Aside0.mk ((HO4.out.left (anl L sx) HGW.out).below (below_drew (Below.refl _ _)));obtain ⟨w5, hw5⟩ : ∃ w5, w5 = (w4.setCell ⟨bp, 1, none⟩ (.int .u64 ((anl L sx : Nat) : Int))).drew := ⟨_, rfl⟩;rw [← hw5] at HO5 ⊢
         clear hw5 hcp4 hcb4 hfb4;go_wp2
         go_roundg g2
         case measure => omega
         case rel => exact ⟨l, anl L sx, out ++ [(x : Int)], HO5, HG3, HLN3, HF2⟩
        ·have hb3 : (how == (3 : Int)) = false := beq_eq_false_iff_ne.mpr h3;rw [if_neg h3] at HF2
         clear h3;obtain ⟨g, c, hv3, -⟩ := Kd.R_form HO.out.bd.row (by rw [HO.out.len]; omega);have HV3 := Aside0.mk hv3;have HGO := Aside0.mk (fun (W : World) (out2 : List Int) (s2 : Value) (hO : OfW w pb bp gb ab v3 A0 n c0 (tn - 1) l L s2 out2 W) => goes_walk bp g l.length c w l L W HT.out hO.bel hO.lo (hv3 ▸ hO.bd) hO.gw.1 x (by rw [hO.len]; exact hxn) (by rw [hO.len]; omega));clear hv3;go_wp2_with (first | (go_at_call 46; refine HLST.out.mono ?_; rintro e w3 ⟨rfl, hd⟩; have HO3 := Aside0.mk (HO.out.below hd.below); clear hd) | (at_builtin; refine Kd.R_append (Kd.int .i64) (w0 := w) w.heap.size rfl (.tmp 51) (.tmp 53) 23 3 (.int .i64 0) 8 rfl Tryd.underlying23 info3 rfl (by decide) (by omega) _ out (x : Int) [.int .i64 (x : Int)] (fun _ => True) (fun _ => False) rfl rfl rfl (fun _ hk => hk.elim) (fun _ _ => trivial) HO3.out.row HO3.out.bel HO3.out.size (by have h1 := HOL.out; omega) ?_; intro v1 w4 ho hb hg hat; have HO4 := Aside0.mk (HO3.out.app ho hb hg); obtain ⟨hcp4, hcb4, hfb4⟩ := HO4.out.cells; clear ho hb hg hat) | (go_at_call 47; refine (HGO.out _ _ _ HO4.out).mono ?_; rintro e w5 ⟨rfl, hb, hw, hk, hz⟩; have HO5 := Aside0.mk (HO4.out.went HV3.out (HV3.out ▸ hb) hw hk (by rw [goRows_len]; exact HO4.out.len) (by have := HGW.out; rw [HSX.out] at this; exact this)); clear hb hw hk hz))
         rw [← HSX.out] at HO5
         go_roundg g2
         case measure => omega
         case rel => exact ⟨goRows l x, anl L sx, out ++ [(x : Int)], HO5, HG3, HLN3, HF2⟩
    ·rw [if_neg hG] at h; cases h
end Go.Proofs.YtopjffgmpphdbaaDoor.Pr
