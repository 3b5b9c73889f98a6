-- Printed by a program of this session's own (wip/tools/pp.py) over the kit's print.py; Lean checks it.
import Derived.RangeFuncRecord
import Derived.MapKept
import Derived.Deep.QuietTactic
import Derived.BigRegion
import Derived.BigQuiet
import Derived.Test.YtbdlelojlnhhfaaDoorPr0
import Derived.Test.YtbdlelojlnhhfaaDoorPr1
import Derived.Test.YtbdlelojlnhhfaaDoorPr11
import Derived.Test.YtbdlelojlnhhfaaDoorPr12
import Derived.Test.YtbdlelojlnhhfaaDoorPr15
namespace Go.Proofs.YtbdlelojlnhhfaaDoor.Pr
open Go.RowKit Go.Proofs.YtbdlelojlnhhfaaDoorW.PrintWords Go.Proofs.YtbdlelojlnhhfaaDoorW.PrintLast Go.Proofs.YtbdlelojlnhhfaaDoorW.PrintMore
attribute [local go_sem] max2_int min2_int max_two min_two max_three min_three max_four min_four
set_option linter.unusedVariables false
set_option linter.unusedSimpArgs false
/-! ### fill_all: function 41 -/
def GoneM (W : World) (tb m : Nat) (vs : List Int) : Prop := W.heap[tb]? = some (.cells #[.map (some m)] 77 (0, 0)) ∧ ∃ (es : Array MapEntry) (clock : Nat), W.heap[m]? = some (.map es clock) ∧ es.toList.map (fun e => (e.key, e.val)) = vs.map (fun v => (Value.int .i64 v, Value.bool true))
theorem gone_find (x : Int) : ∀ (es : List MapEntry) (vs : List Int) (i : Nat), es.map (fun e => (e.key, e.val)) = vs.map (fun v => (Value.int .i64 v, Value.bool true)) →
  (x ∉ vs → Instr.findNow (.int .i64) (.int .i64 x) es i = some none) ∧ (x ∈ vs → ∃ j, Instr.findNow (.int .i64) (.int .i64 x) es i = some (some (j, .bool true)))
 | [], vs, i, h => by
  have : vs = [] := by simpa using h.symm
  subst this;exact ⟨fun _ => rfl, fun h => by cases h⟩
 | e :: es, [], i, h => by simp at h
 | e :: es, v :: vs, i, h => by
  rw [List.map_cons, List.map_cons] at h
  obtain ⟨h1, h2⟩ := List.cons.inj h;obtain ⟨hk, hv⟩ := Prod.mk.inj h1;obtain ⟨i1, i2⟩ := gone_find x es vs (i + 1) h2;have es1 : Instr.sameNow (.int .i64) (.int .i64 x) e.key = some (x == v) := by rw [hk]; simp [Instr.sameNow]
  by_cases c : x = v
  ·subst c;exact ⟨fun hn => absurd List.mem_cons_self hn, fun _ => ⟨i, by simp [Instr.findNow, es1, hv]⟩⟩
  ·have hb : (x == v) = false := by simpa using c
   rw [hb] at es1
   refine ⟨fun hn => ?_, fun hx => ?_⟩
   ·simp only [Instr.findNow, es1]
    exact i1 (fun hx => hn (List.mem_cons_of_mem _ hx))
   ·simp only [Instr.findNow, es1]
    exact i2 ((List.mem_cons.1 hx).resolve_left c)
theorem gone_get {P : Program} {W : World} {m : Nat} {es : Array MapEntry} {clock : Nat} {mt kt et : TypeId} (hm : P.underlying mt = some (.map kt et)) (hk : P.underlying kt = some (.int .i64)) (hz : ∀ w, (zeroValue et).run P w = .ok (.bool false) w) (hb : W.heap[m]? = some (.map es clock)) {vs : List Int}
  (he : es.toList.map (fun e => (e.key, e.val)) = vs.map (fun v => (Value.int .i64 v, Value.bool true))) (x : Int) : (Instr.lookup mt (.map (some m)) (.int .i64 x) false).run P W = .ok (.bool (decide (x ∈ vs))) W := by
 obtain ⟨h1, h2⟩ := gone_find x es.toList vs 0 he;by_cases c : x ∈ vs
 ·obtain ⟨j, hj⟩ := h2 c;simp [Instr.lookup, run_underlying hm, Result.andThen, Go.MapKept.run_getObj_map hb, Go.MapKept.run_checkKey hk (k := .int .i64 x) (by simp [Go.MapKept.IsKey]), Go.MapKept.run_findKey hk hj, c]
 ·simp [Instr.lookup, run_underlying hm, Result.andThen, Go.MapKept.run_getObj_map hb, Go.MapKept.run_checkKey hk (k := .int .i64 x) (by simp [Go.MapKept.IsKey]), Go.MapKept.run_findKey hk (h1 c), hz, c]
theorem gmap_put {P : Program} {W : World} {m : Nat} {es : Array MapEntry} {clock : Nat} {mt kt et : TypeId} (hm : P.underlying mt = some (.map kt et)) (hk : P.underlying kt = some (.int .i64)) (hb : W.heap[m]? = some (.map es clock)) {vs : List Int}
  (he : es.toList.map (fun e => (e.key, e.val)) = vs.map (fun v => (Value.int .i64 v, Value.bool true))) (x : Int) (hx : x ∉ vs) : (Instr.mapUpdate mt (.map (some m)) (.int .i64 x) (.bool true)).run P W = .ok () { W with heap := W.heap.setIfInBounds m (.map (es.push { key := .int .i64 x, val := .bool true, born := clock }) (clock + 1)) } := by
 have hf := (gone_find x es.toList vs 0 he).1 hx;simp [Instr.mapUpdate, run_underlying hm, Result.andThen, Go.MapKept.run_getObj_map hb, Go.MapKept.run_checkKey hk (k := .int .i64 x) (by simp [Go.MapKept.IsKey]), Go.MapKept.run_findKey hk hf, Go.MapKept.run_setObj_map _ hb]
theorem glookup_event {P : Program} {ops : Array Oper} {rest : List Oper} {o : Oper} {a : Act} {Q : Exit → Act → World → Prop} {W : World} (hgd : o.guard = none) {t : TypeId} {p k : Operand} (ho : o.op = .lookup t p k false)
  {mv kv val : Value} (hp : a.eval p = mv) (hk : a.eval k = kv) (hr : (Instr.lookup t mv kv false).run P W = .ok val W) (h : wpList P ops Q rest (a.put o.dst val) W) : wpList P ops Q (o :: rest) a W := by
 have hrun : (execOp a.eval o).run P W = .ok (.value val) W := by simp [execOp, ho, hp, hk, hr, Result.andThen]
 refine wpList_plain hgd fun K hK => ?_
 unfold Oper.wp
 rw [hrun]
 exact hK _ _ h
theorem gupdate_event {P : Program} {ops : Array Oper} {rest : List Oper} {o : Oper} {a : Act} {Q : Exit → Act → World → Prop} {W w1 : World} (hgd : o.guard = none) {t : TypeId} {p k v : Operand} (ho : o.op = .mapUpdate t p k v) (hN : o.dst = none)
  {mv kv vv : Value} (hp : a.eval p = mv) (hk : a.eval k = kv) (hv : a.eval v = vv) (hr : (Instr.mapUpdate t mv kv vv).run P W = .ok () w1) (h : wpList P ops Q rest a w1) : wpList P ops Q (o :: rest) a W := by
 have hrun : (execOp a.eval o).run P W = .ok .skip w1 := by simp [execOp, ho, hp, hk, hv, hr, Result.andThen]
 refine wpList_plain hgd fun K hK => ?_
 unfold Oper.wp
 rw [hrun]
 show K (a.put o.dst undef) w1
 rw [hN]
 exact hK _ _ h
theorem gmake_event {P : Program} {ops : Array Oper} {rest : List Oper} {o : Oper} {a : Act} {Q : Exit → Act → World → Prop} {W : World} (hgd : o.guard = none) {t : TypeId} (ho : o.op = .makeMap t none)
  (h : ∀ w1, w1 = W.alloc (.map #[] 0) → wpList P ops Q rest (a.put o.dst (.map (some W.heap.size))) w1) : wpList P ops Q (o :: rest) a W := by
 have hrun : (execOp a.eval o).run P W = .ok (.value (.map (some W.heap.size))) (W.alloc (.map #[] 0)) := by simp [execOp, ho, Instr.makeMap, Result.andThen]
 refine wpList_plain hgd fun K hK => ?_
 unfold Oper.wp
 rw [hrun]
 exact hK _ _ (h _ rfl)
theorem gone_zero (w : World) : (zeroValue 4).run Tryd.prog w = .ok (.bool false) w := Tryd.zeroValue4 w
set_option maxRecDepth 100000 in
theorem gone_walk (tb m : Nat) (vs : List Int) (W : World) (h : GoneM W tb m vs) (x : Int) : Calls Tryd.prog 51 #[.int .i64 x, .pointer (some ⟨tb, 0, none⟩)] W fun e w' => e = .returned (.bool (decide (x ∈ vs))) ∧ ∃ q, w' = W.drewN q := by
 obtain ⟨h1, es, clock, h2, h3⟩ := h;have hc : W.cell? ⟨tb, 0, none⟩ = some (.map (some m)) := (blk_cell h1 0).trans rfl;have HG := Aside0.mk (gone_get (P := Tryd.prog) Tryd.underlying77 Tryd.underlying3 gone_zero h2 h3 x);clear h1 h2 h3;obtain ⟨b, hb⟩ : ∃ b, b = decide (x ∈ vs) := ⟨_, rfl⟩;rw [← hb] at HG ⊢
 clear hb;go_enter Tryd.func51, Tryd.ntmps51
 go_wp2_with (refine glookup_event rfl rfl rfl rfl HG.out ?_)
 go_ret
 exact ⟨rfl, 0, rfl⟩
def GRow (w W : World) (A : Option Addr) (n c : Nat) (ws : List Int) : Prop := n = ws.length ∧ n ≤ c ∧ (Kd.C (Kd.int .u64) w A n ws ∨ Kd.R (Kd.int .u64) 54 W w.heap.size (fun _ => True) (.slice A n c) ws)
theorem GRow.reads {w W : World} {A : Option Addr} {n c : Nat} {ws : List Int} (h : GRow w W A n c ws) (hb : Below w.heap.size w W) : Kd.C (Kd.int .u64) W A n ws := by
 obtain ⟨rfl, hc, h | h⟩ := h
 ·exact Kd.C_below h hb
 ·exact (Kd.R_reads' h).2.2
structure FA (w : World) (gb rb tb m : Nat) (A : Option Addr) (n c : Nat) (ws vs : List Int) (s7 : Value) (bags : List (List Int)) (N : Nat) (W : World) : Prop where
 hG : W.heap[gb]? = some (.cells #[.slice A n c] 34 (0, 0))
 gr : GRow w W A n c ws
 gone : GoneM W tb m vs
 hR : W.heap[rb]? = some (.cells #[.slice none 0 0] 34 (0, 0))
 bel : Below w.heap.size w W
 bags : Kd.S (Kd.slice 3 (Kd.int .i64)) 23 W w.heap.size (fun k => k < N) s7 bags
 lo : w.heap.size ≤ gb ∧ w.heap.size ≤ rb ∧ w.heap.size ≤ m ∧ gb ≠ rb
 hi : w.heap.size ≤ N ∧ N ≤ W.heap.size
section
variable {w W w1 : World} {gb rb tb m n c N : Nat} {A : Option Addr} {ws vs : List Int} {s7 : Value} {bags : List (List Int)}
theorem FA.below (h : FA w gb rb tb m A n c ws vs s7 bags N W) (hb : Below W.heap.size W w1) : FA w gb rb tb m A n c ws vs s7 bags N w1 := by
 obtain ⟨g1, es, clock, g2, g3⟩ := h.gone;exact ⟨(hb.block _ (blk_lt h.hG)).trans h.hG, ⟨h.gr.1, h.gr.2.1, h.gr.2.2.imp id (fun x => Kd.R_below x hb)⟩, ⟨(hb.block _ (blk_lt g1)).trans g1, es, clock, (hb.block _ (blk_lt g2)).trans g2, g3⟩, (hb.block _ (blk_lt h.hR)).trans h.hR, below_then h.bel h.bel.size hb, Kd.S_below h.bags hb, h.lo, h.hi.1, Nat.le_trans h.hi.2 hb.size⟩
/-- a row of numbers of the call's own, younger than the bags, is written -/
theorem FA.grown (h : FA w gb rb tb m A n c ws vs s7 bags N W) {b : Nat} {ok : Nat → Prop} {v : Value} {xs : List Int} (hs : Kd.R (Kd.int .i64) 3 W b ok v xs) (hN : N ≤ b) (hg : W.grownBy w1 v.ownBlock) : FA w gb rb tb m A n c ws vs s7 bags N w1 := by
 obtain ⟨g1, es, clock, g2, g3⟩ := h.gone;have hwb : w.heap.size ≤ W.heap.size := h.bel.size
 have hm : some m ≠ v.ownBlock := fun e => by
  obtain ⟨cells, hc⟩ := Kd.R_typed hs m e.symm;rw [g2] at hc; cases hc
 refine ⟨blk_grown h.hG hg (Kd.R_ne hs h.hG (by decide)), ⟨h.gr.1, h.gr.2.1, h.gr.2.2.imp id (fun x => Kd.R_over' x (Kd.R_typed hs) (by decide) hg)⟩, ⟨blk_grown g1 hg (Kd.R_ne hs g1 (by decide)), es, clock, blk_grown g2 hg hm, g3⟩, blk_grown h.hR hg (Kd.R_ne hs h.hR (by decide)), ?_, Kd.S_grown h.bags hg (fun k hk e => by have := Kd.R_base hs k e.symm; omega), h.lo, h.hi.1, Nat.le_trans h.hi.2 hg.size⟩;exact h.bel.grown hg hwb (fun j hj => by have := Kd.R_base hs j hj; have := h.hi.1; omega)
/-- a bag is put behind the bags -/
theorem FA.app (h : FA w gb rb tb m A n c ws vs s7 bags N W) {v1 : Value} {bags1 : List (List Int)} (hb : Below w.heap.size w w1) (hS : Kd.S (Kd.slice 3 (Kd.int .i64)) 23 w1 w.heap.size (fun _ => True) v1 bags1) (hg : W.grownBy w1 s7.ownBlock) : FA w gb rb tb m A n c ws vs v1 bags1 w1.heap.size w1 := by
 obtain ⟨g1, es, clock, g2, g3⟩ := h.gone
 have hm : some m ≠ s7.ownBlock := fun e => by
  obtain ⟨cells, hc⟩ := Kd.S_typed h.bags m e.symm;rw [g2] at hc; cases hc
 exact ⟨blk_grown h.hG hg (Kd.S_ne h.bags h.hG (by decide)), ⟨h.gr.1, h.gr.2.1, h.gr.2.2.imp id (fun x => Kd.R_over' x (Kd.S_typed h.bags) (by decide) hg)⟩, ⟨blk_grown g1 hg (Kd.S_ne h.bags g1 (by decide)), es, clock, blk_grown g2 hg hm, g3⟩, blk_grown h.hR hg (Kd.S_ne h.bags h.hR (by decide)), hb, Kd.S_mono (Kd.S_bound hS) (fun k hk => hk.2.2.1), h.lo, hb.size, Nat.le_refl _⟩
/-- the graph's cell is stored anew -/
theorem FA.setG (h : FA w gb rb tb m A n c ws vs s7 bags N W) {A2 : Option Addr} {n2 c2 : Nat} {ws2 : List Int} (hr : Kd.R (Kd.int .u64) 54 W w.heap.size (fun _ => True) (.slice A2 n2 c2) ws2) : FA w gb rb tb m A2 n2 c2 ws2 vs s7 bags N (W.setCell ⟨gb, 0, none⟩ (.slice A2 n2 c2)) := by
 obtain ⟨g1, es, clock, g2, g3⟩ := h.gone;have ne : ∀ i o, W.heap[i]? = some o → i ≠ gb → (W.setCell ⟨gb, 0, none⟩ (.slice A2 n2 c2)).heap[i]? = some o := fun i o h1 h2 => (Below.heap_setCell W ⟨gb, 0, none⟩ _ i h2).trans h1
 have hm : m ≠ gb := fun e => by rw [e, h.hG] at g2; cases g2
 have hr3 := Kd.R_reads' hr;refine ⟨blk_put h.hG 0 _ rfl, ⟨hr3.1, hr3.2.1, .inr (Kd.R_set hr h.hG (by decide) _ _)⟩, ⟨ne _ _ g1 (blk_ne g1 h.hG (by decide)), es, clock, ne _ _ g2 hm, g3⟩, ne _ _ h.hR (Ne.symm h.lo.2.2.2), h.bel.setCell h.lo.1 _, Kd.S_set h.bags h.hG (by decide) _ _, h.lo, h.hi.1, ?_⟩;exact Nat.le_trans h.hi.2 ((Below.refl 0 W).setCell (Nat.zero_le _) _).size
/-- a point is gone -/
theorem FA.gone_put (h : FA w gb rb tb m A n c ws vs s7 bags N W) (x : Int) (hx : x ∉ vs) : ∃ w2, (Instr.mapUpdate 77 (.map (some m)) (.int .i64 x) (.bool true)).run Tryd.prog W = .ok () w2 ∧ FA w gb rb tb m A n c ws (vs ++ [x]) s7 bags N w2 ∧ w2.heap.size = W.heap.size ∧ ∀ k, k ≠ m → w2.heap[k]? = W.heap[k]? := by
 obtain ⟨g1, es, clock, g2, g3⟩ := h.gone;have hr := gmap_put (P := Tryd.prog) Tryd.underlying77 Tryd.underlying3 g2 g3 x hx;obtain ⟨o, ho⟩ : ∃ o : Obj, o = .map (es.push { key := .int .i64 x, val := .bool true, born := clock }) (clock + 1) := ⟨_, rfl⟩;rw [← ho] at hr
 have hlt : m < W.heap.size := blk_lt g2;have e : ∀ k, k ≠ m → (W.putObj m o).heap[k]? = W.heap[k]? := fun k hk => World.putObj_heap_other hk
 have hs : (W.putObj m o).heap.size = W.heap.size := by simp [World.putObj]
 have ne : ∀ k ob, W.heap[k]? = some ob → (∀ a b, ob ≠ Obj.map a b) → (W.putObj m o).heap[k]? = some ob := fun k ob h1 h2 => (e k (fun q => by rw [q, g2] at h1; exact h2 _ _ (Option.some.inj h1).symm)).trans h1
 refine ⟨W.putObj m o, hr, ⟨ne _ _ h.hG (fun _ _ q => by cases q), ⟨h.gr.1, h.gr.2.1, h.gr.2.2.imp id (fun y => ?_)⟩, ⟨ne _ _ g1 (fun _ _ q => by cases q), _, _, (World.putObj_heap_same hlt).trans (by rw [ho]), ?_⟩, ne _ _ h.hR (fun _ _ q => by cases q), ?_, ?_, h.lo, h.hi.1, by rw [hs]; exact h.hi.2⟩, hs, e⟩
 ·refine Kd.R_mono (Kd.R_step (Kd.R_bound y) (fun k hk _ => e k (fun q => ?_))) (fun _ hk => hk.1);obtain ⟨_, _, _, t, _, cells, hc⟩ := hk;rw [q, g2] at hc; cases hc
 ·simp [g3]
 ·exact ⟨h.bel.os, h.bel.tape, h.bel.output, by rw [hs]; exact h.bel.size, fun i hi => (e i (by have := h.lo; omega)).trans (h.bel.block i hi)⟩
 ·refine Kd.S_mono (Kd.S_step (Kd.S_bound h.bags) (fun k hk _ => e k (fun q => ?_))) (fun _ hk => hk.1);obtain ⟨_, _, _, t, _, cells, hc⟩ := hk;rw [q, g2] at hc; cases hc
end
theorem results_tct {P : Program} {fn : Func} {p u v : Tmp} {ty : TypeId} (h : fn.results = #[.tmp u, .cell p ty, .tmp v]) (tmps : Array Value) (w : World) (g : Nat) (t : TypeId) (cs : Array Value) (fr : Nat × Nat) (d : TypeDesc)
  (hp : tmps.getD p undef = .pointer (some ⟨g, 0, none⟩)) (hg : w.heap[g]? = some (.cells cs t fr))
  (hu : P.underlying ty = some d) (hd : (match d with | .struct _ | .array _ _ => true | _ => false) = true) (hi : (P.info? ty).map (·.size) = some cs.size) :
  (results fn tmps).run P w = .ok (.tuple #[tmps.getD u undef, .agg cs, tmps.getD v undef]) w := by
 have hp' : tmps[p]?.getD undef = .pointer (some ⟨g, 0, none⟩) := by simpa using hp
 simp [results, h, hp', asAddr, run_loadVar_row w g t ty cs fr d hg hu hd hi]
theorem fdrop_at (l : List Int) (i : Nat) (h : i < l.length) : l.drop i = rd l (i : Int) :: l.drop (i + 1) := by
 rw [List.drop_eq_getElem_cons h, rd_nat l i _ (List.getElem?_eq_getElem h)]
theorem ftake_at (l : List Int) (i : Nat) (h : i < l.length) : l.take (i + 1) = l.take i ++ [rd l (i : Int)] := by
 rw [List.take_succ_eq_append_getElem h, rd_nat l i _ (List.getElem?_eq_getElem h)]
theorem gone_below {W W1 : World} {tb m : Nat} {vs : List Int} (h : GoneM W tb m vs) (hb : Below W.heap.size W W1) : GoneM W1 tb m vs := by
 obtain ⟨g1, es, clock, g2, g3⟩ := h;exact ⟨(hb.block _ (blk_lt g1)).trans g1, es, clock, (hb.block _ (blk_lt g2)).trans g2, g3⟩
open Go.Sort in
/-- the points that are gone are taken out of a row -/
theorem gone_del (tb m : Nat) (vs : List Int) (base : Nat) (v : Value) (l : List Int) (W : World) (hG : GoneM W tb m vs) (hl : l.length ≤ 1000) (hR : Kd.R (Kd.int .i64) 3 W base (fun _ => True) v l) :
  Calls Tryd.prog 49 #[v, .func (.func 51) #[] #[.pointer (some ⟨tb, 0, none⟩)]] W fun e w' => ∃ v', e = .returned v' ∧ Kd.R (Kd.int .i64) 3 w' base (fun _ => True) v' (l.filter fun x => !decide (x ∈ vs)) ∧ W.grownBy w' v.ownBlock ∧ v'.ownBlock = v.ownBlock := by
 refine slices_DeleteFunc_int_int.callsD (fun x => decide (x ∈ vs)) 51 #[.pointer (some ⟨tb, 0, none⟩)] (fun _ _ => rfl) base v l W hl hR (fun W1 x hb => ?_) (fun blk hblk n os dk x _ => ?_)
 ·exact gone_walk tb m vs W1 (gone_below hG hb) x
 ·obtain ⟨g1, es, clock, g2, g3⟩ := hG;obtain ⟨cells, hc⟩ := Kd.R_typed hR blk hblk;have h1 : tb ≠ blk := blk_ne g1 hc (by decide);have h2 : m ≠ blk := fun e => by rw [e, hc] at g2; cases g2
  have hk : ∀ k o, k ≠ blk → W.heap[k]? = some o → (sortWorld encZ W blk 0 n dk os).heap[k]? = some o := fun k o hne ho => by
   have hlt := blk_lt ho
   have e1 : (putRow encZ (Sort.ahead W n) blk 0 dk).heap[k]? = some o := by
    have : blk ≠ k := Ne.symm hne;simp [putRow, mapBlock, Sort.ahead, Array.getElem?_modify, this, ho]
   exact (Sort.heap_grow_old (putRow encZ (Sort.ahead W n) blk 0 dk) os (by simpa using hlt)).trans e1
  exact gone_walk tb m vs _ ⟨hk _ _ h1 g1, es, clock, hk _ _ h2 g2, g3⟩ x
theorem FA.done {w W : World} {gb rb tb m n c N : Nat} {A : Option Addr} {ws vs : List Int} {s7 : Value} {bags : List (List Int)} (h : FA w gb rb tb m A n c ws vs s7 bags N W) (u : Value) : Kd.S (Kd.slice 3 (Kd.int .i64)) 23 (W.setCell ⟨rb, 0, none⟩ u) w.heap.size (fun _ => True) s7 bags ∧ Kd.C (Kd.int .u64) (W.setCell ⟨rb, 0, none⟩ u) A n ws ∧ Below w.heap.size w (W.setCell ⟨rb, 0, none⟩ u) := by
 have hb := h.bel.setCell (p := ⟨rb, 0, none⟩) h.lo.2.1 u;refine ⟨Kd.S_mono (Kd.S_set h.bags h.hR (by decide) _ _) (fun _ _ => trivial), ?_, hb⟩;obtain ⟨e, hc, hx | hx⟩ := h.gr
 ·subst e; exact Kd.C_below hx hb
 ·subst e; exact (Kd.R_reads' (Kd.R_set hx h.hR (by decide) 0 u)).2.2
def joinIn (a : Int) : List Int → List Int → Option (List Int)
 | [], ws => some ws
 | b :: bs, ws => (graph_Join.f ws a b).bind fun w2 => joinIn a bs w2
def joinAll (bd : List Int) : Nat → Nat → List Int → Option (List Int)
 | 0, _, ws => some ws
 | d + 1, i, ws => (joinIn (rd bd (i : Int)) (bd.take i) ws).bind fun w2 => joinAll bd d (i + 1) w2
def allGo : List Int → List Int → List Int → List (List Int) → Option (List (List Int) × List Int)
 | [], ws, _, bags => some (bags, ws)
 | v :: l, ws, vs, bags => (graph_Neighbors.f ws v).bind fun nb =>
   if nb.length ≤ 1000 ∧ v ∉ vs ∧ bags.length < 100000 then (joinAll (nb.filter fun a => !decide (a ∈ vs)) (nb.filter fun a => !decide (a ∈ vs)).length 0 ws).bind fun w2 => allGo l w2 (vs ++ [v]) (bags ++ [SortedSeq.sortZ ((nb.filter fun a => !decide (a ∈ vs)) ++ [v])]) else none
def fill_all.f (ws l : List Int) : Option (List (List Int) × List Int × Int) := (order_Valid.f (ws.length : Int) l).bind fun t => if t = true then (allGo l ws [] []).bind fun r => some (r.1, r.2, 0) else some ([], [], 8)
set_option maxRecDepth 100000 in
set_option maxHeartbeats 8000000 in
theorem all_walk (A0 : Option Addr) (c0 : Nat) (l0 : List Int) (A1 : Option Addr) (c1 : Nat) (l1 : List Int) (r1 : List (List Int)) (r2 : List Int) (r3 : Int) (w : World) (hTb : Tab64 w) (hr0 : Kd.C (Kd.int .u64) w A0 l0.length l0) (hc0 : l0.length ≤ c0) (hr1 : Kd.C (Kd.int .i64) w A1 l1.length l1) (hc1 : l1.length ≤ c1) (h : fill_all.f l0 l1 = some (r1, r2, r3)) :
  Calls Tryd.prog 41 #[.agg #[.slice A0 l0.length c0], .slice A1 l1.length c1] w fun e w' => ∃ (v0_ : Value) (A : Option Addr) (n c : Nat), e = .returned (.tuple #[v0_, .agg #[.slice A n c], .int .i64 r3]) ∧ Kd.S (Kd.slice 3 (Kd.int .i64)) 23 w' w.heap.size (fun _ => True) v0_ r1 ∧ Kd.C (Kd.int .u64) w' A n r2 ∧ n = r2.length ∧ n ≤ c ∧ Below w.heap.size w w' := by
 unfold fill_all.f at h
 cases hv : order_Valid.f (l0.length : Int) l1 with
 | none => rw [hv] at h; cases h
 | some b =>
  rw [hv, Option.bind_some] at h
  have HT := Aside0.mk hTb;have HR0 := Aside0.mk hr0;have HR1 := Aside0.mk hr1;have HC0 := Aside0.mk hc0;have HC1 := Aside0.mk hc1;have HVC := Aside0.mk (fun (W : World) (hW : Below w.heap.size w W) => order_Valid.calls (l0.length : Int) A1 c1 l1 b W (Kd.C_below hr1 hW) hc1 hv);obtain ⟨n0, hn0⟩ : ∃ n, n = l0.length := ⟨_, rfl⟩;obtain ⟨n1, hn1⟩ : ∃ n, n = l1.length := ⟨_, rfl⟩;rw [← hn0, ← hn1] at HVC
  rw [← hn0] at HR0 HC0
  rw [← hn1] at HR1 HC1
  rw [← hn0, ← hn1]
  have HN0 := Aside0.mk hn0;have HN1 := Aside0.mk hn1;have hm1 := hr1.2.1;rw [← hn1] at hm1
  have HH := Aside0.mk h;clear hTb hr0 hr1 hc0 hc1 hv h hn0 hn1;cases b with
  | false =>
   have h := HH.out;rw [if_neg (by decide)] at h
   obtain ⟨rfl, rfl, rfl⟩ : [] = r1 ∧ [] = r2 ∧ 8 = r3 := by simpa using h
   clear h HH;go_enter Tryd.func41, Tryd.ntmps41
   go_wp2_with (first | ((with_reducible refine gate_dst (N := 2) rfl ?_); refine box_event ?hg (N := 2) ?hd (cs := #[.slice A0 n0 c0]) (t := 34) ?hr ?_; (case hd => rfl); (case hg => rfl); (case hr => first | (go_simp; done) | (go_simp; rfl)); intro gb hgb w1 hbox hb; have HGB := Aside0.mk hgb; have HBOX := Aside0.mk hbox; have HB1 := Aside0.mk hb; have hcga : ∀ o, (w1.alloc o).cell? ⟨gb, 0, none⟩ = some (.slice A0 n0 c0) := fun o => (blk_cell (cs := #[.slice A0 n0 c0]) (t := 34) ((Below.heap_alloc w1 o gb (blk_lt HBOX.out)).trans HBOX.out) 0).trans rfl; clear hgb hbox hb) | (go_at_call 48; refine (HVC.out _ (below_alloc HB1.out _)).mono ?_; rintro e w2 ⟨rfl, hb⟩; have HB2 := Aside0.mk (below_then (below_alloc HB1.out (.cells #[.slice none 0 0] 34)) (by have := HB1.out.size; simp; omega) hb); have hlt1 := blk_lt HBOX.out; have HBOX2 := Aside0.mk ((hb.block gb (by simp; omega)).trans ((Below.heap_alloc w1 _ gb hlt1).trans HBOX.out)); have HRB2 := Aside0.mk ((hb.block w1.heap.size (by simp)).trans (blk_new w1 (.cells #[.slice none 0 0] 34))); have HNE := Aside0.mk (show gb ≠ w1.heap.size by omega); have hcr2 : w2.cell? ⟨w1.heap.size, 0, none⟩ = some (.slice none 0 0) := (blk_cell HRB2.out 0).trans rfl; have hfr2 := blk_frozen HRB2.out 0; have HLO := Aside0.mk HB1.out.size; clear hb hcga hlt1))
   (try simp only [Exit.inBlock, Exit.then]); refine bodyPost_ret (results_tct rfl _ _ w1.heap.size 34 #[.slice none 0 0] (0, 0) _ rfl (blk_put HRB2.out 0 _ rfl) Tryd.underlying34 rfl (by kernel_rfl)) rfl ?_
   exact ⟨_, none, 0, 0, rfl, Kd.S_nil _ _ _ _ _, Kd.C_nil _ _, rfl, Nat.le_refl _, HB2.out.setCell HLO.out _⟩
  | true =>
   go_enter Tryd.func41, Tryd.ntmps41
   go_wp2_with (first | ((with_reducible refine gate_dst (N := 2) rfl ?_); refine box_event ?hg (N := 2) ?hd (cs := #[.slice A0 n0 c0]) (t := 34) ?hr ?_; (case hd => rfl); (case hg => rfl); (case hr => first | (go_simp; done) | (go_simp; rfl)); intro gb hgb w1 hbox hb; have HGB := Aside0.mk hgb; have HBOX := Aside0.mk hbox; have HB1 := Aside0.mk hb; have hcga : ∀ o, (w1.alloc o).cell? ⟨gb, 0, none⟩ = some (.slice A0 n0 c0) := fun o => (blk_cell (cs := #[.slice A0 n0 c0]) (t := 34) ((Below.heap_alloc w1 o gb (blk_lt HBOX.out)).trans HBOX.out) 0).trans rfl; clear hgb hbox hb) | (go_at_call 48; refine (HVC.out _ (below_alloc HB1.out _)).mono ?_; rintro e w2 ⟨rfl, hb⟩; have HB2 := Aside0.mk (below_then (below_alloc HB1.out (.cells #[.slice none 0 0] 34)) (by have := HB1.out.size; simp; omega) hb); have hlt1 := blk_lt HBOX.out; have HBOX2 := Aside0.mk ((hb.block gb (by simp; omega)).trans ((Below.heap_alloc w1 _ gb hlt1).trans HBOX.out)); have HRB2 := Aside0.mk ((hb.block w1.heap.size (by simp)).trans (blk_new w1 (.cells #[.slice none 0 0] 34))); have HNE := Aside0.mk (show gb ≠ w1.heap.size by omega); have hcr2 : w2.cell? ⟨w1.heap.size, 0, none⟩ = some (.slice none 0 0) := (blk_cell HRB2.out 0).trans rfl; have hfr2 := blk_frozen HRB2.out 0; have HLO := Aside0.mk HB1.out.size; clear hb hcga hlt1) | ((with_reducible refine gate_dst (N := 23) rfl ?_); refine gmake_event rfl rfl ?_; intro w3 hw3; have k3 : ∀ i ob, w2.heap[i]? = some ob → w3.heap[i]? = some ob := (fun i ob h => by rw [hw3]; exact (Below.heap_alloc w2 _ i (blk_lt h)).trans h); have HM3 := Aside0.mk (show w3.heap[w2.heap.size]? = some (.map #[] 0) by rw [hw3]; exact blk_new _ _); have HBOX3 := Aside0.mk (k3 _ _ HBOX2.out); have HRB3 := Aside0.mk (k3 _ _ HRB2.out); have HB3 := Aside0.mk (show Below w.heap.size w w3 by rw [hw3]; exact below_alloc HB2.out _); have HS3 := Aside0.mk (show w3.heap.size = w2.heap.size + 1 by rw [hw3]; simp); clear hw3 k3 hcr2 hfr2))
   have hh := HH.out;rw [if_pos trivial] at hh
   have HR3 := Aside0.mk (show allGo l1 l0 [] [] = some (r1, r2) ∧ 0 = r3 by
    cases hq : allGo l1 l0 [] [] with
    | none => rw [hq] at hh; cases hh
    | some r =>
     rw [hq, Option.bind_some] at hh
     have h2 := Option.some.inj hh;obtain ⟨a, b⟩ := Prod.mk.inj h2;obtain ⟨b1, b2⟩ := Prod.mk.inj b;exact ⟨by rw [← a, ← b1], b2⟩)
   have HF0 := Aside0.mk (show FA w gb w1.heap.size w3.heap.size w2.heap.size A0 n0 c0 l0 [] (.slice none 0 0) [] w3.heap.size (w3.alloc (.cells #[.map (some w2.heap.size)] 77)) from by
    have hs2 := HB2.out.size;have hs3 := HB3.out.size;exact ⟨(Below.heap_alloc w3 _ _ (blk_lt HBOX3.out)).trans HBOX3.out, ⟨HN0.out, HC0.out, .inl HR0.out⟩, ⟨blk_new _ _, #[], 0, (Below.heap_alloc w3 _ _ (blk_lt HM3.out)).trans HM3.out, rfl⟩, (Below.heap_alloc w3 _ _ (blk_lt HRB3.out)).trans HRB3.out, below_alloc HB3.out _, Kd.S_nil _ _ _ _ _, ⟨by rw [HGB.out]; exact Nat.le_refl _, HLO.out, hs2, HNE.out⟩, hs3, by simp⟩)
   obtain ⟨rb, hrb⟩ : ∃ rb, rb = w1.heap.size := ⟨_, rfl⟩;obtain ⟨tb, htb⟩ : ∃ tb, tb = w3.heap.size := ⟨_, rfl⟩;obtain ⟨m, hm⟩ : ∃ m, m = w2.heap.size := ⟨_, rfl⟩;obtain ⟨w4, hw4⟩ : ∃ w4, w4 = w3.alloc (.cells #[.map (some w2.heap.size)] 77) := ⟨_, rfl⟩;rw [← hw4] at HF0
   rw [← hrb, ← htb, ← hm] at HF0
   rw [← hw4]
   rw [← hrb, ← htb]
   clear hh HH HM3 HBOX3 HRB3 HB3 HS3 HNE HLO HRB2 HBOX2 HB2 HB1 HBOX hrb htb hm hw4 HVC;go_loopg [7, 26] n1 (fun gg s7 s26 wr => ∃ (kk : Nat) (A : Option Addr) (n c : Nat) (ws : List Int) (bags : List (List Int)) (N : Nat), s26 = .int .i64 kk ∧ kk ≤ n1 ∧ Aside0 (n1 - kk ≤ gg) ∧ Aside0 (FA w gb rb tb m A n c ws (l1.take kk) s7 bags N wr) ∧ Aside0 (allGo (l1.drop kk) ws (l1.take kk) bags = some (r1, r2)))
   case atStart => exact ⟨0, A0, n0, c0, l0, [], _, rfl, Nat.zero_le _, ⟨Nat.le_refl _⟩, HF0, ⟨HR3.out.1⟩⟩
   case round =>
    obtain ⟨kk, A, n, c, ws, bags, N, rfl, hkk, HG2, HF, HA⟩ := hrel;have hcg : wr.cell? ⟨gb, 0, none⟩ = some (.slice A n c) := (blk_cell HF.out.hG 0).trans rfl;by_cases hlt : kk < n1
    ·have hkl : kk < l1.length := by rw [← HN1.out]; exact hlt
     have hltz : (kk : Int) < (n1 : Int) := by omega
     have ha := HA.out;rw [fdrop_at l1 kk hkl, allGo] at ha
     obtain ⟨v, hv⟩ : ∃ v, v = rd l1 (kk : Int) := ⟨_, rfl⟩;rw [← hv] at ha
     obtain ⟨nb, hnb, ha⟩ := Option.bind_eq_some_iff.1 ha
     have hcond : nb.length ≤ 1000 ∧ v ∉ l1.take kk ∧ bags.length < 100000 := by
      by_cases q : nb.length ≤ 1000 ∧ v ∉ l1.take kk ∧ bags.length < 100000
      ·exact q
      ·rw [if_neg q] at ha; cases ha
     rw [if_pos hcond] at ha
     obtain ⟨w2', hw2', ha⟩ := Option.bind_eq_some_iff.1 ha;obtain ⟨bd, hbd⟩ : ∃ bd, bd = nb.filter fun a => !decide (a ∈ l1.take kk) := ⟨_, rfl⟩
     rw [← hbd] at ha hw2'
     have hbl : bd.length ≤ 1000 := by rw [hbd]; exact Nat.le_trans (List.length_filter_le _ _) hcond.1
     have HBD := Aside0.mk hbd;have HCO := Aside0.mk hcond;have HJ := Aside0.mk hw2';have HA2 := Aside0.mk (show allGo (l1.drop (kk + 1)) w2' (l1.take (kk + 1)) (bags ++ [SortedSeq.sortZ (bd ++ [v])]) = some (r1, r2) by rw [ftake_at l1 kk hkl, ← hv]; exact ha);have HTK := Aside0.mk (show l1.take (kk + 1) = l1.take kk ++ [v] by rw [ftake_at l1 kk hkl, ← hv]);have HBL := Aside0.mk hbl;obtain ⟨ad, rfl, hx⟩ := Kd.at_int (Kd.C_below HR1.out HF.out.bel) (kk : Int) (by omega) hltz;rw [Int.toNat_natCast, ← hv] at hx
     have HNB := Aside0.mk (fun (W : World) (hW : Below w.heap.size w W) (hC : Kd.C (Kd.int .u64) W A n ws) => (by
      have hn := HF.out.gr.1;subst hn;exact graph_Neighbors.calls A c ws v nb W (tab_below HT.out hW) hC HF.out.gr.2.1 hnb : Calls Tryd.prog 50 #[.agg #[.slice A n c], .int .i64 v] W fun e w' => ∃ v0_ : Value, e = .returned (v0_) ∧ Kd.R (Kd.int .i64) 3 w' W.heap.size (fun _ => True) v0_ nb ∧ Below W.heap.size W w'))
     clear ha hnb hw2' hbd hcond hv hbl
     go_wp2_with (first
      | (go_at_call 50; refine (HNB.out _ HF.out.bel (HF.out.gr.reads HF.out.bel)).mono ?_; rintro e w5 ⟨vn, rfl, ho, hb⟩; have HF5 := Aside0.mk (HF.out.below hb); have HN5 := Aside0.mk ho; have HZ5 := Aside0.mk HF.out.hi.2; clear ho hb)
      | (go_at_call 49; refine (gone_del tb m (l1.take kk) _ vn nb w5 HF5.out.gone HCO.out.1 HN5.out).mono ?_; rintro e w6 ⟨vb, rfl, ho, hg, hown⟩; have HF6 := Aside0.mk (HF5.out.grown HN5.out HZ5.out hg); rw [← HBD.out] at ho; have HV6 := Aside0.mk ho; obtain ⟨Ab, cb, evb⟩ := Kd.R_slice ho; subst evb; clear ho hg hown hcg hx))
     obtain ⟨L, hL⟩ : ∃ L, L = bd.length := ⟨_, rfl⟩;have HL := Aside0.mk hL;rw [← hL] at HV6 HJ HBL ⊢
     obtain ⟨B5, hB5⟩ : ∃ B5, B5 = wr.heap.size := ⟨_, rfl⟩;rw [← hB5] at HV6 HZ5
     clear hL hB5 HN5 HF5;go_loopg [37] L (fun gh s37 wi => ∃ (i : Nat) (A : Option Addr) (n c : Nat) (wt : List Int), s37 = .int .i64 i ∧ i ≤ L ∧ Aside0 (L - i ≤ gh) ∧ Aside0 (FA w gb rb tb m A n c wt (l1.take kk) u7 bags N wi) ∧ Aside0 (Kd.R (Kd.int .i64) 3 wi B5 (fun _ => True) (.slice Ab L cb) bd) ∧ Aside0 (joinAll bd (L - i) i wt = some w2'))
     case atStart => exact ⟨0, A, n, c, ws, rfl, Nat.zero_le _, ⟨Nat.le_refl _⟩, HF6, HV6, HJ⟩
     case round =>
      obtain ⟨i, A', n', c', wt, rfl, hiL, HGi, HFi, HVi, HJi⟩ := hrel;by_cases hi : i < L
      ·have hiz : (i : Int) < (L : Int) := by omega
       have hj := HJi.out;rw [show L - i = (L - (i + 1)) + 1 by omega, joinAll] at hj
       obtain ⟨w3', hw3, hj⟩ := Option.bind_eq_some_iff.1 hj;obtain ⟨a, ha⟩ : ∃ a, a = rd bd (i : Int) := ⟨_, rfl⟩;rw [← ha] at hw3
       obtain ⟨adb, rfl, hxb⟩ := Kd.at_int (Kd.R_reads' HVi.out).2.2 (i : Int) (by omega) (by rw [← HL.out]; exact hiz);rw [Int.toNat_natCast, ← ha] at hxb
       have HJ2 := Aside0.mk hj;have HIN := Aside0.mk hw3;have hic : (i : Int) ≤ (cb : Int) := by have := (Kd.R_reads' HVi.out).2.1; omega
       clear hj hw3 ha;go_wp2
       go_loopg [46] i (fun gj s46 wj => ∃ (q : Nat) (A : Option Addr) (n c : Nat) (wu : List Int), s46 = .int .i64 q ∧ q ≤ i ∧ Aside0 (i - q ≤ gj) ∧ Aside0 (FA w gb rb tb m A n c wu (l1.take kk) u7 bags N wj) ∧ Aside0 (Kd.R (Kd.int .i64) 3 wj B5 (fun _ => True) (.slice (some adb) L cb) bd) ∧ Aside0 (joinIn a ((bd.take i).drop q) wu = some w3'))
       case atStart => exact ⟨0, A', n', c', wt, rfl, Nat.zero_le _, ⟨Nat.le_refl _⟩, HFi, HVi, HIN⟩
       case round =>
        obtain ⟨q, A2, n2, c2, wu, rfl, hqi, HGq, HFq, HVq, HJq⟩ := hrel;have hbL := HBL.out;by_cases hq : q < i
        ·have hqz : (q : Int) < (i : Int) := by omega
         have hj := HJq.out;have hql : q < (bd.take i).length := by rw [List.length_take, ← HL.out]; omega
         rw [fdrop_at _ q hql, joinIn] at hj
         have hrq : rd (bd.take i) (q : Int) = rd bd (q : Int) := by
          have hqb : q < bd.length := by rw [← HL.out]; omega
          rw [rd_nat _ q _ (List.getElem?_eq_getElem hql), rd_nat bd q _ (List.getElem?_eq_getElem hqb), List.getElem_take]
         rw [hrq] at hj
         obtain ⟨w4', hw4, hj⟩ := Option.bind_eq_some_iff.1 hj;obtain ⟨b, hb⟩ : ∃ b, b = rd bd (q : Int) := ⟨_, rfl⟩;rw [← hb] at hw4
         obtain ⟨ad2, e2, hx2⟩ := Kd.at_int (Kd.R_reads' HVq.out).2.2 (q : Int) (by omega) (by rw [← HL.out]; omega);obtain rfl : adb = ad2 := by injection e2
         rw [Int.toNat_natCast, ← hb] at hx2
         have hcg : wr.cell? ⟨gb, 0, none⟩ = some (.slice A2 n2 c2) := (blk_cell HFq.out.hG 0).trans rfl;have HJ3 := Aside0.mk hj
         have HJN := Aside0.mk (show Calls Tryd.prog 52 #[.agg #[.slice A2 n2 c2], .int .i64 a, .int .i64 b] wr fun e w' => ∃ v0_ : Value, e = .returned (.agg #[v0_]) ∧ Kd.R (Kd.int .u64) 54 w' wr.heap.size (fun _ => True) v0_ w4' ∧ Below wr.heap.size wr w' by
          have hn := HFq.out.gr.1;have hC := HFq.out.gr.reads HFq.out.bel;have hc2 := HFq.out.gr.2.1;clear hcg hx2;subst hn;exact graph_Join.calls A2 c2 wu a b w4' wr hC hc2 hw4)
         clear hj hw4 hrq hb e2 hql;go_wp2_with (go_at_call 52; refine HJN.out.mono ?_; rintro e w7 ⟨v7, rfl, ho, hb⟩; obtain ⟨A7, c7, rfl⟩ := Kd.R_slice ho; have HF7 := Aside0.mk (HFq.out.below hb); have HV7 := Aside0.mk (Kd.R_below HVq.out hb); have HO7 := Aside0.mk (Kd.R_lower ho HFq.out.bel.size); have hcg7 : w7.cell? ⟨gb, 0, none⟩ = some (.slice A2 n2 c2) := (blk_cell HF7.out.hG 0).trans rfl; have hfg7 := blk_frozen HF7.out.hG 0; clear ho hb hcg hx2)
         have HF8 := Aside0.mk (HF7.out.setG HO7.out);have HV8 := Aside0.mk (Kd.R_set HV7.out HF7.out.hG (by decide) 0 (.slice A7 w4'.length c7));go_roundg (i - (q + 1))
         case measure => have := HGq.out; omega
         case rel => exact ⟨q + 1, A7, w4'.length, c7, w4', by go_num, by omega, ⟨Nat.le_refl _⟩, HF8, HV8, HJ3⟩
        ·have hqz : ¬ (q : Int) < (i : Int) := by omega
         obtain rfl : q = i := by omega
         have hj := HJq.out;rw [List.drop_eq_nil_of_le (by rw [List.length_take]; omega), joinIn] at hj
         obtain rfl : wu = w3' := Option.some.inj hj;clear hj;go_wp2
         go_roundg (L - (q + 1))
         case measure => have := HGi.out; omega
         case rel => exact ⟨q + 1, A2, n2, c2, wu, by go_num, by omega, ⟨Nat.le_refl _⟩, HFq, HVq, HJ2⟩
      ·have hiz : ¬ (i : Int) < (L : Int) := by omega
       obtain rfl : i = L := by omega
       have hj := HJi.out;rw [Nat.sub_self, joinAll] at hj
       obtain rfl : wt = w2' := Option.some.inj hj;clear hj;obtain ⟨hg1, es, clock, hg2, hg3⟩ := HFi.out.gone;have hct : wr.cell? ⟨tb, 0, none⟩ = some (.map (some m)) := (blk_cell hg1 0).trans rfl;obtain ⟨w10, hmu, hF10, hs10, hk10⟩ := HFi.out.gone_put v HCO.out.2.1;have HMU := Aside0.mk hmu;have HF10 := Aside0.mk (show FA w gb rb tb m A' n' c' wt (l1.take (kk + 1)) u7 bags N w10 by rw [HTK.out]; exact hF10)
       have HV10 := Aside0.mk (show Kd.R (Kd.int .i64) 3 w10 B5 (fun _ => True) (.slice Ab i cb) bd from Kd.R_mono (Kd.R_step (Kd.R_bound HVi.out) (fun k hk _ => hk10 k (fun e => by
        obtain ⟨_, _, _, t, _, cells, hc⟩ := hk;rw [e, hg2] at hc; cases hc))) (fun _ _ => trivial))
       have HB5 := Aside0.mk (show w.heap.size ≤ B5 from Nat.le_trans HFi.out.hi.1 HZ5.out);have HIB := Aside0.mk (show i = bd.length ∧ i ≤ 1000 from ⟨HL.out, HBL.out⟩);obtain ⟨Y, hY⟩ : ∃ Y, Y = bd ++ [v] := ⟨_, rfl⟩;obtain ⟨Z, hZ⟩ : ∃ Z, Z = SortedSeq.sortZ Y := ⟨_, rfl⟩;have HY := Aside0.mk hY;have HZ := Aside0.mk hZ;have HYL := Aside0.mk (show Y.length ≤ 1001 by rw [hY, List.length_append]; have := HIB.out; simp; omega);have HA3 := Aside0.mk (show allGo (l1.drop (kk + 1)) wt (l1.take (kk + 1)) (bags ++ [Z]) = some (r1, r2) by rw [hZ, hY]; exact HA2.out);clear hg1 hg2 hg3 hmu hF10 hs10 hk10 hY hZ
       go_wp2_with (first
        | (refine gupdate_event rfl rfl rfl rfl rfl rfl HMU.out ?_; clear hct)
        | (at_builtin; refine Kd.R_append (Kd.int .i64) (w0 := w) w.heap.size rfl (.tmp 59) (.tmp 61) 23 3 (.int .i64 0) 8 rfl Tryd.underlying23 info3 rfl (by decide) (by omega) _ bd v [.int .i64 v] (fun _ => True) (fun _ => False) rfl rfl rfl (fun _ hk => hk.elim) (fun _ _ => trivial) (Kd.R_lower HV10.out HB5.out) HF10.out.bel HF10.out.bel.size (by have h1 := HIB.out; omega) ?_; intro v11 w11 ho hb hg hat; have HF11 := Aside0.mk (HF10.out.grown HV10.out HZ5.out hg); rw [← HY.out] at ho; have HV11 := Aside0.mk ho; obtain ⟨A11, c11, e11⟩ := Kd.R_slice ho; subst e11; have HN11 := Aside0.mk HF11.out.hi.2; clear ho hb hg hat)
        | (go_at_call 54; refine (SortedSeq.values A11 Y.length c11 w11).mono ?_; rintro e w1 ⟨rfl, rfl⟩)
        | (go_at_call 53; refine (SortedSeq.sorted_calls A11 c11 Y w11 (Kd.R_reads' HV11.out).2.2 (by have := HYL.out; omega)).mono ?_; rintro e w12 ⟨v12, rfl, ho, hb⟩; rw [← HZ.out] at ho; have HF12 := Aside0.mk (HF11.out.below hb); have HV12 := Aside0.mk ho; have HZ12 := Aside0.mk hb.size; obtain ⟨A12, c12, e12⟩ := Kd.R_slice ho; subst e12; clear ho hb)
        | (at_builtin; refine Kd.S_append (Kd.slice 3 (Kd.int .i64)) (w0 := w) w.heap.size rfl (.tmp 58) (.tmp 65) 22 23 (.slice none 0 0) 24 rfl Tryd.underlying22 info23 rfl (by decide) (by omega) u7 bags Z [.slice A12 Z.length c12] (fun _ => True) (fun k => w11.heap.size ≤ k) rfl rfl (Kd.M_row (Kd.R_lower (Kd.R_mono (Kd.R_bound HV12.out) (fun k hk => hk.2.1)) HF11.out.bel.size)) (fun k hk => ⟨trivial, fun e => by have h1 := (Kd.S_R HF12.out.bags).1 k e.symm; have h2 := HN11.out; omega⟩) (fun _ _ => trivial) (Kd.S_mono HF12.out.bags (fun k hk => ⟨trivial, fun h => by have h2 := HN11.out; omega⟩)) HF12.out.bel HF12.out.bel.size (by have := HCO.out.2.2; omega) ?_; intro v13 w13 hS hb hg hat; have HF13 := Aside0.mk (HF12.out.app hb hS hg); clear hS hb hg hat))
       go_roundg (n1 - (kk + 1))
       case measure => have := HG2.out; omega
       case rel => exact ⟨kk + 1, A', n', c', wt, bags ++ [Z], _, by go_num, by omega, ⟨Nat.le_refl _⟩, HF13, HA3⟩
    ·have hltz : ¬ (kk : Int) < (n1 : Int) := by omega
     obtain rfl : kk = n1 := by omega
     have ha := HA.out;rw [List.drop_eq_nil_of_le (by rw [HN1.out]; exact Nat.le_refl _), allGo] at ha
     obtain ⟨ha1, ha2⟩ := Prod.mk.inj (Option.some.inj ha);have HE := Aside0.mk (And.intro ha1 ha2);have hcr : wr.cell? ⟨rb, 0, none⟩ = some (.slice none 0 0) := (blk_cell HF.out.hR 0).trans rfl;have hfr := blk_frozen HF.out.hR 0;clear ha ha1 ha2;go_wp2
     go_region
     obtain ⟨d1, d2, d3⟩ := HF.out.done (.slice A n c);have HD := Aside0.mk (And.intro (Kd.S_drew d1) (And.intro (Kd.C_drew d2) (below_drew d3)));have HRB := Aside0.mk (show (wr.setCell ⟨rb, 0, none⟩ (.slice A n c)).drew.heap[rb]? = some (.cells #[.slice A n c] 34 (0, 0)) from blk_put HF.out.hR 0 _ rfl);obtain ⟨w9, hw9⟩ : ∃ w9, w9 = (wr.setCell ⟨rb, 0, none⟩ (.slice A n c)).drew := ⟨_, rfl⟩;rw [← hw9] at HD HRB ⊢
     clear d1 d2 d3 hw9 hcr hfr hcg;go_wp2
     (try simp only [Exit.inBlock, Exit.then]); refine bodyPost_ret (results_tct rfl _ _ rb 34 #[.slice A n c] (0, 0) _ rfl HRB.out Tryd.underlying34 rfl (by kernel_rfl)) rfl ?_
     rw [← HE.out.1, ← HE.out.2, ← HR3.out.2]
     exact ⟨_, A, n, c, rfl, HD.out.1, HD.out.2.1, HF.out.gr.1, HF.out.gr.2.1, HD.out.2.2⟩
end Go.Proofs.YtbdlelojlnhhfaaDoor.Pr
