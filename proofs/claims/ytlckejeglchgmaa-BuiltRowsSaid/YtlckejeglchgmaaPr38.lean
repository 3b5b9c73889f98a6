-- Printed by a program of this session's own (wip/tools/pp.py) over the kit's print.py; Lean checks it.
import Derived.Test.YtlckejeglchgmaaPr0
import Derived.Test.YtlckejeglchgmaaPr1
import Derived.Test.YtlckejeglchgmaaPr3
import Derived.Test.YtlckejeglchgmaaPr19
namespace Go.Proofs.Ytlckejeglchgmaa.Pr
open Go.RowKit Go.Proofs.YtlckejeglchgmaaW.PrintWords Go.Proofs.YtlckejeglchgmaaW.PrintLast Go.Proofs.YtlckejeglchgmaaW.PrintMore
attribute [local go_sem] max2_int min2_int max_two min_two max_three min_three max_four min_four   -- for this text's walks alone
set_option linter.unusedVariables false
set_option linter.unusedSimpArgs false

-- given by hand
/-! ### built_Table: function 18 -/
-- needs built_all built_Holds
def built_Table.f (l0 : List (List Int)) (a1_0 : Int) (l1_1 : List Int) (l1_2 : List (List Int)) (l1_3 : List Int) (a2 : Int) : Option (List Int × List (List Int) × Int) := if l1_2.length < 17592186044416 ∧ l1_1.length < 1000000 then rowsF (holdsV a1_0 l1_1 l1_2 l1_3) l0 l1_1 a2 else none
/-- the closure of Table -/
theorem table1 (S : Nat) (k : Int) (A1 : Option Addr) (c1 : Nat) (l1 : List Int) (A2 : Option Addr) (c2 : Nat) (l2 : List (List Int)) (A3 : Option Addr) (c3 : Nat) (l3 : List Int) (A : Option Addr) (c : Nat) (t : List Int) (hc : t.length ≤ c) (W : World) (hbox : W.heap[S]? = some (.cells #[.int .i64 k, .slice A1 l1.length c1, .slice A2 l2.length c2, .slice A3 l3.length c3] 40 (0, 0)))
    (h1 : Kd.C (Kd.int .i64) W A1 l1.length l1) (hc1 : l1.length ≤ c1) (h2 : Kd.C (Kd.slice 3 (Kd.int .i64)) W A2 l2.length l2) (hc2 : l2.length ≤ c2) (h3 : Kd.C (Kd.int .i64) W A3 l3.length l3) (hc3 : l3.length ≤ c3) (ht : Kd.C (Kd.int .i64) W A t.length t) (hl2 : l2.length < 17592186044416) (hl : t.length < 1000000) :
    Calls Try.prog 36 #[.slice A t.length c, .pointer (some ⟨S, 0, none⟩)] W fun e W' => e = .returned (.bool (holdsV k l1 l2 l3 t)) ∧ Below W.heap.size W W' := by
  have HC := Aside0.mk (built_Holds.calls k A1 c1 l1 A2 c2 l2 A3 c3 l3 A c t (holdsV k l1 l2 l3 t) W h1 hc1 h2 hc2 h3 hc3 ht hc (by unfold built_Holds.f; rw [if_pos ⟨hl2, hl⟩]))
  obtain ⟨z, hz⟩ : ∃ z, z = holdsV k l1 l2 l3 t := ⟨_, rfl⟩
  rw [← hz] at HC ⊢
  have hq0 : W.cell? ⟨S, 0, none⟩ = some (.int .i64 k) := (blk_cell hbox 0).trans rfl
  have hq1 : W.cell? ⟨S, 1, none⟩ = some (.slice A1 l1.length c1) := (blk_cell hbox 1).trans rfl
  have hq2 : W.cell? ⟨S, 2, none⟩ = some (.slice A2 l2.length c2) := (blk_cell hbox 2).trans rfl
  have hq3 : W.cell? ⟨S, 3, none⟩ = some (.slice A3 l3.length c3) := (blk_cell hbox 3).trans rfl
  clear hbox h1 h2 h3 ht hl2 hl hc1 hc2 hc3 hc hz
  go_enter Try.func36, Try.ntmps36
  go_wp2_with (go_at_call 17; refine HC.out.mono ?_; rintro e w' ⟨rfl, hb⟩; have HB2 := Aside0.mk hb; clear hb)
  go_ret
  exact ⟨rfl, HB2.out⟩
set_option maxHeartbeats 4000000 in
theorem built_Table.calls (A0 : Option Addr) (c0 : Nat) (l0 : List (List Int)) (a1_0 : Int) (A1_1 : Option Addr) (c1_1 : Nat) (l1_1 : List Int) (A1_2 : Option Addr) (c1_2 : Nat) (l1_2 : List (List Int)) (A1_3 : Option Addr) (c1_3 : Nat) (l1_3 : List Int) (a2 : Int) (r1 : List Int) (r2 : List (List Int)) (r3 : Int) (w : World) (hr0 : Kd.C (Kd.slice 3 (Kd.int .i64)) w A0 l0.length l0) (hc0 : l0.length ≤ c0) (hr1_1 : Kd.C (Kd.int .i64) w A1_1 l1_1.length l1_1) (hc1_1 : l1_1.length ≤ c1_1) (hr1_2 : Kd.C (Kd.slice 3 (Kd.int .i64)) w A1_2 l1_2.length l1_2) (hc1_2 : l1_2.length ≤ c1_2) (hr1_3 : Kd.C (Kd.int .i64) w A1_3 l1_3.length l1_3) (hc1_3 : l1_3.length ≤ c1_3) (h : built_Table.f l0 a1_0 l1_1 l1_2 l1_3 a2 = some (r1, r2, r3)) :
    Calls Try.prog 18 #[.slice A0 l0.length c0, .agg #[.int .i64 a1_0, .slice A1_1 l1_1.length c1_1, .slice A1_2 l1_2.length c1_2, .slice A1_3 l1_3.length c1_3], .int .i64 a2] w fun e w' => ∃ (v0_ v1_ : Value), e = .returned (.tuple #[.agg #[v0_, v1_], .int .i64 r3]) ∧ Kd.R (Kd.int .i64) 3 w' w.heap.size (fun _ => True) v0_ r1 ∧ Kd.S (Kd.slice 3 (Kd.int .i64)) 23 w' w.heap.size (fun k_ => some k_ ≠ v0_.ownBlock) v1_ r2 ∧ Below w.heap.size w w' := by
  unfold built_Table.f at h
  split at h
  case isFalse => cases h
  rename_i hg
  have HC := Aside0.mk (fun (S : Nat) (W : World) (hW : Below w.heap.size w W) (hbox : W.heap[S]? = some (.cells #[.int .i64 a1_0, .slice A1_1 l1_1.length c1_1, .slice A1_2 l1_2.length c1_2, .slice A1_3 l1_3.length c1_3] 40 (0, 0))) => rows_walk (holdsV a1_0 l1_1 l1_2 l1_3) 36 #[.pointer (some ⟨S, 0, none⟩)] (enters_of Try.func36 (by kernel_rfl) rfl) A0 c0 l0 A1_1 c1_1 l1_1 a2 r1 r2 r3 W (Kd.C_below hr0 hW) (Kd.C_below hr1_1 hW) hc1_1 (fun t W' A c ht hb hC hc => by
    have e : (#[Value.slice A t.length c] ++ #[.pointer (some ⟨S, 0, none⟩)] : Array Value) = #[.slice A t.length c, .pointer (some ⟨S, 0, none⟩)] := by simp
    rw [e]
    have hb2 := below_then hW hW.size hb
    exact table1 S a1_0 A1_1 c1_1 l1_1 A1_2 c1_2 l1_2 A1_3 c1_3 l1_3 A c t hc W' ((hb.block S (blk_lt hbox)).trans hbox) (Kd.C_below hr1_1 hb2) hc1_1 (Kd.C_below hr1_2 hb2) hc1_2 (Kd.C_below hr1_3 hb2) hc1_3 hC hg.1 (by omega)) h)
  obtain ⟨n0, hn0⟩ : ∃ n0, n0 = l0.length := ⟨_, rfl⟩
  obtain ⟨n1, hn1⟩ : ∃ n1, n1 = l1_1.length := ⟨_, rfl⟩
  obtain ⟨n2, hn2⟩ : ∃ n1, n1 = l1_2.length := ⟨_, rfl⟩
  obtain ⟨n3, hn3⟩ : ∃ n1, n1 = l1_3.length := ⟨_, rfl⟩
  rw [← hn0, ← hn1, ← hn2, ← hn3] at HC ⊢
  obtain ⟨m1, hm1⟩ : ∃ m1, m1 = r1.length := ⟨_, rfl⟩
  obtain ⟨m2, hm2⟩ : ∃ m2, m2 = r2.length := ⟨_, rfl⟩
  have HM := Aside0.mk (And.intro hm1 hm2)
  clear hr0 hc0 hr1_1 hc1_1 hr1_2 hc1_2 hr1_3 hc1_3 h hg hn0 hn1 hn2 hn3 hm1 hm2
  go_enter Try.func18, Try.ntmps18
  go_wp2_with (first
    | ((with_reducible refine gate_dst (N := 4) rfl ?_); refine box_event ?hg (N := 4) ?hd (cs := #[.int .i64 a1_0, .slice A1_1 n1 c1_1, .slice A1_2 n2 c1_2, .slice A1_3 n3 c1_3]) (t := 40) ?hr ?_; (case hd => rfl); (case hg => rfl); (case hr => first | (go_simp; done) | (go_simp; rfl)); intro gb hgb w1 hbox hb; have HBX1 := Aside0.mk hbox; have HB1 := Aside0.mk hb; have hc1 : ∀ o, (w1.alloc o).cell? ⟨gb, 1, none⟩ = some (.slice A1_1 n1 c1_1) := fun o => (blk_cell ((Below.heap_alloc w1 o gb (blk_lt HBX1.out)).trans HBX1.out) 1).trans rfl; clear hgb hbox hb)
    | (go_at_call 28; refine (HC.out gb _ (below_alloc2 HB1.out HB1.out.size _) ((Below.heap_alloc w1 _ gb (blk_lt HBX1.out)).trans HBX1.out)).mono ?_; rintro e w2 ⟨v0, v1, rfl, h0, h1, hb⟩; obtain ⟨B0, d0, e0⟩ := Kd.R_slice h0; obtain ⟨B1, d1, e1⟩ := Kd.S_slice h1; rw [← HM.out.1] at e0; rw [← HM.out.2] at e1; subst e0 e1; have H0 := Aside0.mk h0; have H1 := Aside0.mk h1; have hrb := (hb.block w1.heap.size (by simp)).trans (blk_new w1 (.cells #[.slice none 0 0, .slice none 0 0] 28 (0, 0))); have HBX := Aside0.mk hrb; have HS1 := Aside0.mk HB1.out.size; have HB := Aside0.mk (below_then (below_alloc2 HB1.out HB1.out.size (.cells #[.slice none 0 0, .slice none 0 0] 28 (0, 0))) (by have := HB1.out.size; simp; omega) hb); have hcr0 := (blk_cell hrb 0).trans rfl; have hcr1 := (blk_cell hrb 1).trans rfl; have hfr0 := blk_frozen hrb 0; have hfr1 := blk_frozen hrb 1; clear h0 h1 hb hrb))
  (try simp only [Exit.inBlock, Exit.then])
  have p1 := blk_put (cs' := #[.slice B0 m1 d0, .slice none 0 0]) HBX.out 0 (.slice B0 m1 d0) rfl
  have p2 := blk_put (cs' := #[.slice B0 m1 d0, .slice B1 m2 d1]) p1 1 (.slice B1 m2 d1) rfl
  have hsz : w.heap.size ≤ (w1.alloc (.cells #[.slice none 0 0, .slice none 0 0] 28 (0, 0))).heap.size := by have := HS1.out; simp; omega
  refine bodyPost_ret (results_ct rfl _ _ w1.heap.size 28 #[.slice B0 m1 d0, .slice B1 m2 d1] (0, 0) _ rfl p2 Try.underlying28 rfl (by kernel_rfl)) rfl ?_
  exact ⟨_, _, rfl, Kd.R_lower (Kd.R_set (Kd.R_set H0.out HBX.out (by decide) _ _) p1 (by decide) _ _) hsz, Kd.S_lower (Kd.S_set (Kd.S_set H1.out HBX.out (by decide) _ _) p1 (by decide) _ _) hsz, (HB.out.setCell (p := ⟨w1.heap.size, 0, none⟩) HS1.out _).setCell (p := ⟨w1.heap.size, 1, none⟩) HS1.out _⟩

end Go.Proofs.Ytlckejeglchgmaa.Pr
