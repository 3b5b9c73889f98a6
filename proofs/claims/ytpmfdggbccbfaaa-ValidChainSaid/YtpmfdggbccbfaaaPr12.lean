-- Printed by a program of this session's own (wip/tools/pp.py) over the kit's print.py; Lean checks it.
import Derived.Test.YtpmfdggbccbfaaaPr0
import Derived.Test.YtpmfdggbccbfaaaPr1
import Derived.Test.YtpmfdggbccbfaaaPr2
import Derived.Test.YtpmfdggbccbfaaaPr7
namespace Go.Proofs.Ytpmfdggbccbfaaa.Pr
open Go.RowKit Go.Proofs.YtpmfdggbccbfaaaW.PrintWords Go.Proofs.YtpmfdggbccbfaaaW.PrintLast Go.Proofs.YtpmfdggbccbfaaaW.PrintMore
attribute [local go_sem] max2_int min2_int max_two min_two max_three min_three max_four min_four   -- for this text's walks alone
set_option linter.unusedVariables false
set_option linter.unusedSimpArgs false

-- given by hand
/-! ### valid_Connected: function 22 -/
-- needs valid_Tree slices_Contains_int_int
def upB (bags : List (List Int)) (p : Int) (v : Int) : Bool := !(p == -1) && (bags.getD p.toNat []).any (fun x => x == v)
def skipB (bags : List (List Int)) (p : Int) (b : List Int) (k : Nat) (v : Int) : Bool := (b.take k).any (fun x => x == v) || upB bags p v
def conn1 (n : Int) (bags : List (List Int)) (p : Int) (b : List Int) : List Int → Nat → List Int → Option (List Int)
  | [], _, ts => some ts
  | v :: l, k, ts => if skipB bags p b k v = true then conn1 n bags p b l (k + 1) ts else if 0 < ts.count v ∧ 0 ≤ v ∧ v < n then none else conn1 n bags p b l (k + 1) (v :: ts)
def conn0 (n : Int) (bags : List (List Int)) (par : List Int) : List (List Int) → Nat → List Int → Option (List Int)
  | [], _, ts => some ts
  | b :: l, i, ts => (conn1 n bags (par.getD i 0) b b 0 ts).bind fun ts => conn0 n bags par l (i + 1) ts
def connB (n : Int) (bags : List (List Int)) (par : List Int) : Bool := (conn0 n bags par bags 0 []).isSome
def connOk (bags : List (List Int)) (par : List Int) : Prop := par.length = bags.length ∧ bags.length < 1000000 ∧ (∀ b ∈ bags, b.length < 1000000 ∧ ∀ v ∈ b, -9223372036854775808 ≤ v ∧ v < 9223372036854775808) ∧ ∀ p ∈ par, -1 ≤ p ∧ p < bags.length
instance (bags : List (List Int)) (par : List Int) : Decidable (connOk bags par) := by unfold connOk; exact inferInstance
def valid_Connected.f (k : Nat) (a0 : Int) (l1_0 : List (List Int)) (l1_1 : List Int) : Option Bool := (valid_Tree.f k l1_0 l1_1).bind fun t => if t = true then (if connOk l1_0 l1_1 then some (connB a0 l1_0 l1_1) else none) else some false
theorem valid_Connected.mono : ∀ a0 a1 a2 k, LeO (valid_Connected.f k a0 a1 a2) (valid_Connected.f (k + 1) a0 a1 a2) := by
  intro a0 a1 a2 k
  unfold valid_Connected.f
  exact LeO.bind (valid_Tree.mono _ _ _) (fun _ => LeO.refl _)
theorem conn_law : Go.Maps.Keyed Try.prog 3 := Go.Maps.int_keyed Try.underlying3
theorem conn_zero (w : World) : (zeroValue 3).run Try.prog w = .ok (.int .i64 0) w := by kernel_rfl
def TellsD (D : DataW Unit) (ts : List Int) : Prop := ∀ v : Int, (Lit.int .i64 v).wf = true → D.atKey (.int .i64 v) (.lit (.int .i64 0)) = .lit (.int .i64 (ts.count v))
theorem tells_nil : TellsD (.map []) [] := fun v _ => by simp [DataW.atKey]
theorem tells_step {D : DataW Unit} {ts : List Int} (h : TellsD D ts) (hm : Go.Maps.IsMap D) (x : Int) : TellsD (D.put (.int .i64 x) (.lit (.int .i64 ((ts.count x : Int) + 1)))) (x :: ts) := by
  intro v hv
  by_cases e : v = x
  · subst e
    rw [Go.Maps.atKey_put_same hm (by first | trivial | exact ⟨_, rfl⟩ | simp [WideAt.IsKeyLit])]
    simp
  · rw [Go.Maps.atKey_put_other (by simpa using e), h v hv, List.count_cons_of_ne (by simpa using fun he => e he.symm)]
theorem conn1_skip {n : Int} {bags : List (List Int)} {p : Int} {b : List Int} {v : Int} {l : List Int} {k : Nat} {ts : List Int} (h : skipB bags p b k v = true) : conn1 n bags p b (v :: l) k ts = conn1 n bags p b l (k + 1) ts := by simp [conn1, h]
theorem conn1_end {n : Int} {bags : List (List Int)} {p : Int} {b : List Int} {v : Int} {l : List Int} {k : Nat} {ts : List Int} (h : skipB bags p b k v = false) (h2 : 0 < ts.count v ∧ 0 ≤ v ∧ v < n) : conn1 n bags p b (v :: l) k ts = none := by
  unfold conn1
  rw [if_neg (by simp [h]), if_pos h2]
theorem conn1_go {n : Int} {bags : List (List Int)} {p : Int} {b : List Int} {v : Int} {l : List Int} {k : Nat} {ts : List Int} (h : skipB bags p b k v = false) (h2 : ¬ (0 < ts.count v ∧ 0 ≤ v ∧ v < n)) : conn1 n bags p b (v :: l) k ts = conn1 n bags p b l (k + 1) (v :: ts) := by
  rw [conn1, if_neg (by simp [h]), if_neg h2]
theorem cont_call (A : Option Addr) (c : Nat) (l : List Int) (v : Int) (z : Bool) (n : Nat) (W : World) (hn : l.length = n) (hc : n ≤ c) (hz : l.any (fun x => x == v) = z) (hC : (Kd.int .i64).C W A l.length l) : Calls Try.prog 50 #[.slice A n c, .int .i64 v] W fun e W' => e = .returned (.bool z) ∧ Drawn0 W W' := by
  subst hn hz
  exact slices_Contains_int_int.calls A c l v _ W hC hc rfl
theorem wf_of {v : Int} (h : -9223372036854775808 ≤ v ∧ v < 9223372036854775808) : (Lit.int .i64 v).wf = true := WalkArith.wf_i64 (by omega)
set_option maxHeartbeats 16000000 in
set_option maxRecDepth 100000 in
theorem valid_Connected.calls (k : Nat) (a0 : Int) (A1_0 : Option Addr) (c1_0 : Nat) (l1_0 : List (List Int)) (A1_1 : Option Addr) (c1_1 : Nat) (l1_1 : List Int) (r : Bool) (w : World) (hr1_0 : Kd.C (Kd.slice 3 (Kd.int .i64)) w A1_0 l1_0.length l1_0) (hc1_0 : l1_0.length ≤ c1_0) (hr1_1 : Kd.C (Kd.int .i64) w A1_1 l1_1.length l1_1) (hc1_1 : l1_1.length ≤ c1_1) (h : valid_Connected.f k a0 l1_0 l1_1 = some r) :
    Calls Try.prog 22 #[.int .i64 a0, .agg #[.slice A1_0 l1_0.length c1_0, .slice A1_1 l1_1.length c1_1]] w fun e w' => e = .returned (.bool r) ∧ Below w.heap.size w w' := by
  have hmm := @run_makeMap Try.prog
  unfold valid_Connected.f at h
  obtain ⟨tr, htr, h⟩ := Option.bind_eq_some_iff.mp h
  have HR0 := Aside0.mk hr1_0
  have HR1 := Aside0.mk hr1_1
  have HC0 := Aside0.mk hc1_0
  have HC1 := Aside0.mk hc1_1
  have HB0 := Aside0.mk (below_alloc (Below.refl w.heap.size w) (.cells #[.slice A1_0 l1_0.length c1_0, .slice A1_1 l1_1.length c1_1] 25 (0, 0)))
  have HX0 := Aside0.mk (blk_new w (.cells #[.slice A1_0 l1_0.length c1_0, .slice A1_1 l1_1.length c1_1] 25 (0, 0)))
  have HT := Aside0.mk (valid_Tree.calls k A1_0 c1_0 l1_0 A1_1 c1_1 l1_1 tr (w.alloc (.cells #[.slice A1_0 l1_0.length c1_0, .slice A1_1 l1_1.length c1_1] 25 (0, 0))) (Kd.C_below hr1_0 HB0.out) hc1_0 (Kd.C_below hr1_1 HB0.out) hc1_1 htr)
  clear hr1_0 hr1_1 hc1_0 hc1_1 htr
  cases tr with
  | false =>
    have HE := Aside0.mk (show false = r by simpa using h)
    clear h
    go_enter Try.func22, Try.ntmps22
    go_wp2_with (go_at_call 18; refine HT.out.mono ?_; rintro e w' ⟨rfl, hb⟩; have HB2 := Aside0.mk (below_then HB0.out (below_size HB0.out) hb); clear hb)
    go_ret
    exact ⟨by rw [← HE.out]; rfl, HB2.out⟩
  | true =>
    rw [if_pos rfl] at h
    split at h
    case isFalse => cases h
    rename_i hok
    obtain ⟨ok1, ok2, ok3, ok4⟩ := hok
    have HE := Aside0.mk (Option.some.inj h)
    have OK2 := Aside0.mk ok2
    have OK3 := Aside0.mk ok3
    have OK4 := Aside0.mk ok4
    clear h ok3 ok4
    obtain ⟨m, hm⟩ : ∃ m, m = l1_0.length := ⟨_, rfl⟩
    rw [ok1, ← hm] at HT HB0 HX0 ⊢
    have OKM := Aside0.mk (show m < 1000000 by have := OK2.out; omega)
    clear ok2
    have hmb : m ≤ 9223372036854775807 := by have := OKM.out; omega
    have HM := Aside0.mk hm
    have HM1 := Aside0.mk (ok1.trans hm.symm)
    clear hm ok1
    go_enter Try.func22, Try.ntmps22
    go_wp2_with (go_at_call 18; refine HT.out.mono ?_; rintro e w1 ⟨rfl, hb⟩; have HB1 := Aside0.mk (below_then HB0.out (below_size HB0.out) hb); have HX1 := Aside0.mk (blk_below HX0.out hb); have HZ1 := Aside0.mk (show w.heap.size + 1 ≤ w1.heap.size by have := below_size hb; simpa using this); clear hb; have hx1 : (w1.alloc (.map #[] 0)).cell? ⟨w.heap.size, 0, none⟩ = some (.slice A1_0 m c1_0) := (blk_cell (blk_alloc HX1.out _) 0).trans rfl)
    clear hx1
    go_loopg [18] m (fun gg s18 wr => ∃ (kk cN : Nat) (ts : List Int) (D : DataW Unit), s18 = .int .i64 kk ∧ kk ≤ m ∧ Aside0 (m - kk ≤ gg) ∧ Aside0 (wr.heap[w.heap.size]? = some (.cells #[.slice A1_0 m c1_0, .slice A1_1 m c1_1] 25 (0, 0))) ∧ Aside0 (Below w.heap.size w wr) ∧ Aside0 (wr.ownsMap Try.prog 3 (plainElem Try.prog 3) w1.heap.size cN D) ∧ Aside0 (TellsD D ts) ∧ Aside0 (cN ≤ kk * 1000000 ∧ ts.length ≤ kk * 1000000) ∧ Aside0 (conn0 a0 l1_0 l1_1 (l1_0.drop kk) kk ts = conn0 a0 l1_0 l1_1 l1_0 0 []))
    case atStart => exact ⟨0, 0, [], .map [], rfl, Nat.zero_le _, ⟨Nat.le_refl _⟩, ⟨blk_alloc HX1.out _⟩, ⟨below_alloc2 HB1.out (by have := HZ1.out; omega) _⟩, ⟨World.ownsMap_made w1 _ _ _⟩, ⟨tells_nil⟩, ⟨by simp⟩, ⟨rfl⟩⟩
    case round =>
      obtain ⟨kk, cN, ts, D, rfl, hkk, HG, HX, HB, HO, HD, HL, HI⟩ := hrel
      have hx0 : wr.cell? ⟨w.heap.size, 0, none⟩ = some (.slice A1_0 m c1_0) := (blk_cell HX.out 0).trans rfl
      by_cases hlt : kk < m
      · have hltz : (kk : Int) < (m : Int) := by omega
        obtain ⟨ad, v, b, rfl, hx, hxm, hk, hcell⟩ := elem_one (d := Kd.slice 3 (Kd.int .i64)) rfl HR0.out HB.out kk (by rw [← HM.out]; exact hlt)
        obtain ⟨Ab, cb, e, hlb, hC⟩ := hk
        obtain ⟨n, hn⟩ : ∃ n, b.length = n := ⟨_, rfl⟩
        rw [hn] at e hlb
        obtain rfl : v = .slice Ab n cb := by injection e
        obtain ⟨adp, vp, p, rfl, hp, hpm, hkp, hpcell⟩ := elem_one (d := Kd.int .i64) rfl HR1.out (Below.refl _ w) kk (by rw [HM1.out]; exact hlt)
        obtain rfl : vp = .int .i64 p := by have h2 : [vp] = [.int .i64 p] := hkp; injection h2
        have HP := Aside0.mk (OK4.out p hpm)
        have HBM := Aside0.mk (OK3.out b hxm)
        have HPC := Aside0.mk hpcell
        have HN := Aside0.mk hn
        have HCb := Aside0.mk hC
        have HLB := Aside0.mk hlb
        have hbl : n ≤ 9223372036854775807 := by have := HBM.out.1; omega
        have HI2 := Aside0.mk (by have := HI.out; rw [List.drop_eq_getElem_cons (by rw [← HM.out]; exact hlt), (List.getElem?_eq_some_iff.1 hx).2] at this; simp only [conn0] at this; rw [List.getD_eq_getElem?_getD, hp] at this; exact this : (conn1 a0 l1_0 p b b 0 ts).bind (fun ts => conn0 a0 l1_0 l1_1 (l1_0.drop (kk + 1)) (kk + 1) ts) = conn0 a0 l1_0 l1_1 l1_0 0 [])
        clear e hlb hC hx hxm hn hpm hkp hpcell hp
        go_wp2
        clear hcell hx0
        go_loopg [25] n (fun gh s25 wi => ∃ (jj dN : Nat) (us : List Int) (E : DataW Unit), s25 = .int .i64 jj ∧ jj ≤ n ∧ Aside0 (n - jj ≤ gh) ∧ Aside0 (wi.heap[w.heap.size]? = some (.cells #[.slice (some ad) m c1_0, .slice (some adp) m c1_1] 25 (0, 0))) ∧ Aside0 (Below w.heap.size w wi) ∧ Aside0 (wi.ownsMap Try.prog 3 (plainElem Try.prog 3) w1.heap.size dN E) ∧ Aside0 (TellsD E us) ∧ Aside0 (dN ≤ kk * 1000000 + jj ∧ us.length ≤ kk * 1000000 + jj) ∧ Aside0 ((conn1 a0 l1_0 p b (b.drop jj) jj us).bind (fun ts => conn0 a0 l1_0 l1_1 (l1_0.drop (kk + 1)) (kk + 1) ts) = conn0 a0 l1_0 l1_1 l1_0 0 []))
        case atStart => exact ⟨0, cN, ts, D, rfl, Nat.zero_le _, ⟨Nat.le_refl _⟩, HX, HB, HO, HD, ⟨⟨Nat.le_trans HL.out.1 (Nat.le_add_right _ _), Nat.le_trans HL.out.2 (Nat.le_add_right _ _)⟩⟩, HI2⟩
        case round =>
          obtain ⟨jj, dN, us, E, rfl, hjj, HG2, HX2, HB2, HO2, HD2, HL2, HJ⟩ := hrel
          have hx2 : ∀ q, (wr.drewN q).cell? ⟨w.heap.size, 0, none⟩ = some (.slice (some ad) m c1_0) := fun q => (blk_cell HX2.out 0).trans rfl
          have hy2 : wr.cell? ⟨w.heap.size, 1, none⟩ = some (.slice (some adp) m c1_1) := (blk_cell HX2.out 1).trans rfl
          have hpc : wr.cell? (adp.add kk) = some (.int .i64 p) := pw_cell_below HB2.out HPC.out
          by_cases hlj : jj < n
          · have hljz : (jj : Int) < (n : Int) := by omega
            obtain ⟨ad2, v2, x, e2, hx', hxm', hk', hcell2⟩ := elem_one (d := Kd.int .i64) rfl HCb.out HB2.out jj (by rw [HN.out]; exact hlj)
            obtain rfl : v2 = .int .i64 x := by have h2 : [v2] = [.int .i64 x] := hk'; injection h2
            subst e2
            have HKN := Aside0.mk (show kk < 1000000 ∧ jj < 1000000 by have h1 := OKM.out; have h2 := HBM.out.1; have h3 := HN.out; omega)
            have HXR := Aside0.mk (HBM.out.2 x hxm')
            have HJ2 := Aside0.mk (by have := HJ.out; rw [List.drop_eq_getElem_cons (by rw [HN.out]; exact hlj), (List.getElem?_eq_some_iff.1 hx').2] at this; exact this : (conn1 a0 l1_0 p b (x :: b.drop (jj + 1)) jj us).bind (fun ts => conn0 a0 l1_0 l1_1 (l1_0.drop (kk + 1)) (kk + 1) ts) = conn0 a0 l1_0 l1_1 l1_0 0 [])
            clear hx' hxm' hk'
            have hcut : ∀ W : World, (Instr.slice 23 (.slice (some ad2) n cb) none (some (.int .i64 (jj : Int))) none).run Try.prog W = .ok (.slice (some ad2) jj cb) W := by obtain ⟨i0, hi0, _⟩ := info_parts info3; exact cut_to (P := Try.prog) 23 3 .i64 Try.underlying23 hi0 (some ad2) n cb (jj : Int) (by omega) (by omega) HLB.out
            have hjc : jj ≤ cb := by have := HLB.out; omega
            have HCC := Aside0.mk (fun z hz => cont_call (some ad2) cb (b.take jj) x z jj wr (by have := HN.out; simp; omega) hjc hz (Kd.C_take (Kd.C_below HCb.out HB2.out) (by have := HN.out; omega)))
            cases hz1 : (b.take jj).any (fun y => y == x) with
            | true =>
              have HC1 := Aside0.mk (HCC.out _ hz1)
              have HJ3 := Aside0.mk (by have := HJ2.out; rw [conn1_skip (by unfold skipB; rw [hz1]; rfl)] at this; exact this : (conn1 a0 l1_0 p b (b.drop (jj + 1)) (jj + 1) us).bind (fun ts => conn0 a0 l1_0 l1_1 (l1_0.drop (kk + 1)) (kk + 1) ts) = conn0 a0 l1_0 l1_1 l1_0 0 [])
              clear hz1
              go_wp2_with (go_at_call 50; refine HC1.out.mono ?_; rintro e w' ⟨rfl, ⟨⟨q, rfl⟩⟩⟩)
              go_roundg (n - (jj + 1))
              case measure => have := HG2.out; omega
              case rel => exact ⟨jj + 1, dN, us, E, by go_num, by omega, ⟨Nat.le_refl _⟩, ⟨blk_drewN HX2.out _⟩, ⟨pw_below_drewN HB2.out _⟩, HO2, HD2, ⟨by have := HL2.out; omega⟩, HJ3⟩
            | false =>
              have HC1 := Aside0.mk (HCC.out _ hz1)
              by_cases hp1 : p = -1
              · have HSK := Aside0.mk (show skipB l1_0 p b jj x = false by unfold skipB upB; rw [hz1, hp1]; rfl)
                have hpd : decide (p = -1) = true := decide_eq_true hp1
                have hpd2 : (p == -1) = true := by simpa using hp1
                have hpd3 : (p != -1) = false := by simp [hp1]
                clear hp1 hz1
                have HCN := Aside0.mk (show (us.count x : Int) < 4611686018427387904 by have h1 := List.count_le_length (a := x) (l := us); have h2 := HL2.out; have h3 := HKN.out; omega)
                obtain ⟨cx, hcx⟩ : ∃ cx : Nat, cx = us.count x := ⟨_, rfl⟩
                rw [← hcx] at HCN
                have HDX := Aside0.mk (by have := HD2.out x (wf_of HXR.out); rw [← hcx] at this; exact this : E.atKey (.int .i64 x) (.lit (.int .i64 0)) = .lit (.int .i64 (cx : Int)))
                have HDS := Aside0.mk (by have := tells_step HD2.out HO2.out.isMap x; rw [← hcx] at this; exact this : TellsD (E.put (.int .i64 x) (.lit (.int .i64 ((cx : Int) + 1)))) (x :: us))
                have HDY := Aside0.mk (by have := HDS.out x (wf_of HXR.out); rw [List.count_cons_self, ← hcx] at this; simpa using this : (E.put (.int .i64 x) (.lit (.int .i64 ((cx : Int) + 1)))).atKey (.int .i64 x) (.lit (.int .i64 0)) = .lit (.int .i64 ((cx : Int) + 1)))
                have hwr : wrap64 ((cx : Int) + 1) = (cx : Int) + 1 := wrap_id (by omega) (by have := HCN.out; omega)
                have HWF := Aside0.mk (show (Lit.int .i64 ((cx : Int) + 1)).wf = true from wf_of (by have := HCN.out; omega))
                by_cases q1 : 0 < cx
                · have hq1 : decide ((1 : Int) < (cx : Int) + 1) = true := decide_eq_true (by omega)
                  by_cases q2 : 0 ≤ x
                  · have hq2 : decide ((0 : Int) ≤ x) = true := decide_eq_true q2
                    by_cases q3 : x < a0
                    · have hq3 : decide (x < a0) = true := decide_eq_true q3
                      have HF := Aside0.mk (by have := HJ2.out; rw [conn1_end HSK.out (by rw [← hcx]; omega)] at this; simpa using this : none = conn0 a0 l1_0 l1_1 l1_0 0 [])
                      clear q1 q2 q3 hcx
                      go_wp2_with (first | (go_at_call 50; refine HC1.out.mono ?_; rintro e w' ⟨rfl, ⟨⟨q, rfl⟩⟩⟩) | (at_lookup; first | (refine wpList_lookup_own_int _ rfl _ _ 62 rfl 3 3 .i64 conn_law Try.underlying62 Try.underlying3 (conn_zero _) w1.heap.size (dN + 1) _ rfl HO3.out _ _ rfl (Go.Maps.keyOf_int_mk Try.underlying3 (wf_of HXR.out)) ?_; intro c' hat' hwc'; obtain rfl : c' = (cx : Int) + 1 := (by have := hat'.symm.trans HDY.out; simpa using this); clear hat' hwc') | (refine wpList_lookup_own_int _ rfl _ _ 62 rfl 3 3 .i64 conn_law Try.underlying62 Try.underlying3 (conn_zero _) w1.heap.size dN _ rfl HO2.out _ _ rfl (Go.Maps.keyOf_int_mk Try.underlying3 (wf_of HXR.out)) ?_; intro c' hat' hwc'; obtain rfl : c' = (cx : Int) := (by have := hat'.symm.trans HDX.out; simpa using this); clear hat' hwc')) | (at_mapUpdate; refine wpList_mapUpdate_own _ rfl _ _ _ 62 rfl 3 3 conn_law Try.underlying62 _ w1.heap.size dN _ rfl HO2.out (by have h1 := HL2.out; have h2 := HKN.out; unfold maxLen; omega) _ _ _ rfl rfl (Go.Maps.keyOf_int_mk Try.underlying3 (wf_of HXR.out)) _ [] (plainElem_int Try.underlying3 (wrap64_wf _)) ?_; intro w2 hown hgrow; have HO3 := Aside0.mk (by rw [hwr] at hown; exact hown : w2.ownsMap Try.prog 3 (plainElem Try.prog 3) w1.heap.size (dN + 1) (E.put (.int .i64 x) (.lit (.int .i64 ((cx : Int) + 1))))); have HB3 := Aside0.mk (Below.grown (pw_below_drewN HB2.out _) hgrow HB2.out.size (fun j hj => by cases hj; have := HZ1.out; omega)); have HX3 := Aside0.mk (blk_grown (blk_drewN HX2.out _) hgrow (by have := HZ1.out; simp; omega)); clear hown hgrow))
                      go_ret
                      refine ⟨?_, HB3.out⟩
                      rw [← HE.out]
                      unfold connB
                      rw [← HF.out]
                      rfl
                    · have hq3 : decide (x < a0) = false := decide_eq_false q3
                      have HJ3 := Aside0.mk (by have := HJ2.out; rw [conn1_go HSK.out (by rw [← hcx]; omega)] at this; exact this : (conn1 a0 l1_0 p b (b.drop (jj + 1)) (jj + 1) (x :: us)).bind (fun ts => conn0 a0 l1_0 l1_1 (l1_0.drop (kk + 1)) (kk + 1) ts) = conn0 a0 l1_0 l1_1 l1_0 0 [])
                      clear q1 q2 q3 hcx
                      go_wp2_with (first | (go_at_call 50; refine HC1.out.mono ?_; rintro e w' ⟨rfl, ⟨⟨q, rfl⟩⟩⟩) | (at_lookup; first | (refine wpList_lookup_own_int _ rfl _ _ 62 rfl 3 3 .i64 conn_law Try.underlying62 Try.underlying3 (conn_zero _) w1.heap.size (dN + 1) _ rfl HO3.out _ _ rfl (Go.Maps.keyOf_int_mk Try.underlying3 (wf_of HXR.out)) ?_; intro c' hat' hwc'; obtain rfl : c' = (cx : Int) + 1 := (by have := hat'.symm.trans HDY.out; simpa using this); clear hat' hwc') | (refine wpList_lookup_own_int _ rfl _ _ 62 rfl 3 3 .i64 conn_law Try.underlying62 Try.underlying3 (conn_zero _) w1.heap.size dN _ rfl HO2.out _ _ rfl (Go.Maps.keyOf_int_mk Try.underlying3 (wf_of HXR.out)) ?_; intro c' hat' hwc'; obtain rfl : c' = (cx : Int) := (by have := hat'.symm.trans HDX.out; simpa using this); clear hat' hwc')) | (at_mapUpdate; refine wpList_mapUpdate_own _ rfl _ _ _ 62 rfl 3 3 conn_law Try.underlying62 _ w1.heap.size dN _ rfl HO2.out (by have h1 := HL2.out; have h2 := HKN.out; unfold maxLen; omega) _ _ _ rfl rfl (Go.Maps.keyOf_int_mk Try.underlying3 (wf_of HXR.out)) _ [] (plainElem_int Try.underlying3 (wrap64_wf _)) ?_; intro w2 hown hgrow; have HO3 := Aside0.mk (by rw [hwr] at hown; exact hown : w2.ownsMap Try.prog 3 (plainElem Try.prog 3) w1.heap.size (dN + 1) (E.put (.int .i64 x) (.lit (.int .i64 ((cx : Int) + 1))))); have HB3 := Aside0.mk (Below.grown (pw_below_drewN HB2.out _) hgrow HB2.out.size (fun j hj => by cases hj; have := HZ1.out; omega)); have HX3 := Aside0.mk (blk_grown (blk_drewN HX2.out _) hgrow (by have := HZ1.out; simp; omega)); clear hown hgrow))
                      go_roundg (n - (jj + 1))
                      case measure => have := HG2.out; omega
                      case rel => exact ⟨jj + 1, dN + 1, x :: us, _, by go_num, by omega, ⟨Nat.le_refl _⟩, HX3, HB3, HO3, HDS, ⟨by have := HL2.out; simp; omega⟩, HJ3⟩
                  · have hq2 : decide ((0 : Int) ≤ x) = false := decide_eq_false q2
                    have HJ3 := Aside0.mk (by have := HJ2.out; rw [conn1_go HSK.out (by rw [← hcx]; omega)] at this; exact this : (conn1 a0 l1_0 p b (b.drop (jj + 1)) (jj + 1) (x :: us)).bind (fun ts => conn0 a0 l1_0 l1_1 (l1_0.drop (kk + 1)) (kk + 1) ts) = conn0 a0 l1_0 l1_1 l1_0 0 [])
                    clear q1 q2 hcx
                    go_wp2_with (first | (go_at_call 50; refine HC1.out.mono ?_; rintro e w' ⟨rfl, ⟨⟨q, rfl⟩⟩⟩) | (at_lookup; first | (refine wpList_lookup_own_int _ rfl _ _ 62 rfl 3 3 .i64 conn_law Try.underlying62 Try.underlying3 (conn_zero _) w1.heap.size (dN + 1) _ rfl HO3.out _ _ rfl (Go.Maps.keyOf_int_mk Try.underlying3 (wf_of HXR.out)) ?_; intro c' hat' hwc'; obtain rfl : c' = (cx : Int) + 1 := (by have := hat'.symm.trans HDY.out; simpa using this); clear hat' hwc') | (refine wpList_lookup_own_int _ rfl _ _ 62 rfl 3 3 .i64 conn_law Try.underlying62 Try.underlying3 (conn_zero _) w1.heap.size dN _ rfl HO2.out _ _ rfl (Go.Maps.keyOf_int_mk Try.underlying3 (wf_of HXR.out)) ?_; intro c' hat' hwc'; obtain rfl : c' = (cx : Int) := (by have := hat'.symm.trans HDX.out; simpa using this); clear hat' hwc')) | (at_mapUpdate; refine wpList_mapUpdate_own _ rfl _ _ _ 62 rfl 3 3 conn_law Try.underlying62 _ w1.heap.size dN _ rfl HO2.out (by have h1 := HL2.out; have h2 := HKN.out; unfold maxLen; omega) _ _ _ rfl rfl (Go.Maps.keyOf_int_mk Try.underlying3 (wf_of HXR.out)) _ [] (plainElem_int Try.underlying3 (wrap64_wf _)) ?_; intro w2 hown hgrow; have HO3 := Aside0.mk (by rw [hwr] at hown; exact hown : w2.ownsMap Try.prog 3 (plainElem Try.prog 3) w1.heap.size (dN + 1) (E.put (.int .i64 x) (.lit (.int .i64 ((cx : Int) + 1))))); have HB3 := Aside0.mk (Below.grown (pw_below_drewN HB2.out _) hgrow HB2.out.size (fun j hj => by cases hj; have := HZ1.out; omega)); have HX3 := Aside0.mk (blk_grown (blk_drewN HX2.out _) hgrow (by have := HZ1.out; simp; omega)); clear hown hgrow))
                    go_roundg (n - (jj + 1))
                    case measure => have := HG2.out; omega
                    case rel => exact ⟨jj + 1, dN + 1, x :: us, _, by go_num, by omega, ⟨Nat.le_refl _⟩, HX3, HB3, HO3, HDS, ⟨by have := HL2.out; simp; omega⟩, HJ3⟩
                · have hq1 : decide ((1 : Int) < (cx : Int) + 1) = false := decide_eq_false (by omega)
                  have HJ3 := Aside0.mk (by have := HJ2.out; rw [conn1_go HSK.out (by rw [← hcx]; omega)] at this; exact this : (conn1 a0 l1_0 p b (b.drop (jj + 1)) (jj + 1) (x :: us)).bind (fun ts => conn0 a0 l1_0 l1_1 (l1_0.drop (kk + 1)) (kk + 1) ts) = conn0 a0 l1_0 l1_1 l1_0 0 [])
                  clear q1 hcx
                  go_wp2_with (first | (go_at_call 50; refine HC1.out.mono ?_; rintro e w' ⟨rfl, ⟨⟨q, rfl⟩⟩⟩) | (at_lookup; first | (refine wpList_lookup_own_int _ rfl _ _ 62 rfl 3 3 .i64 conn_law Try.underlying62 Try.underlying3 (conn_zero _) w1.heap.size (dN + 1) _ rfl HO3.out _ _ rfl (Go.Maps.keyOf_int_mk Try.underlying3 (wf_of HXR.out)) ?_; intro c' hat' hwc'; obtain rfl : c' = (cx : Int) + 1 := (by have := hat'.symm.trans HDY.out; simpa using this); clear hat' hwc') | (refine wpList_lookup_own_int _ rfl _ _ 62 rfl 3 3 .i64 conn_law Try.underlying62 Try.underlying3 (conn_zero _) w1.heap.size dN _ rfl HO2.out _ _ rfl (Go.Maps.keyOf_int_mk Try.underlying3 (wf_of HXR.out)) ?_; intro c' hat' hwc'; obtain rfl : c' = (cx : Int) := (by have := hat'.symm.trans HDX.out; simpa using this); clear hat' hwc')) | (at_mapUpdate; refine wpList_mapUpdate_own _ rfl _ _ _ 62 rfl 3 3 conn_law Try.underlying62 _ w1.heap.size dN _ rfl HO2.out (by have h1 := HL2.out; have h2 := HKN.out; unfold maxLen; omega) _ _ _ rfl rfl (Go.Maps.keyOf_int_mk Try.underlying3 (wf_of HXR.out)) _ [] (plainElem_int Try.underlying3 (wrap64_wf _)) ?_; intro w2 hown hgrow; have HO3 := Aside0.mk (by rw [hwr] at hown; exact hown : w2.ownsMap Try.prog 3 (plainElem Try.prog 3) w1.heap.size (dN + 1) (E.put (.int .i64 x) (.lit (.int .i64 ((cx : Int) + 1))))); have HB3 := Aside0.mk (Below.grown (pw_below_drewN HB2.out _) hgrow HB2.out.size (fun j hj => by cases hj; have := HZ1.out; omega)); have HX3 := Aside0.mk (blk_grown (blk_drewN HX2.out _) hgrow (by have := HZ1.out; simp; omega)); clear hown hgrow))
                  go_roundg (n - (jj + 1))
                  case measure => have := HG2.out; omega
                  case rel => exact ⟨jj + 1, dN + 1, x :: us, _, by go_num, by omega, ⟨Nat.le_refl _⟩, HX3, HB3, HO3, HDS, ⟨by have := HL2.out; simp; omega⟩, HJ3⟩
              · have hp0 : 0 ≤ p := by have := HP.out; omega
                obtain ⟨pn, rfl⟩ := Int.eq_ofNat_of_zero_le hp0
                have hpm : pn < m := by have := HP.out.2; have := HM.out; omega
                have hpmz : (pn : Int) < (m : Int) := by omega
                have hpd : decide ((pn : Int) = -1) = false := decide_eq_false hp1
                have hpd2 : ((pn : Int) == -1) = false := beq_false_of_ne hp1
                have hpd3 : ((pn : Int) != -1) = true := by rw [bne, hpd2]; rfl
                obtain ⟨ad3, v3, b3, e3, hx3, hxm3, hk3, hcell3⟩ := elem_one (d := Kd.slice 3 (Kd.int .i64)) rfl HR0.out HB2.out pn (by rw [← HM.out]; exact hpm)
                obtain rfl : ad = ad3 := by injection e3
                obtain ⟨A3, c3, e4, hl3, hC3⟩ := hk3
                obtain ⟨n3, hn3⟩ : ∃ n3, b3.length = n3 := ⟨_, rfl⟩
                rw [hn3] at e4 hl3
                obtain rfl : v3 = .slice A3 n3 c3 := by injection e4
                have hcell4 : ∀ q, (wr.drewN q).cell? (ad.add pn) = some (.slice A3 n3 c3) := fun q => hcell3
                have HCC3 := Aside0.mk (fun q z hz => cont_call A3 c3 b3 x z n3 (wr.drewN q) hn3 hl3 hz (Kd.C_drewN (Kd.C_below hC3 HB2.out) q))
                have HUP := Aside0.mk (show upB l1_0 (pn : Int) x = b3.any (fun y => y == x) by unfold upB; rw [hpd2, List.getD_eq_getElem?_getD, Int.toNat_natCast, hx3]; rfl)
                clear e3 hx3 hxm3 e4 hl3 hC3 hn3 hcell3 hp0 hp1 hpm
                cases hz3 : b3.any (fun y => y == x) with
                | true =>
                  have HC3 := Aside0.mk (fun q => HCC3.out q _ hz3)
                  have HJ3 := Aside0.mk (by have := HJ2.out; rw [conn1_skip (by unfold skipB; rw [HUP.out, hz3]; simp)] at this; exact this : (conn1 a0 l1_0 (pn : Int) b (b.drop (jj + 1)) (jj + 1) us).bind (fun ts => conn0 a0 l1_0 l1_1 (l1_0.drop (kk + 1)) (kk + 1) ts) = conn0 a0 l1_0 l1_1 l1_0 0 [])
                  clear hz1 hz3
                  go_wp2_with (go_at_call 50; first | (refine HC1.out.mono ?_; rintro e w' ⟨rfl, ⟨⟨q, rfl⟩⟩⟩) | (refine (HC3.out _).mono ?_; rintro e w' ⟨rfl, ⟨⟨q2, rfl⟩⟩⟩))
                  go_roundg (n - (jj + 1))
                  case measure => have := HG2.out; omega
                  case rel => exact ⟨jj + 1, dN, us, E, by go_num, by omega, ⟨Nat.le_refl _⟩, ⟨HX2.out⟩, ⟨pw_below_drewN HB2.out _⟩, HO2, HD2, ⟨by have := HL2.out; omega⟩, HJ3⟩
                | false =>
                  have HC3 := Aside0.mk (fun q => HCC3.out q _ hz3)
                  have HSK := Aside0.mk (show skipB l1_0 (pn : Int) b jj x = false by unfold skipB; rw [HUP.out, hz1, hz3]; rfl)
                  clear hz1 hz3
                  have HCN := Aside0.mk (show (us.count x : Int) < 4611686018427387904 by have h1 := List.count_le_length (a := x) (l := us); have h2 := HL2.out; have h3 := HKN.out; omega)
                  obtain ⟨cx, hcx⟩ : ∃ cx : Nat, cx = us.count x := ⟨_, rfl⟩
                  rw [← hcx] at HCN
                  have HDX := Aside0.mk (by have := HD2.out x (wf_of HXR.out); rw [← hcx] at this; exact this : E.atKey (.int .i64 x) (.lit (.int .i64 0)) = .lit (.int .i64 (cx : Int)))
                  have HDS := Aside0.mk (by have := tells_step HD2.out HO2.out.isMap x; rw [← hcx] at this; exact this : TellsD (E.put (.int .i64 x) (.lit (.int .i64 ((cx : Int) + 1)))) (x :: us))
                  have HDY := Aside0.mk (by have := HDS.out x (wf_of HXR.out); rw [List.count_cons_self, ← hcx] at this; simpa using this : (E.put (.int .i64 x) (.lit (.int .i64 ((cx : Int) + 1)))).atKey (.int .i64 x) (.lit (.int .i64 0)) = .lit (.int .i64 ((cx : Int) + 1)))
                  have hwr : wrap64 ((cx : Int) + 1) = (cx : Int) + 1 := wrap_id (by omega) (by have := HCN.out; omega)
                  have HWF := Aside0.mk (show (Lit.int .i64 ((cx : Int) + 1)).wf = true from wf_of (by have := HCN.out; omega))
                  by_cases q1 : 0 < cx
                  · have hq1 : decide ((1 : Int) < (cx : Int) + 1) = true := decide_eq_true (by omega)
                    by_cases q2 : 0 ≤ x
                    · have hq2 : decide ((0 : Int) ≤ x) = true := decide_eq_true q2
                      by_cases q3 : x < a0
                      · have hq3 : decide (x < a0) = true := decide_eq_true q3
                        have HF := Aside0.mk (by have := HJ2.out; rw [conn1_end HSK.out (by rw [← hcx]; omega)] at this; simpa using this : none = conn0 a0 l1_0 l1_1 l1_0 0 [])
                        clear q1 q2 q3 hcx
                        go_wp2_with (first | (go_at_call 50; first | (refine HC1.out.mono ?_; rintro e w' ⟨rfl, ⟨⟨q, rfl⟩⟩⟩) | (refine (HC3.out _).mono ?_; rintro e w' ⟨rfl, ⟨⟨q2, rfl⟩⟩⟩)) | (at_lookup; first | (refine wpList_lookup_own_int _ rfl _ _ 62 rfl 3 3 .i64 conn_law Try.underlying62 Try.underlying3 (conn_zero _) w1.heap.size (dN + 1) _ rfl HO3.out _ _ rfl (Go.Maps.keyOf_int_mk Try.underlying3 (wf_of HXR.out)) ?_; intro c' hat' hwc'; obtain rfl : c' = (cx : Int) + 1 := (by have := hat'.symm.trans HDY.out; simpa using this); clear hat' hwc') | (refine wpList_lookup_own_int _ rfl _ _ 62 rfl 3 3 .i64 conn_law Try.underlying62 Try.underlying3 (conn_zero _) w1.heap.size dN _ rfl HO2.out _ _ rfl (Go.Maps.keyOf_int_mk Try.underlying3 (wf_of HXR.out)) ?_; intro c' hat' hwc'; obtain rfl : c' = (cx : Int) := (by have := hat'.symm.trans HDX.out; simpa using this); clear hat' hwc')) | (at_mapUpdate; refine wpList_mapUpdate_own _ rfl _ _ _ 62 rfl 3 3 conn_law Try.underlying62 _ w1.heap.size dN _ rfl HO2.out (by have h1 := HL2.out; have h2 := HKN.out; unfold maxLen; omega) _ _ _ rfl rfl (Go.Maps.keyOf_int_mk Try.underlying3 (wf_of HXR.out)) _ [] (plainElem_int Try.underlying3 (wrap64_wf _)) ?_; intro w2 hown hgrow; have HO3 := Aside0.mk (by rw [hwr] at hown; exact hown : w2.ownsMap Try.prog 3 (plainElem Try.prog 3) w1.heap.size (dN + 1) (E.put (.int .i64 x) (.lit (.int .i64 ((cx : Int) + 1))))); have HB3 := Aside0.mk (Below.grown (pw_below_drewN HB2.out _) hgrow HB2.out.size (fun j hj => by cases hj; have := HZ1.out; omega)); have HX3 := Aside0.mk (blk_grown (blk_drewN HX2.out _) hgrow (by have := HZ1.out; simp; omega)); clear hown hgrow))
                        go_ret
                        refine ⟨?_, HB3.out⟩
                        rw [← HE.out]
                        unfold connB
                        rw [← HF.out]
                        rfl
                      · have hq3 : decide (x < a0) = false := decide_eq_false q3
                        have HJ3 := Aside0.mk (by have := HJ2.out; rw [conn1_go HSK.out (by rw [← hcx]; omega)] at this; exact this : (conn1 a0 l1_0 (pn : Int) b (b.drop (jj + 1)) (jj + 1) (x :: us)).bind (fun ts => conn0 a0 l1_0 l1_1 (l1_0.drop (kk + 1)) (kk + 1) ts) = conn0 a0 l1_0 l1_1 l1_0 0 [])
                        clear q1 q2 q3 hcx
                        go_wp2_with (first | (go_at_call 50; first | (refine HC1.out.mono ?_; rintro e w' ⟨rfl, ⟨⟨q, rfl⟩⟩⟩) | (refine (HC3.out _).mono ?_; rintro e w' ⟨rfl, ⟨⟨q2, rfl⟩⟩⟩)) | (at_lookup; first | (refine wpList_lookup_own_int _ rfl _ _ 62 rfl 3 3 .i64 conn_law Try.underlying62 Try.underlying3 (conn_zero _) w1.heap.size (dN + 1) _ rfl HO3.out _ _ rfl (Go.Maps.keyOf_int_mk Try.underlying3 (wf_of HXR.out)) ?_; intro c' hat' hwc'; obtain rfl : c' = (cx : Int) + 1 := (by have := hat'.symm.trans HDY.out; simpa using this); clear hat' hwc') | (refine wpList_lookup_own_int _ rfl _ _ 62 rfl 3 3 .i64 conn_law Try.underlying62 Try.underlying3 (conn_zero _) w1.heap.size dN _ rfl HO2.out _ _ rfl (Go.Maps.keyOf_int_mk Try.underlying3 (wf_of HXR.out)) ?_; intro c' hat' hwc'; obtain rfl : c' = (cx : Int) := (by have := hat'.symm.trans HDX.out; simpa using this); clear hat' hwc')) | (at_mapUpdate; refine wpList_mapUpdate_own _ rfl _ _ _ 62 rfl 3 3 conn_law Try.underlying62 _ w1.heap.size dN _ rfl HO2.out (by have h1 := HL2.out; have h2 := HKN.out; unfold maxLen; omega) _ _ _ rfl rfl (Go.Maps.keyOf_int_mk Try.underlying3 (wf_of HXR.out)) _ [] (plainElem_int Try.underlying3 (wrap64_wf _)) ?_; intro w2 hown hgrow; have HO3 := Aside0.mk (by rw [hwr] at hown; exact hown : w2.ownsMap Try.prog 3 (plainElem Try.prog 3) w1.heap.size (dN + 1) (E.put (.int .i64 x) (.lit (.int .i64 ((cx : Int) + 1))))); have HB3 := Aside0.mk (Below.grown (pw_below_drewN HB2.out _) hgrow HB2.out.size (fun j hj => by cases hj; have := HZ1.out; omega)); have HX3 := Aside0.mk (blk_grown (blk_drewN HX2.out _) hgrow (by have := HZ1.out; simp; omega)); clear hown hgrow))
                        go_roundg (n - (jj + 1))
                        case measure => have := HG2.out; omega
                        case rel => exact ⟨jj + 1, dN + 1, x :: us, _, by go_num, by omega, ⟨Nat.le_refl _⟩, HX3, HB3, HO3, HDS, ⟨by have := HL2.out; simp; omega⟩, HJ3⟩
                    · have hq2 : decide ((0 : Int) ≤ x) = false := decide_eq_false q2
                      have HJ3 := Aside0.mk (by have := HJ2.out; rw [conn1_go HSK.out (by rw [← hcx]; omega)] at this; exact this : (conn1 a0 l1_0 (pn : Int) b (b.drop (jj + 1)) (jj + 1) (x :: us)).bind (fun ts => conn0 a0 l1_0 l1_1 (l1_0.drop (kk + 1)) (kk + 1) ts) = conn0 a0 l1_0 l1_1 l1_0 0 [])
                      clear q1 q2 hcx
                      go_wp2_with (first | (go_at_call 50; first | (refine HC1.out.mono ?_; rintro e w' ⟨rfl, ⟨⟨q, rfl⟩⟩⟩) | (refine (HC3.out _).mono ?_; rintro e w' ⟨rfl, ⟨⟨q2, rfl⟩⟩⟩)) | (at_lookup; first | (refine wpList_lookup_own_int _ rfl _ _ 62 rfl 3 3 .i64 conn_law Try.underlying62 Try.underlying3 (conn_zero _) w1.heap.size (dN + 1) _ rfl HO3.out _ _ rfl (Go.Maps.keyOf_int_mk Try.underlying3 (wf_of HXR.out)) ?_; intro c' hat' hwc'; obtain rfl : c' = (cx : Int) + 1 := (by have := hat'.symm.trans HDY.out; simpa using this); clear hat' hwc') | (refine wpList_lookup_own_int _ rfl _ _ 62 rfl 3 3 .i64 conn_law Try.underlying62 Try.underlying3 (conn_zero _) w1.heap.size dN _ rfl HO2.out _ _ rfl (Go.Maps.keyOf_int_mk Try.underlying3 (wf_of HXR.out)) ?_; intro c' hat' hwc'; obtain rfl : c' = (cx : Int) := (by have := hat'.symm.trans HDX.out; simpa using this); clear hat' hwc')) | (at_mapUpdate; refine wpList_mapUpdate_own _ rfl _ _ _ 62 rfl 3 3 conn_law Try.underlying62 _ w1.heap.size dN _ rfl HO2.out (by have h1 := HL2.out; have h2 := HKN.out; unfold maxLen; omega) _ _ _ rfl rfl (Go.Maps.keyOf_int_mk Try.underlying3 (wf_of HXR.out)) _ [] (plainElem_int Try.underlying3 (wrap64_wf _)) ?_; intro w2 hown hgrow; have HO3 := Aside0.mk (by rw [hwr] at hown; exact hown : w2.ownsMap Try.prog 3 (plainElem Try.prog 3) w1.heap.size (dN + 1) (E.put (.int .i64 x) (.lit (.int .i64 ((cx : Int) + 1))))); have HB3 := Aside0.mk (Below.grown (pw_below_drewN HB2.out _) hgrow HB2.out.size (fun j hj => by cases hj; have := HZ1.out; omega)); have HX3 := Aside0.mk (blk_grown (blk_drewN HX2.out _) hgrow (by have := HZ1.out; simp; omega)); clear hown hgrow))
                      go_roundg (n - (jj + 1))
                      case measure => have := HG2.out; omega
                      case rel => exact ⟨jj + 1, dN + 1, x :: us, _, by go_num, by omega, ⟨Nat.le_refl _⟩, HX3, HB3, HO3, HDS, ⟨by have := HL2.out; simp; omega⟩, HJ3⟩
                  · have hq1 : decide ((1 : Int) < (cx : Int) + 1) = false := decide_eq_false (by omega)
                    have HJ3 := Aside0.mk (by have := HJ2.out; rw [conn1_go HSK.out (by rw [← hcx]; omega)] at this; exact this : (conn1 a0 l1_0 (pn : Int) b (b.drop (jj + 1)) (jj + 1) (x :: us)).bind (fun ts => conn0 a0 l1_0 l1_1 (l1_0.drop (kk + 1)) (kk + 1) ts) = conn0 a0 l1_0 l1_1 l1_0 0 [])
                    clear q1 hcx
                    go_wp2_with (first | (go_at_call 50; first | (refine HC1.out.mono ?_; rintro e w' ⟨rfl, ⟨⟨q, rfl⟩⟩⟩) | (refine (HC3.out _).mono ?_; rintro e w' ⟨rfl, ⟨⟨q2, rfl⟩⟩⟩)) | (at_lookup; first | (refine wpList_lookup_own_int _ rfl _ _ 62 rfl 3 3 .i64 conn_law Try.underlying62 Try.underlying3 (conn_zero _) w1.heap.size (dN + 1) _ rfl HO3.out _ _ rfl (Go.Maps.keyOf_int_mk Try.underlying3 (wf_of HXR.out)) ?_; intro c' hat' hwc'; obtain rfl : c' = (cx : Int) + 1 := (by have := hat'.symm.trans HDY.out; simpa using this); clear hat' hwc') | (refine wpList_lookup_own_int _ rfl _ _ 62 rfl 3 3 .i64 conn_law Try.underlying62 Try.underlying3 (conn_zero _) w1.heap.size dN _ rfl HO2.out _ _ rfl (Go.Maps.keyOf_int_mk Try.underlying3 (wf_of HXR.out)) ?_; intro c' hat' hwc'; obtain rfl : c' = (cx : Int) := (by have := hat'.symm.trans HDX.out; simpa using this); clear hat' hwc')) | (at_mapUpdate; refine wpList_mapUpdate_own _ rfl _ _ _ 62 rfl 3 3 conn_law Try.underlying62 _ w1.heap.size dN _ rfl HO2.out (by have h1 := HL2.out; have h2 := HKN.out; unfold maxLen; omega) _ _ _ rfl rfl (Go.Maps.keyOf_int_mk Try.underlying3 (wf_of HXR.out)) _ [] (plainElem_int Try.underlying3 (wrap64_wf _)) ?_; intro w2 hown hgrow; have HO3 := Aside0.mk (by rw [hwr] at hown; exact hown : w2.ownsMap Try.prog 3 (plainElem Try.prog 3) w1.heap.size (dN + 1) (E.put (.int .i64 x) (.lit (.int .i64 ((cx : Int) + 1))))); have HB3 := Aside0.mk (Below.grown (pw_below_drewN HB2.out _) hgrow HB2.out.size (fun j hj => by cases hj; have := HZ1.out; omega)); have HX3 := Aside0.mk (blk_grown (blk_drewN HX2.out _) hgrow (by have := HZ1.out; simp; omega)); clear hown hgrow))
                    go_roundg (n - (jj + 1))
                    case measure => have := HG2.out; omega
                    case rel => exact ⟨jj + 1, dN + 1, x :: us, _, by go_num, by omega, ⟨Nat.le_refl _⟩, HX3, HB3, HO3, HDS, ⟨by have := HL2.out; simp; omega⟩, HJ3⟩
          · have hljz : ¬ (jj : Int) < (n : Int) := by omega
            have HI3 := Aside0.mk (by have := HJ.out; rw [List.drop_eq_nil_of_le (by have := HN.out; omega)] at this; simpa only [conn1, Option.bind_some] using this : conn0 a0 l1_0 l1_1 (l1_0.drop (kk + 1)) (kk + 1) us = conn0 a0 l1_0 l1_1 l1_0 0 [])
            go_wp2
            go_roundg (m - (kk + 1))
            case measure => have := HG.out; omega
            case rel => exact ⟨kk + 1, dN, us, E, by go_num, by omega, ⟨Nat.le_refl _⟩, HX2, HB2, HO2, HD2, ⟨by have h1 := HL2.out; have h2 := HBM.out.1; have h3 := HN.out; omega⟩, HI3⟩
      · have hltz : ¬ (kk : Int) < (m : Int) := by omega
        have HI3 := Aside0.mk (by have := HI.out; rw [List.drop_eq_nil_of_le (by have := HM.out; omega)] at this; simpa only [conn0] using this : some ts = conn0 a0 l1_0 l1_1 l1_0 0 [])
        go_wp2
        go_ret
        refine ⟨?_, HB.out⟩
        rw [← HE.out]
        unfold connB
        rw [← HI3.out]
        rfl

end Go.Proofs.Ytpmfdggbccbfaaa.Pr
