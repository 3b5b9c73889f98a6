-- Printed by a program of this session's own (wip/tools/pp.py) over the kit's print.py; Lean checks it.
import Derived.Test.YtfgabdfnbkmaeaaDoorShelf
import Derived.Test.YtfgabdfnbkmaeaaDoorPr0
import Derived.Test.YtfgabdfnbkmaeaaDoorPr4
import Derived.Test.YtfgabdfnbkmaeaaDoorPr6
namespace Go.Proofs.YtfgabdfnbkmaeaaDoor.Pr
open Go.RowKit Go.Proofs.YtfgabdfnbkmaeaaDoorW.PrintWords Go.Proofs.YtfgabdfnbkmaeaaDoorW.PrintLast Go.Proofs.YtfgabdfnbkmaeaaDoorW.PrintMore
attribute [local go_sem] max2_int min2_int max_two min_two max_three min_three max_four min_four   -- for this text's walks alone
set_option linter.unusedVariables false
set_option linter.unusedSimpArgs false

-- given by hand
/-! ### scan_number: function 24 -/
-- needs scan_run scan_left
-- IMPORT Derived.Test.YtfgabdfnbkmaeaaDoorShelf
/-- strconv.ErrRange is an error. -/
def Tab64 (w : World) : Prop := ∃ te pe, w.cell? ⟨2, 0, none⟩ = some (.iface te pe)
theorem tab_below {w W : World} (h : Tab64 w) (hb : Below w.heap.size w W) : Tab64 W := by
  obtain ⟨te, pe, h⟩ := h
  exact ⟨te, pe, pw_cell_below hb h⟩
theorem tab_drewN {w : World} (h : Tab64 w) (n : Nat) : Tab64 (w.drewN n) := tab_below h (pw_below_drewN (Below.refl _ _) n)
def digP (c : Int) : Bool := decide (48 ≤ c) && decide (c ≤ 57)
def trimB (s : ByteArray) : ByteArray := ⟨(Lib.trimPrefix s.data.toList [45]).toArray⟩
def numV (s : ByteArray) (z : Nat) : Int × Int × Int :=
  match Lib.parseIntB 64 (s.extract 0 z).data.toList with
  | .ok v => if 1000000000000 < v then (0, 0, 4) else if v < -1000000000000 then (0, 0, 4) else (v, (z : Int), 0)
  | _ => (0, 0, 4)
def numS (s : ByteArray) : Int × Int × Int :=
  if runL digP (trimB s).data.toList = 0 then (0, 0, 2)
  else if bt (trimB s) 0 = 48 ∧ 1 < runL digP (trimB s).data.toList + (s.size - (trimB s).size) then (0, 0, 2)
  else numV s (s.size - (trimB s).size + runL digP (trimB s).data.toList)
theorem trimB_le (s : ByteArray) : (trimB s).size ≤ s.size := by
  have h : (trimB s).size = (Lib.trimPrefix s.data.toList [45]).length := by rw [Lib.size_eq]; rfl
  rw [h, Lib.size_eq]
  unfold Lib.trimPrefix
  split
  · simp
  · exact Nat.le_refl _
theorem scan_number.dig (c : Int) (w : World) : Calls Tryd.prog 23 #[.int .u8 c] w fun e w' => e = .returned (.bool (digP c)) ∧ Drawn0 w w' := by
  refine scan_digit.calls c (digP c) w ?_
  unfold scan_digit.f digP
  by_cases h : c ≥ 48
  · rw [if_pos h, decide_eq_true (show 48 ≤ c from h), Bool.true_and]
  · rw [if_neg h, decide_eq_false (show ¬ 48 ≤ c from h), Bool.false_and]
/-- a number, or one that does not fit: no other fault -/
def Fine {α : Type} (x : Lib.NumEnd α) : Prop := (∃ v, x = .ok v) ∨ x = .range
theorem um_fine (M : Nat) : ∀ (l : List UInt8) (acc : Nat), (∀ c ∈ l, 48 ≤ c.toNat ∧ c.toNat ≤ 57) → Fine (Lib.parseUintM M acc l)
  | [], acc, _ => .inl ⟨acc, by rw [Lib.parseUintM]⟩
  | c :: r, acc, h => by
    rw [Lib.parseUintM, if_pos (h c (by simp))]
    split
    · exact .inr rfl
    · split
      · exact .inr rfl
      · exact um_fine M r _ (fun x hx => h x (by simp [hx]))
theorem ub_fine (l : List UInt8) (hl : l ≠ []) (h : ∀ c ∈ l, 48 ≤ c.toNat ∧ c.toNat ≤ 57) : Fine (Lib.parseUintB 64 l) := by
  unfold Lib.parseUintB
  rw [if_neg hl]
  exact um_fine _ _ _ h
theorem ite_fine {a b : Prop} [Decidable a] [Decidable b] (v : Int) : Fine (if a then .range else if b then .range else .ok v) := by
  by_cases h : a
  · rw [if_pos h]; exact .inr rfl
  · rw [if_neg h]
    by_cases k : b
    · rw [if_pos k]; exact .inr rfl
    · rw [if_neg k]; exact .inl ⟨_, rfl⟩
theorem pi_fine (l r : List UInt8) (hr : r ≠ []) (h : ∀ c ∈ r, 48 ≤ c.toNat ∧ c.toNat ≤ 57) (hl : l = r ∨ l = 45 :: r) : Fine (Lib.parseIntB 64 l) := by
  rcases hl with rfl | rfl
  · cases l with
    | nil => exact absurd rfl hr
    | cons c t =>
      have hc := h c (by simp)
      unfold Lib.parseIntB
      dsimp only
      rw [if_neg (by omega)]
      rcases ub_fine _ hr h with ⟨u, hu⟩ | hu
      · rw [hu]; exact ite_fine _
      · rw [hu]; exact .inr rfl
  · unfold Lib.parseIntB
    dsimp only
    rw [if_pos (by decide)]
    rcases ub_fine _ hr h with ⟨u, hu⟩ | hu
    · rw [hu]; exact ite_fine _
    · rw [hu]; exact .inr rfl
theorem runL_take (p : Int → Bool) : ∀ (l : List UInt8) (c : UInt8), c ∈ l.take (runL p l) → p (c.toNat : Int) = true
  | [], c, h => by simp at h
  | x :: l, c, h => by
    rw [runL] at h
    by_cases hx : p (x.toNat : Int) = true
    · rw [if_pos hx, List.take_succ_cons] at h
      rcases List.mem_cons.1 h with rfl | h
      · exact hx
      · exact runL_take p l c h
    · rw [if_neg hx] at h
      simp at h
theorem num_fine (s : ByteArray) (hm : runL digP (trimB s).data.toList ≠ 0) : Fine (Lib.parseIntB 64 (s.extract 0 (s.size - (trimB s).size + runL digP (trimB s).data.toList)).data.toList) := by
  have hd : ∀ c ∈ (trimB s).data.toList.take (runL digP (trimB s).data.toList), 48 ≤ c.toNat ∧ c.toNat ≤ 57 := fun c hc => by
    have h := runL_take digP _ c hc
    unfold digP at h
    rw [Bool.and_eq_true, decide_eq_true_iff, decide_eq_true_iff] at h
    omega
  have hle := runL_le digP (trimB s).data.toList
  have hne : (trimB s).data.toList.take (runL digP (trimB s).data.toList) ≠ [] := fun e => by
    have := congrArg List.length e
    rw [List.length_take] at this
    simp only [List.length_nil] at this
    omega
  refine pi_fine _ _ hne hd ?_
  have hl : (trimB s).data.toList = Lib.trimPrefix s.data.toList [45] := rfl
  have hsz : (trimB s).size = (Lib.trimPrefix s.data.toList [45]).length := by rw [Lib.size_eq]; rfl
  rw [Lib.extract_data, List.drop_zero, Nat.sub_zero, hl, hsz, Lib.size_eq]
  by_cases hp : Lib.hasPrefix s.data.toList [45] = true
  · right
    have ht : Lib.trimPrefix s.data.toList [45] = s.data.toList.drop 1 := by unfold Lib.trimPrefix; rw [if_pos hp]; rfl
    cases hs : s.data.toList with
    | nil => rw [hs] at hp; cases hp
    | cons c r =>
      rw [hs] at hp ht
      have hc : c = 45 := by
        simp only [Lib.hasPrefix] at hp
        exact (by simpa using hp : (45 : UInt8) = c).symm
      rw [ht, hc]
      simp only [List.drop_succ_cons, List.drop_zero, List.length_cons]
      rw [show r.length + 1 - r.length + runL digP r = runL digP r + 1 by omega, List.take_succ_cons]
  · left
    have ht : Lib.trimPrefix s.data.toList [45] = s.data.toList := by unfold Lib.trimPrefix; rw [if_neg hp]
    rw [ht, Nat.sub_self, Nat.zero_add]
theorem ext_size (s : ByteArray) (k : Nat) (h : k ≤ s.size) : (s.extract 0 k).size = k := by rw [ByteArray.size_extract]; omega
set_option maxHeartbeats 4000000 in
theorem scan_number.callsN (s : ByteArray) (hs : s.size ≤ 100000) (w : World) (hTb : Tab64 w) : Calls Tryd.prog 24 #[.string s] w fun e w' => e = .returned (.tuple #[.int .i64 (numS s).1, .int .i64 (numS s).2.1, .int .i64 (numS s).2.2]) ∧ Below w.heap.size w w' := by
  have HTAB := Aside0.mk hTb
  have hle := trimB_le s
  have HTR : Aside0 (∀ w : World, Calls Tryd.prog 26 #[.string s, .string ⟨#[45]⟩] w fun e w' => e = .returned (.string (trimB s)) ∧ w' = w) := Aside0.mk (fun w => Go.Proofs.Tryd.strings_TrimPrefix s ⟨#[45]⟩ w)
  have HRUN := Aside0.mk (scan_run.callsF digP 23 (enters_of Tryd.func23 (by kernel_rfl) rfl) scan_number.dig (trimB s) (by omega))
  have hml := runL_le digP (trimB s).data.toList
  have HSY := Aside0.mk (num_fine s)
  obtain ⟨R, hR⟩ : ∃ R, R = numS s := ⟨_, rfl⟩
  rw [← hR]
  unfold numS at hR
  obtain ⟨D, hD⟩ : ∃ D, D = trimB s := ⟨_, rfl⟩
  rw [← hD] at HTR HRUN hml hle HSY hR
  obtain ⟨m, hm⟩ : ∃ m, m = runL digP D.data.toList := ⟨_, rfl⟩
  rw [← hm] at HRUN hml HSY hR
  rw [← Lib.size_eq] at hml
  obtain ⟨mi, hmi⟩ : ∃ mi, mi = s.size - D.size := ⟨_, rfl⟩
  rw [← hmi] at HSY hR
  have hmz : (s.size : Int) - (D.size : Int) = (mi : Int) := by omega
  obtain ⟨E, hE⟩ : ∃ E, E = D.extract 0 m := ⟨_, rfl⟩
  have hEs : E.size = m := by rw [hE]; exact ext_size D m hml
  have hE2 : D.extract 0 m = E := hE.symm
  have hmD : (m : Int) ≤ (D.size : Int) := by omega
  have HE := Aside0.mk hE
  have HM := Aside0.mk hm
  clear hTb hm hD hE hmi
  by_cases c0 : m = 0
  · rw [if_pos c0] at hR
    subst hR
    go_enter Tryd.func24, Tryd.ntmps24
    go_wp2_with (first | (go_at_call 26; refine (HTR.out _).mono ?_; rintro e w' ⟨rfl, rfl⟩) | (go_at_call 20; refine (HRUN.out _).mono ?_; rintro e w' ⟨rfl, ⟨q, rfl⟩⟩))
    go_ret3
    exact ⟨rfl, pw_below_drewN (Below.refl _ _) _⟩
  · have hEn : E.toList ≠ [] := fun e => c0 (by rw [← hEs, Lib.size_eq, ← ByteArray.toList_eq, e]; rfl)
    have hEi : E.toList.isEmpty = false := by simpa using hEn
    have hm0 : 0 < m := by omega
    have hE0 : 0 < E.size := by omega
    have hx : (E[0].toNat : Int) = bt D 0 := by
      rw [show bt D 0 = _ from bt_nat D 0 (by omega)]
      have h2 : E[0] = D[0]'(by omega) := by have := HE.out; subst this; simp [ByteArray.getElem_extract]
      rw [h2]
    rw [if_neg c0] at hR
    obtain ⟨b, hb⟩ : ∃ b, b = bt D 0 := ⟨_, rfl⟩
    rw [← hb] at hx hR
    clear hb HE HM
    by_cases c1 : b = 48 ∧ 1 < m + mi
    · rw [if_pos c1] at hR
      obtain ⟨c1, c2⟩ := c1
      have c2z : 1 < (m : Int) + (mi : Int) := by omega
      subst hR
      rw [c1] at hx
      clear c0 c1 c2
      go_enter Tryd.func24, Tryd.ntmps24
      go_wp2_with (first | (go_at_call 26; refine (HTR.out _).mono ?_; rintro e w' ⟨rfl, rfl⟩) | (go_at_call 20; refine (HRUN.out _).mono ?_; rintro e w' ⟨rfl, ⟨q, rfl⟩⟩))
      go_ret3
      exact ⟨rfl, pw_below_drewN (Below.refl _ _) _⟩
    · rw [if_neg c1] at hR
      have HSY2 := HSY.out c0
      have HPS := ext_size s (mi + m) (by omega)
      unfold numV at hR
      have hext : ∃ P, P = s.extract 0 (mi + m) := ⟨_, rfl⟩
      obtain ⟨P, hP⟩ := hext
      rw [← hP] at hR HSY2 HPS
      replace hP := hP.symm
      have HC1 : Aside0 (¬ (b = 48 ∧ 1 < m + mi)) := Aside0.mk c1
      rcases HSY2 with ⟨v, hpi⟩ | hpi
      ·
        rw [hpi] at hR
        dsimp only at hR
        have HPI : Aside0 (∀ W, Tab64 W → Calls Tryd.prog 27 #[.string P, .int .i64 10, .int .i64 64] W fun e w' => e = .returned (.tuple #[.int .i64 v, .nilIface]) ∧ Below W.heap.size W w') := Aside0.mk (fun W hT => (Go.Proofs.Tryd.strconv_ParseInt_10_at64_ok P (by omega) v hpi W).mono (by
          rintro e w' ⟨rfl, rfl | ⟨t, rfl⟩⟩
          · exact ⟨rfl, Below.refl _ _⟩
          · exact ⟨rfl, bytes_below (Below.refl _ _) (Nat.le_refl _) _ _⟩))
        clear hpi HSY HPS c1
        by_cases c2 : 1000000000000 < v
        · rw [if_pos c2] at hR
          subst hR
          go_enter Tryd.func24, Tryd.ntmps24
          go_wp2_with (first | (go_at_call 26; refine (HTR.out _).mono ?_; rintro e w' ⟨rfl, rfl⟩) | (go_at_call 20; refine (HRUN.out _).mono ?_; rintro e w' ⟨rfl, ⟨q, rfl⟩⟩) | (go_at_call 27; refine (HPI.out _ (tab_drewN HTAB.out _)).mono ?_; rintro e w' ⟨rfl, hb⟩; have HB2 := Aside0.mk hb; clear hb))
          all_goals first | (exfalso; exact HC1.out ⟨by omega, by omega⟩) | (go_ret3; first | exact ⟨rfl, below_then (pw_below_drewN (Below.refl _ _) _) (below_size (pw_below_drewN (Below.refl _ _) _)) HB2.out⟩ | exact ⟨ret_mid HPS.out, below_then (pw_below_drewN (Below.refl _ _) _) (below_size (pw_below_drewN (Below.refl _ _) _)) HB2.out⟩)
        · rw [if_neg c2] at hR
          by_cases c3 : v < -1000000000000
          · rw [if_pos c3] at hR
            subst hR
            go_enter Tryd.func24, Tryd.ntmps24
            go_wp2_with (first | (go_at_call 26; refine (HTR.out _).mono ?_; rintro e w' ⟨rfl, rfl⟩) | (go_at_call 20; refine (HRUN.out _).mono ?_; rintro e w' ⟨rfl, ⟨q, rfl⟩⟩) | (go_at_call 27; refine (HPI.out _ (tab_drewN HTAB.out _)).mono ?_; rintro e w' ⟨rfl, hb⟩; have HB2 := Aside0.mk hb; clear hb))
            all_goals first | (exfalso; exact HC1.out ⟨by omega, by omega⟩) | (go_ret3; first | exact ⟨rfl, below_then (pw_below_drewN (Below.refl _ _) _) (below_size (pw_below_drewN (Below.refl _ _) _)) HB2.out⟩ | exact ⟨ret_mid HPS.out, below_then (pw_below_drewN (Below.refl _ _) _) (below_size (pw_below_drewN (Below.refl _ _) _)) HB2.out⟩)
          · rw [if_neg c3] at hR
            subst hR
            go_enter Tryd.func24, Tryd.ntmps24
            go_wp2_with (first | (go_at_call 26; refine (HTR.out _).mono ?_; rintro e w' ⟨rfl, rfl⟩) | (go_at_call 20; refine (HRUN.out _).mono ?_; rintro e w' ⟨rfl, ⟨q, rfl⟩⟩) | (go_at_call 27; refine (HPI.out _ (tab_drewN HTAB.out _)).mono ?_; rintro e w' ⟨rfl, hb⟩; have HB2 := Aside0.mk hb; clear hb))
            all_goals first | (exfalso; exact HC1.out ⟨by omega, by omega⟩) | (go_ret3; first | exact ⟨rfl, below_then (pw_below_drewN (Below.refl _ _) _) (below_size (pw_below_drewN (Below.refl _ _) _)) HB2.out⟩ | exact ⟨ret_mid HPS.out, below_then (pw_below_drewN (Below.refl _ _) _) (below_size (pw_below_drewN (Below.refl _ _) _)) HB2.out⟩)
      ·
        rw [hpi] at hR
        dsimp only at hR
        subst hR
        have HPI : Aside0 (∀ W, Tab64 W → Calls Tryd.prog 27 #[.string P, .int .i64 10, .int .i64 64] W fun e w' => ∃ N, e = .returned (.tuple #[.int .i64 (Lib.intSat 64 P.data.toList), .iface 59 (.pointer (some ⟨N, 0, none⟩))]) ∧ Below W.heap.size W w') := Aside0.mk (fun W hT => by
          obtain ⟨te, pe, hT⟩ := hT
          refine (Go.Proofs.Tryd.strconv_ParseInt_10_at64_range P (by omega) hpi (.iface te pe) W hT (.inr ⟨te, pe, rfl⟩)).mono ?_
          rintro e w' ⟨N, rfl, -, -, hb⟩
          exact ⟨N, rfl, hb⟩)
        clear hpi HSY HPS c1
        go_enter Tryd.func24, Tryd.ntmps24
        go_wp2_with (first | (go_at_call 26; refine (HTR.out _).mono ?_; rintro e w' ⟨rfl, rfl⟩) | (go_at_call 20; refine (HRUN.out _).mono ?_; rintro e w' ⟨rfl, ⟨q, rfl⟩⟩) | (go_at_call 27; refine (HPI.out _ (tab_drewN HTAB.out _)).mono ?_; rintro e w' ⟨N, rfl, hb⟩; have HB2 := Aside0.mk hb; clear hb))
        all_goals first | (exfalso; exact HC1.out ⟨by omega, by omega⟩) | (go_ret3; first | exact ⟨rfl, below_then (pw_below_drewN (Below.refl _ _) _) (below_size (pw_below_drewN (Below.refl _ _) _)) HB2.out⟩ | exact ⟨ret_mid HPS.out, below_then (pw_below_drewN (Below.refl _ _) _) (below_size (pw_below_drewN (Below.refl _ _) _)) HB2.out⟩)

end Go.Proofs.YtfgabdfnbkmaeaaDoor.Pr
