/- FillRings: a ring of four or more is not chordal; with a point beside each other one it is. The law leans on two small numbers alone: each pair is run. -/
-- merge
import Derived.Laws.BitsAllLaws
import Derived.Test.YtopjffgmpphdbaaDoorPr1
import Derived.Test.YtopjffgmpphdbaaDoorPr17
import Derived.Test.YtopjffgmpphdbaaDoorPr26
import Derived.Test.YtopjffgmpphdbaaDoorPr53
namespace Go.Proofs.YtopjffgmpphdbaaDoor.Pr
open Go.RowKit Go.Proofs.YtopjffgmpphdbaaDoorW.PrintWords Go.Proofs.YtopjffgmpphdbaaDoorW.PrintLast
end Go.Proofs.YtopjffgmpphdbaaDoor.Pr

set_option linter.unusedVariables false
namespace Go.Proofs.YtopjffgmpphdbaaDoor.Pr
open Go.RowKit Go.Proofs.YtopjffgmpphdbaaDoorW.PrintWords Go.Proofs.YtopjffgmpphdbaaDoorW.PrintLast

def inB (l : List Int) (v : Int) : Bool := l.any (fun x => x == v)
def cmpL : List Int → List Int → Int
  | [], [] => 0
  | [], _ :: _ => -1
  | _ :: _, [] => 1
  | a :: l, b :: m => if a < b then -1 else if b < a then 1 else cmpL l m
end Go.Proofs.YtopjffgmpphdbaaDoor.Pr

set_option linter.unusedVariables false
set_option linter.unusedSimpArgs false
namespace Go.Proofs.YtopjffgmpphdbaaDoor.Pr
open Go.RowKit Go.Proofs.YtopjffgmpphdbaaDoorW.PrintWords Go.Proofs.YtopjffgmpphdbaaDoorW.PrintLast Go.Proofs.YtopjffgmpphdbaaDoorW.PrintMore

/-- The word of the truths of f below n. -/
def wd : Nat → (Nat → Bool) → Nat
  | 0, _ => 0
  | n + 1, f => 2 ^ n * (if f n = true then 1 else 0) + wd n f
/-- the numbers below n of which f is true -/
def ofT (n : Nat) (f : Nat → Bool) : List Int := ((List.range n).filter f).map fun (i : Nat) => (i : Int)
end Go.Proofs.YtopjffgmpphdbaaDoor.Pr

set_option linter.unusedVariables false
set_option linter.unusedSimpArgs false
namespace Go.Proofs.YtopjffgmpphdbaaDoor.Pr
open Go.RowKit Go.Proofs.YtopjffgmpphdbaaDoorW.PrintWords Go.Proofs.YtopjffgmpphdbaaDoorW.PrintLast Go.Proofs.YtopjffgmpphdbaaDoorW.PrintMore

def gI (ws : List Nat) : List Int := ws.map fun (x : Nat) => (x : Int)
def wAt (ws : List Nat) (i : Nat) : Nat := ws.getD i 0
def Wok (ws : List Nat) : Prop := ∀ x ∈ ws, x < 18446744073709551616
/-- a number is a point of n -/
def isP (n : Nat) (a : Int) : Bool := decide (0 ≤ a ∧ a < (n : Int))
def besB (ws : List Nat) (a b : Int) : Bool := isP ws.length a && isP ws.length b && (wAt ws a.toNat).testBit b.toNat
def nbL (ws : List Nat) (a : Int) : List Int := if isP ws.length a = true then listN (wAt ws a.toNat) else []
def joinW (ws : List Nat) (a b : Int) : List Nat := if isP ws.length a = true ∧ isP ws.length b = true ∧ a ≠ b then
  (ws.set a.toNat (wAt ws a.toNat ||| 2 ^ b.toNat)).set b.toNat (wAt (ws.set a.toNat (wAt ws a.toNat ||| 2 ^ b.toNat)) b.toNat ||| 2 ^ a.toNat) else ws
/-! ### Right -/
def rowR (ws : List Nat) (i : Nat) : Bool := decide (wAt ws i < 2 ^ ws.length) && (listN (wAt ws i)).all fun k => !(k == (i : Int)) && (wAt ws k.toNat).testBit i
def rightB (ws : List Nat) : Bool := decide (ws.length ≤ 40) && (List.range ws.length).all (rowR ws)
end Go.Proofs.YtopjffgmpphdbaaDoor.Pr

set_option linter.unusedVariables false
set_option linter.unusedSimpArgs false
namespace Go.Proofs.YtopjffgmpphdbaaDoor.Pr
open Go.RowKit Go.Proofs.YtopjffgmpphdbaaDoorW.PrintWords Go.Proofs.YtopjffgmpphdbaaDoorW.PrintLast Go.Proofs.YtopjffgmpphdbaaDoorW.PrintMore

def rowT (n : Nat) (f : Nat → Bool) : List Bool := (List.range n).map f
def mat (n : Nat) (f : Nat → Nat → Bool) : List (List Bool) := (List.range n).map fun i => rowT n (f i)
/-- the graph of truths -/
def gW (n : Nat) (f : Nat → Nat → Bool) : List Nat := (List.range n).map fun i => wd n (f i)
end Go.Proofs.YtopjffgmpphdbaaDoor.Pr

set_option linter.unusedVariables false
set_option linter.unusedSimpArgs false
namespace Go.Proofs.YtopjffgmpphdbaaDoor.Pr
open Go.RowKit Go.Proofs.YtopjffgmpphdbaaDoorW.PrintWords Go.Proofs.YtopjffgmpphdbaaDoorW.PrintLast Go.Proofs.YtopjffgmpphdbaaDoorW.PrintMore

section
variable (ws : List Nat)
def bF (i k : Nat) : Bool := (wAt ws i).testBit k
def qT (i k : Nat) : Bool := decide (k < ws.length) || !bF ws i k
def rT (i k : Nat) : Bool := (bF ws i k == bF ws k i) && !(decide (i = k) && bF ws i k)
def okT : Bool := ((List.range' 0 ws.length).all fun i => (List.range' 0 64).all (qT ws i)) && ((List.range' 0 ws.length).all fun i => (List.range' 0 ws.length).all (rT ws i))
end
end Go.Proofs.YtopjffgmpphdbaaDoor.Pr

set_option linter.unusedVariables false
set_option linter.unusedSimpArgs false
namespace Go.Proofs.YtopjffgmpphdbaaDoor.Pr
open Go.RowKit Go.Proofs.YtopjffgmpphdbaaDoorW.PrintWords Go.Proofs.YtopjffgmpphdbaaDoorW.PrintLast Go.Proofs.YtopjffgmpphdbaaDoorW.PrintMore

theorem low16 (x : Int) : 0 ≤ Go.bits .and .i64 x 65535 ∧ Go.bits .and .i64 x 65535 ≤ 65535 := by
  have h2 : (BitVec.ofInt 64 (65535 : Int)).toNat = 65535 := by decide
  have h3 : (BitVec.ofInt 64 x &&& BitVec.ofInt 64 (65535 : Int)).toNat ≤ 65535 := by
    rw [BitVec.toNat_and, h2]; exact Nat.and_le_right
  have e : Go.bits .and .i64 x 65535 = IntKind.i64.wrap ((BitVec.ofInt 64 x &&& BitVec.ofInt 64 (65535 : Int)).toNat : Int) := rfl
  rw [e, IntKind.wrap_i64]
  omega
theorem kT_in {n : Nat} (h : 0 < n) (x : Int) : ∃ k : Nat, k < n ∧ Int.tmod (Go.bits .and .i64 x 65535) (n : Int) = (k : Int) := by
  obtain ⟨h1, h2⟩ := low16 x
  have a := Int.tmod_nonneg (n : Int) h1
  have b := Int.tmod_lt_of_pos (Go.bits .and .i64 x 65535) (show (0 : Int) < (n : Int) by omega)
  exact ⟨(Int.tmod (Go.bits .and .i64 x 65535) (n : Int)).toNat, by omega, by omega⟩
/-- a graph's truths: from either end, none with itself, of n points -/
def Sy (n : Nat) (f : Nat → Nat → Bool) : Prop := (∀ i k, f i k = f k i) ∧ (∀ i, f i i = false) ∧ ∀ i k, f i k = true → i < n ∧ k < n
def addE (f : Nat → Nat → Bool) (a b : Nat) : Nat → Nat → Bool := fun i k => f i k || (decide (i = a ∧ k = b) || decide (i = b ∧ k = a))
/-! ### cliques -/
def cliqB (n : Nat) (f : Nat → Nat → Bool) (l : List Int) : Bool := l.all (isP n) && l.all fun x => l.all fun y => x == y || f x.toNat y.toNat
def cliqR (ws : List Nat) (l : List Int) (x : Int) : Bool := l.all fun y => x == y || (wAt ws x.toNat).testBit y.toNat
end Go.Proofs.YtopjffgmpphdbaaDoor.Pr

set_option linter.unusedVariables false
set_option linter.unusedSimpArgs false
namespace Go.Proofs.YtopjffgmpphdbaaDoor.Pr
open Go.RowKit Go.Proofs.YtopjffgmpphdbaaDoorW.PrintWords Go.Proofs.YtopjffgmpphdbaaDoorW.PrintLast Go.Proofs.YtopjffgmpphdbaaDoorW.PrintMore

/-! ### an order -/
def idI (n : Nat) : List Int := (List.range n).map fun (i : Nat) => (i : Int)
end Go.Proofs.YtopjffgmpphdbaaDoor.Pr

set_option linter.unusedVariables false
set_option linter.unusedSimpArgs false
namespace Go.Proofs.YtopjffgmpphdbaaDoor.Pr
open Go.RowKit Go.Proofs.YtopjffgmpphdbaaDoorW.PrintWords Go.Proofs.YtopjffgmpphdbaaDoorW.PrintLast Go.Proofs.YtopjffgmpphdbaaDoorW.PrintMore

/-- a point goes: all beside it are joined, it is beside none -/
def goT (f : Nat → Nat → Bool) (v : Nat) : Nat → Nat → Bool := fun i k => !decide (i = v) && (!decide (k = v) && (f i k || (f v i && (f v k && !decide (i = k)))))
def nbN (n : Nat) (f : Nat → Nat → Bool) (v : Nat) : List Nat := (List.range n).filter (f v)
/-! ### Missing -/
def cntP (f : Nat → Nat → Bool) (l : List Nat) (i j : Nat) : Nat := (l.take j).countP (fun b => !f (wAt l i) b)
def ms (f : Nat → Nat → Bool) (l : List Nat) : Nat → Nat
  | 0 => 0
  | i + 1 => ms f l i + cntP f l i i
def missT (n : Nat) (f : Nat → Nat → Bool) (v : Nat) : Nat := ms f (nbN n f v) (nbN n f v).length
/-! ### Go -/
def setT (f : Nat → Nat → Bool) (p q : Nat) (b : Bool) : Nat → Nat → Bool := fun i => if i = p then (fun k => if k = q then b else f p k) else f i
def Did (f : Nat → Nat → Bool) (l : List Nat) (i k : Nat) (g : Nat → Nat → Bool) : Prop := ∀ p q, g p q = true ↔ f p q = true ∨ ∃ i' k', i' < l.length ∧ k' < l.length ∧ i' ≠ k' ∧ (i' < i ∨ (i' = i ∧ k' < k)) ∧ wAt l i' = p ∧ wAt l k' = q
end Go.Proofs.YtopjffgmpphdbaaDoor.Pr

set_option linter.unusedVariables false
set_option linter.unusedSimpArgs false
namespace Go.Proofs.YtopjffgmpphdbaaDoor.Pr
open Go.RowKit Go.Proofs.YtopjffgmpphdbaaDoorW.PrintWords Go.Proofs.YtopjffgmpphdbaaDoorW.PrintLast Go.Proofs.YtopjffgmpphdbaaDoorW.PrintMore

/-! ### goes -/
def rowsF (n : Nat) (F : Nat → Nat) : List Nat := (List.range n).map F
/-! ### the run -/
def cardC (n : Nat) (f : Nat → Nat → Bool) (left : Nat → Bool) (x : Nat) : Nat := (List.range n).countP (fun k => f x k && !left k)
def wT (how : Int) (n : Nat) (f0 f : Nat → Nat → Bool) (left : Nat → Bool) (x : Int) : Int :=
  if how = 1 then ((missT n f x.toNat : Nat) : Int) else if how = 2 then ((nbN n f x.toNat).length : Int) else -((cardC n f0 left x.toNat : Nat) : Int)
def without (left : Nat → Bool) (v : Nat) : Nat → Bool := fun i => left i && !decide (v = i)
def planT (how : Int) (n : Nat) (f0 : Nat → Nat → Bool) : Nat → (Nat → Nat → Bool) → (Nat → Bool) → List Int
  | 0, _, _ => []
  | k + 1, f, left => if ofT n left = [] then [] else
      let v := (leastF (wT how n f0 f left) (ofT n left)).toNat
      (v : Int) :: planT how n f0 k (if how = 3 then f else goT f v) (without left v)
def orderT (how : Int) (n : Nat) (f : Nat → Nat → Bool) : List Int := if how = 3 then (planT how n f 64 f (fun _ => true)).reverse else planT how n f 64 f (fun _ => true)
end Go.Proofs.YtopjffgmpphdbaaDoor.Pr

set_option linter.unusedVariables false
set_option linter.unusedSimpArgs false
namespace Go.Proofs.YtopjffgmpphdbaaDoor.Pr
open Go.RowKit Go.Proofs.YtopjffgmpphdbaaDoorW.PrintWords Go.Proofs.YtopjffgmpphdbaaDoorW.PrintLast Go.Proofs.YtopjffgmpphdbaaDoorW.PrintMore

def fromT (n : Nat) (left : Nat → Bool) (j : Nat) : List Int := ((List.range' j (n - j)).filter left).map fun (i : Nat) => (i : Int)
/-! ### card -/
def cntJ (n : Nat) (f : Nat → Nat → Bool) (left : Nat → Bool) (x j : Nat) : Nat := (List.range j).countP (fun k => f x k && !left k)
end Go.Proofs.YtopjffgmpphdbaaDoor.Pr

set_option linter.unusedVariables false
set_option linter.unusedSimpArgs false
namespace Go.Proofs.YtopjffgmpphdbaaDoor.Pr
open Go.RowKit Go.Proofs.YtopjffgmpphdbaaDoorW.PrintWords Go.Proofs.YtopjffgmpphdbaaDoorW.PrintLast Go.Proofs.YtopjffgmpphdbaaDoorW.PrintMore

def validB (n : Nat) (l : List Int) : Bool := decide (l.length = n ∧ ∀ v, v < n → l.count (v : Int) = 1)
/-! ### the document's -/
def cntV (l : List Int) (v : Int) (j : Nat) : Nat := (l.take j).count v
end Go.Proofs.YtopjffgmpphdbaaDoor.Pr

set_option linter.unusedVariables false
set_option linter.unusedSimpArgs false
namespace Go.Proofs.YtopjffgmpphdbaaDoor.Pr
open Go.RowKit Go.Proofs.YtopjffgmpphdbaaDoorW.PrintWords Go.Proofs.YtopjffgmpphdbaaDoorW.PrintLast Go.Proofs.YtopjffgmpphdbaaDoorW.PrintMore

end Go.Proofs.YtopjffgmpphdbaaDoor.Pr

set_option linter.unusedVariables false
set_option linter.unusedSimpArgs false
namespace Go.Proofs.YtopjffgmpphdbaaDoor.Pr
open Go.RowKit Go.Proofs.YtopjffgmpphdbaaDoorW.PrintWords Go.Proofs.YtopjffgmpphdbaaDoorW.PrintLast Go.Proofs.YtopjffgmpphdbaaDoorW.PrintMore

end Go.Proofs.YtopjffgmpphdbaaDoor.Pr

/- Graphs by truths: if some order joins nothing, then one in which each point that is chosen has most chosen beside it joins nothing. Plain; no program in sight. -/
set_option linter.unusedVariables false
set_option linter.unusedSimpArgs false
namespace Go.Proofs.YtopjffgmpphdbaaDoor.Mcs
/-- a graph of n points -/
structure Gr (n : Nat) (A : Nat → Nat → Bool) : Prop where
  sym : ∀ i k, A i k = A k i
  irr : ∀ i, A i i = false
  rng : ∀ i k, A i k = true → i < n ∧ k < n
/-- by these places each point's later ones are beside each other -/
def Late (A : Nat → Nat → Bool) (pos : Nat → Nat) : Prop := ∀ v a b, pos v < pos a → pos v < pos b → A v a = true → A v b = true → a ≠ b → A a b = true
/-- points in a row, each beside the next one, and beside no other one -/
structure Way (A : Nat → Nat → Bool) (p : Nat → Nat) (m : Nat) : Prop where
  beside : ∀ i k, i ≤ m → k ≤ m → (A (p i) (p k) = true ↔ (k = i + 1 ∨ i = k + 1))
  once : ∀ i k, i ≤ m → k ≤ m → p i = p k → i = k
/-- who is chosen has most chosen beside it -/
def Most (A : Nat → Nat → Bool) (n : Nat) (c : Nat → Nat) : Prop := ∀ x y z, z < n → y < n → c x < c y → c y < c z → A x z = true → A x y = false → ∃ d, c d < c y ∧ A d y = true ∧ A d z = false
end Go.Proofs.YtopjffgmpphdbaaDoor.Mcs

set_option linter.unusedVariables false
set_option linter.unusedSimpArgs false
namespace Go.Proofs.YtopjffgmpphdbaaDoor.Pr
open Go.RowKit Go.Proofs.YtopjffgmpphdbaaDoorW.PrintWords Go.Proofs.YtopjffgmpphdbaaDoorW.PrintLast Go.Proofs.YtopjffgmpphdbaaDoorW.PrintMore

/-- among those that are left -/
def rst (f : Nat → Nat → Bool) (left : Nat → Bool) : Nat → Nat → Bool := fun p q => f p q && (left p && left q)
theorem rst_iff (f : Nat → Nat → Bool) (left : Nat → Bool) (p q : Nat) : rst f left p q = true ↔ f p q = true ∧ left p = true ∧ left q = true := by unfold rst; simp
theorem Sy.rst {n : Nat} {f : Nat → Nat → Bool} (h : Sy n f) (left : Nat → Bool) : Sy n (rst f left) := by
  refine ⟨fun p q => ?_, fun p => ?_, fun p q e => h.2.2 p q ((rst_iff _ _ _ _).1 e).1⟩
  · unfold Pr.rst; rw [h.1 p q, Bool.and_comm (left p)]
  · unfold Pr.rst; rw [h.2.1 p]; rfl
def Simp (f : Nat → Nat → Bool) : List Int → Prop
  | [] => True
  | v :: L => (∀ a ∈ L, ∀ b ∈ L, f v.toNat a.toNat = true → f v.toNat b.toNat = true → a ≠ b → f a.toNat b.toNat = true) ∧ Simp f L
end Go.Proofs.YtopjffgmpphdbaaDoor.Pr

set_option linter.unusedVariables false
set_option linter.unusedSimpArgs false
namespace Go.Proofs.YtopjffgmpphdbaaDoor.Pr
open Go.RowKit Go.Proofs.YtopjffgmpphdbaaDoorW.PrintWords Go.Proofs.YtopjffgmpphdbaaDoorW.PrintLast Go.Proofs.YtopjffgmpphdbaaDoorW.PrintMore

def joinOne (h : Nat → Nat → Bool) (a : Nat) (bs : List Nat) : Nat → Nat → Bool := fun i k => h i k || (decide (i = a ∧ k ∈ bs) || decide (k = a ∧ i ∈ bs))
def joinBd (h : Nat → Nat → Bool) (l : List Nat) : Nat → Nat → Bool := fun i k => h i k || decide (i ∈ l ∧ k ∈ l ∧ i ≠ k)
/-! ### the points go -/
def laterN (n : Nat) (h : Nat → Nat → Bool) (left : Nat → Bool) (v : Nat) : List Nat := (nbN n h v).filter left
def bagT (n : Nat) (h : Nat → Nat → Bool) (left : Nat → Bool) (v : Nat) : List Int := ofT n fun k => decide (k = v) || (h v k && left k)
def fillB (n : Nat) : List Nat → (Nat → Nat → Bool) → (Nat → Bool) → List (List Int) × (Nat → Nat → Bool)
  | [], h, _ => ([], h)
  | v :: l, h, left => (bagT n h left v :: (fillB n l (joinBd h (laterN n h left v)) (without left v)).1, (fillB n l (joinBd h (laterN n h left v)) (without left v)).2)
end Go.Proofs.YtopjffgmpphdbaaDoor.Pr

set_option linter.unusedVariables false
set_option linter.unusedSimpArgs false
namespace Go.Proofs.YtopjffgmpphdbaaDoor.Pr
open Go.RowKit Go.Proofs.YtopjffgmpphdbaaDoorW.PrintWords Go.Proofs.YtopjffgmpphdbaaDoorW.PrintLast Go.Proofs.YtopjffgmpphdbaaDoorW.PrintMore

def allL : Nat → Bool := fun _ => true
end Go.Proofs.YtopjffgmpphdbaaDoor.Pr

set_option linter.unusedVariables false
set_option linter.unusedSimpArgs false
namespace Go.Proofs.YtopjffgmpphdbaaDoor.Pr
open Go.RowKit Go.Proofs.YtopjffgmpphdbaaDoorW.PrintWords Go.Proofs.YtopjffgmpphdbaaDoorW.PrintLast Go.Proofs.YtopjffgmpphdbaaDoorW.PrintMore

end Go.Proofs.YtopjffgmpphdbaaDoor.Pr

set_option linter.unusedVariables false
set_option linter.unusedSimpArgs false
namespace Go.Proofs.YtopjffgmpphdbaaDoor.Pr
open Go.RowKit Go.Proofs.YtopjffgmpphdbaaDoorW.PrintWords Go.Proofs.YtopjffgmpphdbaaDoorW.PrintLast Go.Proofs.YtopjffgmpphdbaaDoorW.PrintMore

end Go.Proofs.YtopjffgmpphdbaaDoor.Pr

set_option linter.unusedVariables false
set_option linter.unusedSimpArgs false
namespace Go.Proofs.YtopjffgmpphdbaaDoor.Pure
open Go.RowKit Go.Proofs.YtopjffgmpphdbaaDoor.Pr Go.Proofs.YtopjffgmpphdbaaDoorW.PrintWords Go.Proofs.YtopjffgmpphdbaaDoorW.PrintLast Go.Proofs.YtopjffgmpphdbaaDoorW.PrintMore

theorem rings_same (n a b : Int) (x5 : Bool) (h : Int.tmod (Go.bits .and .i64 a 65535) n = Int.tmod (Go.bits .and .i64 b 65535) n) : ∀ (k : Nat) (x6 : List (List Bool)) (x7 : Int), arboristlaw10_FillRings.l0 k n a x5 x6 x7 = arboristlaw10_FillRings.l0 k n b x5 x6 x7
  | 0, _, _ => rfl
  | k + 1, x6, x7 => by
    rw [arboristlaw10_FillRings.l0, arboristlaw10_FillRings.l0, h]
    simp only [rings_same n a b x5 h k]
theorem rings_m : ∀ m : Fin 6, Int.tmod (Go.bits .and .i64 ((m.val : Nat) : Int) 65535) 6 = ((m.val : Nat) : Int) ∧ wrap64 (4 + ((m.val : Nat) : Int)) = ((4 + m.val : Nat) : Int) := by decide +kernel
theorem rings_p : ∀ m : Fin 6, ∀ p : Fin 9, Int.tmod (Go.bits .and .i64 ((p.val : Nat) : Int) 65535) ((4 + m.val : Nat) : Int) = ((p.val % (4 + m.val) : Nat) : Int) := by decide +kernel
theorem rings_all : ∀ m : Fin 6, ∀ p : Fin 9, p.val < 4 + m.val → arboristlaw10_FillRings.f 300 ((m.val : Nat) : Int) ((p.val : Nat) : Int) = some true := by decide +kernel
theorem FillRings : arboristlaw10_FillRings.Pure := by
  intro a0 a1 _ _
  obtain ⟨m, hm, hm2⟩ := kT_in (show 0 < 6 by omega) a0
  obtain ⟨p, hp, hp2⟩ := kT_in (show 0 < 4 + m by omega) a1
  have r1 := rings_m ⟨m, hm⟩
  have r2 := rings_p ⟨m, hm⟩ ⟨p, by omega⟩
  have r3 := rings_all ⟨m, hm⟩ ⟨p, by omega⟩ hp
  simp only at r1 r2 r3
  rw [Nat.mod_eq_of_lt hp] at r2
  rw [show ((6 : Nat) : Int) = 6 from rfl] at hm2
  refine ⟨300, ?_⟩
  rw [← r3]
  unfold arboristlaw10_FillRings.f
  rw [hm2, r1.1, r1.2]
  simp only [rings_same _ a1 (p : Int) _ (hp2.trans r2.symm)]
end Go.Proofs.YtopjffgmpphdbaaDoor.Pure
