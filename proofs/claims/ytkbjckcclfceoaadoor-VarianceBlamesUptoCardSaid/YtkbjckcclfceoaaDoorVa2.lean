/-
  Own work. Layer 20: the plain law: variances of expressions, as a function on trees.
-/
import Derived.Test.YtkbjckcclfceoaaDoorVa1
namespace Go.Proofs.YtkbjckcclfceoaaDoor
open Go Go.Aw

theorem Ex.ind {P : Ex → Prop} (h : ∀ op s l n t a ks, (∀ k ∈ ks, P k) → P (.mk op s l n t a ks)) : ∀ e, P e := by
  intro e
  refine Ex.rec (motive_1 := P) (motive_2 := fun ks => ∀ k ∈ ks, P k) ?_ ?_ ?_ e
  · intro op s l n t a ks ih; exact h op s l n t a ks ih
  · intro k hk; cases hk
  · intro k ks h1 h2 x hx
    rcases List.mem_cons.1 hx with rfl | hx
    · exact h1
    · exact h2 x hx

/-- The sign of a sum over a map. -/
def sumS (l : La) : Int := if l.kind ≠ 5 then 0 else match l.parts with
  | [p] => if p.kind = 2 ∧ p.lo ≥ 0 ∨ p.kind = 3 ∧ p.hi ≤ 0 then numberS p else 0
  | _ => 0

def keyB (op : Int) (i : Nat) (s : Int) : Bool := (op == 23 && s == 3) || (op == 24 && (i : Int).tmod 2 == 0)

/-- The signs up to an index. -/
def listT (op : Int) (ks : List Ex) : Nat → List Int
  | 0 => List.replicate ks.length 0
  | i + 1 => match ks[i]? with
    | some k => if keyB op i k.sort then listT op ks i else (listT op ks i).set i 1
    | none => listT op ks i

/-- Whether a key up to an index is not constant. -/
def listBad (op : Int) (ks : List Ex) (v : List Int) : Nat → Bool
  | 0 => false
  | i + 1 => listBad op ks v i || (match ks[i]? with
    | some k => keyB op i k.sort && v.getD i 0 != 0
    | none => false)

def listS2 (op : Int) (ks : List Ex) (v : List Int) : List Int × Bool := if listBad op ks v ks.length then ([], false) else (listT op ks ks.length, true)

def kidD (ks : List Ex) (i : Nat) : Ex := ks.getD i (.mk 0 0 (.mk 0 0 0 [] [] []) 0 ByteArray.empty 0 [])

/-- The signs of the kids, and whether the expression is directed. -/
def signsS (op : Int) (l : La) (ks : List Ex) (v : List Int) : List Int × Bool :=
  let one (s : Int) : List Int × Bool := ([s], s != 0)
  if op = 7 then (if v.getD 0 0 == 0 then ([0, 1, 1], true) else if belowS (kidD ks 2) (kidD ks 1) then ([1, 1, 1], true) else ([-1, 1, 1], belowS (kidD ks 1) (kidD ks 2)))
  else if op = 8 ∨ op = 9 ∨ op = 16 ∨ op = 17 ∨ op = 26 then ([1, 1], true)
  else if op = 18 then ([1, -1], true)
  else if op = 11 ∨ op = 12 ∨ op = 15 then ([-1, 1], true)
  else if op = 10 then one (-1)
  else if op = 14 then ([0, 1], v.getD 0 0 == 0)
  else if op = 19 ∨ op = 35 ∨ op = 21 ∨ op = 32 ∨ op = 33 then one 1
  else if op = 20 then ([1, 0], v.getD 1 0 == 0)
  else if op = 22 then one (numberS l)
  else if op = 31 then one (numberS (kidD ks 0).la)
  else if op = 30 then one (sumS (kidD ks 0).la)
  else if op = 29 then ([1], sizedS (kidD ks 0).sort (kidD ks 0).la)
  else if op = 37 then ([1], (kidD ks 0).la.kind == 8)
  else if op = 28 then ([1, 0, 0], v.getD 1 0 == 0 && v.getD 2 0 == 0)
  else if op = 23 ∨ op = 24 ∨ op = 25 then listS2 op ks v
  else ([], false)

/-- The variances of the kids up to an index, put together. -/
def foldT (v s : List Int) : Nat → Int
  | 0 => 0
  | i + 1 => if s.getD i 0 != 0 then bothS (foldT v s i) (turnedS (v.getD i 0) (s.getD i 0)) else foldT v s i

mutual
def ofS : Ex → Int
  | .mk op s l n t a ks =>
    if formS (.mk op s l n t a ks) = false then 3 else if op = 5 then 1 else
      if (ofL ks).any (· != 0) = false then 0 else
        match signsS op l ks (ofL ks) with
        | (_, false) => 3
        | (s, true) => foldT (ofL ks) s (ofL ks).length
def ofL : List Ex → List Int
  | [] => []
  | k :: ks => ofS k :: ofL ks
end

theorem ofL_eq : ∀ ks, ofL ks = ks.map ofS
  | [] => rfl
  | k :: ks => by simp [ofL, ofL_eq ks]

/-- Not beyond any machine. -/
def La.okB : Nat := 1099511627776
mutual
def Ex.ok : Ex → Prop
  | .mk _ _ _ _ _ _ ks => ks.length ≤ 1099511627776 ∧ Ex.okL ks
def Ex.okL : List Ex → Prop
  | [] => True
  | k :: ks => Ex.ok k ∧ Ex.okL ks
end
theorem Ex.okL_mem : ∀ {ks : List Ex}, Ex.okL ks → ∀ k ∈ ks, Ex.ok k
  | [], _, k, hk => by cases hk
  | x :: ks, h, k, hk => by
    simp only [Ex.okL] at h
    rcases List.mem_cons.1 hk with rfl | hk
    · exact h.1
    · exact Ex.okL_mem h.2 k hk
end Go.Proofs.YtkbjckcclfceoaaDoor
