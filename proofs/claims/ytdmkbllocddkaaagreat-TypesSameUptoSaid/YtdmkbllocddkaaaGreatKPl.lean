/-
  Own work. Loops over two lists, and over one, as plain functions. Own work. The law TypesSame, plain: descriptions are compared as the reference compares them. Own work. TypesSame: for all argument trees.
-/
import Derived.Test.YtdmkbllocddkaaaGreatG1
import Derived.Test.YtdmkbllocddkaaaGreatSh
import Derived.Test.YtdmkbllocddkaaaGreatCd
section
namespace Go.Proofs.YtdmkbllocddkaaaGreat
open Go Go.Bw
theorem idxO_get {α : Type} {l : List α} {i : Nat} {x : α} (h : l[i]? = some x) : idxO l (i : Int) = some x := h
theorem getE {α : Type} {l : List α} {i : Nat} (h : i < l.length) : ∃ x, l[i]? = some x := ⟨l[i], by simp [h]⟩
theorem drop_get {α : Type} : ∀ {l : List α} {i : Nat} {x : α}, l[i]? = some x → l.drop i = x :: l.drop (i + 1)
  | y :: l, 0, x, h => by simp only [List.getElem?_cons_zero, Option.some.injEq] at h; subst h; simp
  | y :: l, i + 1, x, h => by simpa using drop_get (l := l) (by simpa using h)
theorem pairLoop {α β : Type} {a : List α} {b : List β} {L : Int → Option Bool} (p : α → β → Bool) (e : Bool) (hl : a.length = b.length)
    (hs : ∀ (i : Nat) x y, a[i]? = some x → b[i]? = some y → i < a.length → L (i : Int) = bif p x y then L ((i + 1 : Nat) : Int) else some false) (he : L (a.length : Int) = some e) :
    L 0 = some ((a.zip b).all (fun q => p q.1 q.2) && e) := by
  have key : ∀ k i : Nat, k = a.length - i → i ≤ a.length → L (i : Int) = some (((a.drop i).zip (b.drop i)).all (fun q => p q.1 q.2) && e) := by
    intro k
    induction k with
    | zero =>
      intro i hk hi
      have : i = a.length := by omega
      subst this
      rw [he]; simp
    | succ k ih =>
      intro i hk hi
      have hi' : i < a.length := by omega
      obtain ⟨x, hx⟩ := getE hi'
      obtain ⟨y, hy⟩ := getE (l := b) (by omega : i < b.length)
      rw [hs i x y hx hy hi', drop_get hx, drop_get hy, List.zip_cons_cons, List.all_cons]
      cases p x y with
      | false => rfl
      | true => simpa using ih (i + 1) (by omega) (by omega)
  simpa using key a.length 0 (by omega) (by omega)
theorem zip_iff {α : Type} [BEq α] [LawfulBEq α] : ∀ {a b : List α}, a.length = b.length → ((a.zip b).all (fun q => q.1 == q.2) = true ↔ a = b)
  | [], [], _ => by simp
  | x :: a, y :: b, h => by
    rw [List.zip_cons_cons, List.all_cons, Bool.and_eq_true, zip_iff (by simpa using h), beq_iff_eq, List.cons.injEq]
  | [], _ :: _, h => by simp at h
  | _ :: _, [], h => by simp at h
theorem zip_eq {α : Type} [BEq α] [LawfulBEq α] [BEq (List α)] [LawfulBEq (List α)] {a b : List α} (h : a.length = b.length) : (a.zip b).all (fun q => q.1 == q.2) = (a == b) :=
  Bool.eq_iff_iff.2 ((zip_iff h).trans beq_iff_eq.symm)
end Go.Proofs.YtdmkbllocddkaaaGreat
end

section
namespace Go.Proofs.YtdmkbllocddkaaaGreat
open Go Go.Bw
theorem TLattice.ind {P : TLattice → Prop} (h : ∀ x : TLattice, (∀ k ∈ x.Parts, P k) → P x) : ∀ x, P x := by
  intro x
  refine TLattice.rec (motive_1 := P) (motive_2 := fun ks => ∀ k ∈ ks, P k) ?_ ?_ ?_ x
  · intro k lo hi ns ps rs ih; exact h ⟨k, lo, hi, ns, ps, rs⟩ ih
  · intro k hk; cases hk
  · intro k ks h1 h2 x hx
    rcases List.mem_cons.1 hx with rfl | hx
    · exact h1
    · exact h2 x hx
def eqRu (a b : TRule) : Bool := a.Then == b.Then && a.If == b.If
mutual
def eqLa : TLattice → TLattice → Bool
  | ⟨k, lo, hi, ns, ps, rs⟩, ⟨k', lo', hi', ns', ps', rs'⟩ => k == k' && (lo == lo' && (hi == hi' && (ns == ns' && ((rs.length == rs'.length && (rs.zip rs').all (fun q => eqRu q.1 q.2)) && eqLas ps ps'))))
def eqLas : List TLattice → List TLattice → Bool
  | [], [] => true
  | x :: r, y :: s => eqLa x y && eqLas r s
  | _, _ => false
end
theorem eqLas_zip : ∀ {a b : List TLattice}, a.length = b.length → eqLas a b = (a.zip b).all (fun q => eqLa q.1 q.2)
  | [], [], _ => rfl
  | x :: a, y :: b, h => by rw [eqLas, List.zip_cons_cons, List.all_cons, eqLas_zip (by simpa using h)]
  | [], _ :: _, h => by simp at h
  | _ :: _, [], h => by simp at h
theorem eqLas_len : ∀ {a b : List TLattice}, a.length ≠ b.length → eqLas a b = false
  | [], [], h => absurd rfl h
  | x :: a, y :: b, h => by rw [eqLas, eqLas_len (by simpa using h), Bool.and_false]
  | [], _ :: _, _ => rfl
  | _ :: _, [], _ => rfl
variable {B : Nat} (hB : B ≤ 1048576)
section
include hB
theorem same_names {f : List (List UInt8) → List (List UInt8) → Option Bool} {L : List (List UInt8) → List (List UInt8) → Int → Option Bool} (hf : ∀ a b, f a b = (bif (↑(rowsS a).length : Int) != (↑(rowsS b).length : Int) then (some (false)) else L a b 0))
    (hL : ∀ a b s, L a b s = (bif decide (s < (↑(rowsS a).length : Int)) then ((idxO (a) (s)).bind fun x => ((idxO (b) (s)).bind fun y => (bif !(x == y) then (some (false)) else (L a b (IntKind.i64.wrap (s + 1)))))) else (some (true))))
    {a b : List (List UInt8)} (ha : a.length ≤ B) : f a b = some (a == b) := by
  rw [hf]
  simp only [rowsS_len]
  by_cases hl : a.length = b.length
  · have h0 : ((a.length : Int) != (b.length : Int)) = false := by simp [hl]
    rw [h0]
    show L a b 0 = _
    rw [pairLoop (a := a) (b := b) (L := L a b) (fun x y => x == y) true hl ?_ ?_, Bool.and_true, zip_eq hl]
    · intro i x y hx hy hi
      rw [hL, rowsS_len, wrap_nat (by omega)]
      have h1 : decide ((i : Int) < (a.length : Int)) = true := by simpa using hi
      rw [h1, idxO_get hx, idxO_get hy]
      show (bif !(x == y) then _ else _) = _
      cases (x == y) <;> rfl
    · rw [hL, rowsS_len]; simp
  · have h0 : ((a.length : Int) != (b.length : Int)) = true := by simp; omega
    rw [h0]
    have : (a == b) = false := by
      cases h : a == b with
      | false => rfl
      | true => exact absurd (congrArg List.length (eq_of_beq h)) hl
    rw [this]; rfl
theorem p93 {a b : List (List UInt8)} (ha : a.length ≤ B) : P93 a b = some (a == b) := same_names hB P93_eq P93_L1_eq ha
theorem p70 {a b : List (List UInt8)} (ha : a.length ≤ B) : P70 a b = some (a == b) := same_names hB P70_eq P70_L1_eq ha
theorem p95 {a b : TRule} (ha : a.ok B) : P95 a b = some (eqRu a b) := by
  rw [P95_eq, p93 hB ha.1.1, eqRu]
  cases a.Then == b.Then <;> rfl
theorem p94 {a b : List TRule} (hl : a.length ≤ B) (ha : ∀ x ∈ a, x.ok B) : P94f95 a b = some (a.length == b.length && (a.zip b).all (fun q => eqRu q.1 q.2)) := by
  rw [P94f95_eq]
  simp only [TRule.rows_len]
  by_cases h : a.length = b.length
  · have h0 : ((a.length : Int) != (b.length : Int)) = false := by simp [h]
    rw [h0]
    show P94f95_L1 a b 0 = _
    rw [pairLoop (a := a) (b := b) (L := P94f95_L1 a b) eqRu true h ?_ ?_]
    · simp [h]
    · intro i x y hx hy hi
      rw [P94f95_L1_eq, TRule.rows_len, wrap_nat (by omega)]
      have h1 : decide ((i : Int) < (a.length : Int)) = true := by simpa using hi
      rw [h1, idxO_get hx, idxO_get hy]
      show ((P95 x y).bind _) = _
      rw [p95 hB (ha x (List.mem_of_getElem? hx))]
      show (bif !(eqRu x y) then _ else _) = _
      cases eqRu x y <;> rfl
    · rw [P94f95_L1_eq, TRule.rows_len]; simp
  · have h0 : ((a.length : Int) != (b.length : Int)) = true := by simp; omega
    rw [h0]
    simp [h]
theorem p51 : ∀ a b : TLattice, a.ok B → P51 a b = some (eqLa a b) := by
  refine TLattice.ind ?_
  intro a ih b ha
  rw [TLattice.ok_iff] at ha
  obtain ⟨_, _, _, hn, hp, hr⟩ := ha
  rw [P51_eq, p93 hB hn.1, p94 hB hr.1 hr.2]
  have h96 : P96f51 a.Parts b.Parts = some (eqLas a.Parts b.Parts) := by
    rw [P96f51_eq]
    simp only [TLattice.rows_len]
    by_cases h : a.Parts.length = b.Parts.length
    · have h0 : ((a.Parts.length : Int) != (b.Parts.length : Int)) = false := by simp [h]
      rw [h0]
      show P96f51_L1 a.Parts b.Parts 0 = _
      rw [pairLoop (a := a.Parts) (b := b.Parts) (L := P96f51_L1 a.Parts b.Parts) eqLa true h ?_ ?_]
      · rw [eqLas_zip h, Bool.and_true]
      · intro i x y hx hy hi
        rw [P96f51_L1_eq, TLattice.rows_len, wrap_nat (by omega)]
        have h1 : decide ((i : Int) < (a.Parts.length : Int)) = true := by simpa using hi
        have hx' := List.mem_of_getElem? hx
        rw [h1, idxO_get hx, idxO_get hy]
        show ((P51 x y).bind _) = _
        rw [ih x hx' y (TLattice.oks_mem hp.2 hx')]
        show (bif !(eqLa x y) then _ else _) = _
        cases eqLa x y <;> rfl
      · rw [P96f51_L1_eq, TLattice.rows_len]; simp
    · have h0 : ((a.Parts.length : Int) != (b.Parts.length : Int)) = true := by simp; omega
      rw [h0, eqLas_len h]; rfl
  rw [h96]
  obtain ⟨k, lo, hi, ns, ps, rs⟩ := a
  obtain ⟨k', lo', hi', ns', ps', rs'⟩ := b
  simp only [eqLa]
  generalize (k == k') = c1
  generalize (lo == lo') = c2
  generalize (hi == hi') = c3
  generalize (ns == ns') = c4
  generalize (rs.length == rs'.length && (rs.zip rs').all fun q => eqRu q.1 q.2) = c5
  generalize eqLas ps ps' = c6
  cases c1 <;> cases c2 <;> cases c3 <;> cases c4 <;> cases c5 <;> cases c6 <;> rfl
theorem p31 : ∀ a b : TLattice, a.ok B → P31 a b = some (eqLa a b) := by
  refine TLattice.ind ?_
  intro a ih b ha
  rw [TLattice.ok_iff] at ha
  obtain ⟨_, _, _, hn, hp, hr⟩ := ha
  rw [P31_eq, p70 hB hn.1]
  simp only [TLattice.rows_len, TRule.rows_len]
  have hl2 : a.Parts.length = b.Parts.length → P31_L2 a b 0 = some (eqLas a.Parts b.Parts) := by
    intro h
    rw [pairLoop (a := a.Parts) (b := b.Parts) (L := P31_L2 a b) eqLa true h ?_ ?_]
    · rw [eqLas_zip h, Bool.and_true]
    · intro i x y hx hy hi
      rw [P31_L2_eq, TLattice.rows_len, wrap_nat (by omega)]
      have h1 : decide ((i : Int) < (a.Parts.length : Int)) = true := by simpa using hi
      have hx' := List.mem_of_getElem? hx
      rw [h1, idxO_get hx, idxO_get hy]
      show ((P31 x y).bind _) = _
      rw [ih x hx' y (TLattice.oks_mem hp.2 hx')]
      show (bif !(eqLa x y) then _ else _) = _
      cases eqLa x y <;> rfl
    · rw [P31_L2_eq, TLattice.rows_len]; simp
  have hl1 : a.Parts.length = b.Parts.length → a.Rules.length = b.Rules.length → P31_L1 a b false 0 = some ((a.Rules.zip b.Rules).all (fun q => eqRu q.1 q.2) && eqLas a.Parts b.Parts) := by
    intro h h'
    refine pairLoop (a := a.Rules) (b := b.Rules) (L := P31_L1 a b false) eqRu _ h' ?_ ?_
    · intro i x y hx hy hi
      rw [P31_L1_eq, TRule.rows_len, wrap_nat (by omega)]
      have h1 : decide ((i : Int) < (a.Rules.length : Int)) = true := by simpa using hi
      have hx' := hr.2 x (List.mem_of_getElem? hx)
      rw [h1, idxO_get hx, idxO_get hy]
      show (bif !(x.Then == y.Then) then some false else (P70 x.If y.If).bind _) = _
      rw [p70 hB hx'.1.1, eqRu]
      cases x.Then == y.Then with
      | false => rfl
      | true =>
        show (bif !(x.If == y.If) then _ else _) = _
        cases x.If == y.If <;> rfl
    · rw [P31_L1_eq, TRule.rows_len, hl2 h]; simp
  by_cases h : a.Parts.length = b.Parts.length
  · by_cases h' : a.Rules.length = b.Rules.length
    · rw [hl1 h h']
      obtain ⟨k, lo, hi, ns, ps, rs⟩ := a
      obtain ⟨k', lo', hi', ns', ps', rs'⟩ := b
      simp only at h h'
      simp only [eqLa, h, h', beq_self_eq_true, Bool.true_and, bne]
      generalize (k == k') = c1
      generalize (lo == lo') = c2
      generalize (hi == hi') = c3
      generalize (ns == ns') = c4
      generalize ((rs.zip rs').all fun q => eqRu q.1 q.2) = c5
      generalize eqLas ps ps' = c6
      cases c1 <;> cases c2 <;> cases c3 <;> cases c4 <;> cases c5 <;> cases c6 <;> rfl
    · have h0 : ((a.Rules.length : Int) != (b.Rules.length : Int)) = true := by simp; omega
      have h2 : (a.Rules.length == b.Rules.length) = false := by simpa using h'
      have h1 : ((a.Parts.length : Int) != (b.Parts.length : Int)) = false := by simp [h]
      rw [h0, h1]
      obtain ⟨k, lo, hi, ns, ps, rs⟩ := a
      obtain ⟨k', lo', hi', ns', ps', rs'⟩ := b
      simp only at h2
      simp only [eqLa, h2, Bool.false_and, Bool.and_false, bne]
      generalize (k == k') = c1
      generalize (lo == lo') = c2
      generalize (hi == hi') = c3
      generalize (ns == ns') = c4
      cases c1 <;> cases c2 <;> cases c3 <;> cases c4 <;> rfl
  · have h1 : ((a.Parts.length : Int) != (b.Parts.length : Int)) = true := by simp; omega
    have h2 := eqLas_len h
    rw [h1]
    obtain ⟨k, lo, hi, ns, ps, rs⟩ := a
    obtain ⟨k', lo', hi', ns', ps', rs'⟩ := b
    simp only at h2
    simp only [eqLa, h2, Bool.and_false, bne]
    generalize (k == k') = c1
    generalize (lo == lo') = c2
    generalize (hi == hi') = c3
    generalize (ns == ns') = c4
    cases c1 <;> cases c2 <;> cases c3 <;> cases c4 <;> rfl
end
theorem eqRu_self (r : TRule) : eqRu r r = true := by simp [eqRu]
theorem eqLa_self : ∀ a : TLattice, eqLa a a = true := by
  refine TLattice.ind ?_
  intro a ih
  obtain ⟨k, lo, hi, ns, ps, rs⟩ := a
  have h1 : ∀ l : List TRule, (l.zip l).all (fun q => eqRu q.1 q.2) = true := by
    intro l; induction l with
    | nil => rfl
    | cons r l ihl => rw [List.zip_cons_cons, List.all_cons, ihl, eqRu_self]; rfl
  have h2 : ∀ l : List TLattice, (∀ x ∈ l, eqLa x x = true) → eqLas l l = true := by
    intro l; induction l with
    | nil => intro _; rfl
    | cons r l ihl => intro h; rw [eqLas, h r (by simp), ihl fun x hx => h x (by simp [hx])]; rfl
  simp only [eqLa, beq_self_eq_true, Bool.true_and, h1, h2 ps ih]
theorem typesSame_plain {a b : TType} (ha : a.ok 1048576) : P5 a b = some true := by
  have hB : 1048576 ≤ 1048576 := Nat.le_refl _
  have h21 : ∀ b, P21 a b = some (a.Sort_ == b.Sort_ && eqLa a.Lattice b.Lattice) := fun b => by
    rw [P21_eq, p51 hB _ _ ha.2]; cases a.Sort_ == b.Sort_ <;> rfl
  have h22 : P22 a b = some (a.Sort_ == b.Sort_ && eqLa a.Lattice b.Lattice) := by
    rw [P22_eq, p31 hB _ _ ha.2]; cases a.Sort_ == b.Sort_ <;> rfl
  rw [P5_eq, P9_eq, h21, h22, h21]
  simp [eqLa_self]
end Go.Proofs.YtdmkbllocddkaaaGreat
end

section
namespace Go.Proofs.YtdmkbllocddkaaaGreat
open Go Go.Bw
set_option maxRecDepth 100000 in
theorem law_TypesSame (xs : List AV) (h : ArgShs Tryz.prog 1048576 Tryz.f5.params.toList xs) : Bw.Pure env.toCx 5 xs (.ret (boolC true)) := by
  rw [Tryz.params5] at h
  obtain ⟨x, r, rfl, hx, x2, r2, rfl, hx2, hr⟩ := h
  simp only [ArgShs] at hr
  subst hr
  simp only [ArgSh, Tryz.underlying46] at hx hx2
  obtain ⟨n, row, hx, rfl⟩ := hx
  obtain ⟨n2, row2, hx2, rfl⟩ := hx2
  obtain ⟨a, rfl, ha⟩ := TType.sh _ _ hx
  obtain ⟨b, rfl, _⟩ := TType.sh _ _ hx2
  exact P5_ok (typesSame_plain ha)
end Go.Proofs.YtdmkbllocddkaaaGreat
end
