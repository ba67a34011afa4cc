/-
  Own work. DecideBelow, plain: the order of results is what the reference says, reflexive, transitive, antisymmetric. Own work. DecideBelow, plain: the law.
-/
import Derived.Test.YtcngmkedekmkhaaGreatG1
import Derived.Test.YtcngmkedekmkhaaGreatKPl
import Derived.Test.YtcngmkedekmkhaaGreatSh
section
namespace Go.Proofs.YtcngmkedekmkhaaGreat
open Go Go.Bw
theorem oneLoop {α : Type} {a : List α} {L : Int → Option Bool} (p : α → Bool) (e : Bool) (hs : ∀ (i : Nat) x, a[i]? = some x → i < a.length → L (i : Int) = bif p x then L ((i + 1 : Nat) : Int) else some false) (he : L (a.length : Int) = some e) :
    L 0 = some (a.all p && e) := by
  have key : ∀ k i : Nat, k = a.length - i → i ≤ a.length → L (i : Int) = some ((a.drop i).all p && e) := by
    intro k
    induction k with
    | zero =>
      intro i hk hi
      have : i = a.length := by omega
      subst this
      rw [he]; simp
    | succ k ih =>
      intro i hk hi
      have hi' : i < a.length := by omega
      obtain ⟨x, hx⟩ := getE hi'
      rw [hs i x hx hi', drop_get hx, List.all_cons]
      cases p x with
      | false => rfl
      | true => simpa using ih (i + 1) (by omega) (by omega)
  simpa using key a.length 0 (by omega) (by omega)
def idxOf {α : Type} (p : α → Bool) : List α → Int → Int
  | [], _ => -1
  | x :: r, i => bif p x then i else idxOf p r (i + 1)
theorem findLoop {α : Type} {a : List α} {L : Int → Option Int} (p : α → Bool) (hs : ∀ (i : Nat) x, a[i]? = some x → i < a.length → L (i : Int) = bif p x then some (i : Int) else L ((i + 1 : Nat) : Int)) (he : L (a.length : Int) = some (-1)) :
    L 0 = some (idxOf p a 0) := by
  have key : ∀ k i : Nat, k = a.length - i → i ≤ a.length → L (i : Int) = some (idxOf p (a.drop i) i) := by
    intro k
    induction k with
    | zero =>
      intro i hk hi
      have : i = a.length := by omega
      subst this
      rw [he]; simp [idxOf]
    | succ k ih =>
      intro i hk hi
      have hi' : i < a.length := by omega
      obtain ⟨x, hx⟩ := getE hi'
      rw [hs i x hx hi', drop_get hx, idxOf]
      cases p x with
      | true => rfl
      | false => simpa using ih (i + 1) (by omega) (by omega)
  simpa using key a.length 0 (by omega) (by omega)
theorem idxOf_spec {α : Type} (p : α → Bool) : ∀ (a : List α) (j : Nat), (idxOf p a j = -1 ∧ ∀ x ∈ a, p x = false) ∨ ∃ (i : Nat) (x : α), idxOf p a j = ((j + i : Nat) : Int) ∧ a[i]? = some x ∧ p x = true ∧ ∀ k y, k < i → a[k]? = some y → p y = false
  | [], j => .inl ⟨rfl, by simp⟩
  | x :: r, j => by
    rw [idxOf]
    cases hp : p x with
    | true => exact .inr ⟨0, x, by simp, by simp, hp, fun k y hk => by omega⟩
    | false =>
      have h := idxOf_spec p r (j + 1)
      simp only [cond_false]
      have e : ((j : Nat) : Int) + 1 = ((j + 1 : Nat) : Int) := by omega
      rw [e]
      rcases h with ⟨h1, h2⟩ | ⟨i, y, h1, h2, h3, h4⟩
      · refine .inl ⟨h1, fun z hz => ?_⟩
        rcases List.mem_cons.1 hz with rfl | hz
        · exact hp
        · exact h2 z hz
      · refine .inr ⟨i + 1, y, by rw [h1]; congr 1; omega, by simpa using h2, h3, fun k z hk hz => ?_⟩
        cases k with
        | zero => simp only [List.getElem?_cons_zero, Option.some.injEq] at hz; subst hz; exact hp
        | succ k => exact h4 k z (by omega) (by simpa using hz)
theorem idxOf_nonneg {α : Type} {p : α → Bool} {a : List α} : decide (idxOf p a 0 ≥ 0) = a.any p := by
  rcases idxOf_spec p a 0 with ⟨h1, h2⟩ | ⟨i, x, h1, h2, h3, _⟩
  · have e : idxOf p a 0 = -1 := h1
    rw [e]
    have : a.any p = false := by
      rw [List.any_eq_false]; intro x hx; simp [h2 x hx]
    rw [this]; rfl
  · have e : idxOf p a 0 = ((0 + i : Nat) : Int) := h1
    rw [e]
    have : a.any p = true := List.any_eq_true.2 ⟨x, List.mem_of_getElem? h2, h3⟩
    rw [this]; simp
theorem index_eq (a : List (List UInt8)) (x : List UInt8) (ha : a.length < 9223372036854775807) : P137 a x = some (idxOf (fun y => x == y) a 0) := by
  rw [P137_eq, B137]
  refine findLoop (fun y => x == y) (fun i y hy hi => ?_) ?_
  · rw [P137_L1_eq, B137_L1]
    have : decide ((i : Int) < ((rowsS a).length : Int)) = true := by rw [rowsS_len]; simp; omega
    rw [this, cond_true, idxO_get hy, Option.bind_some, wrapS i (by omega)]
  · rw [P137_L1_eq, B137_L1]
    have : decide ((a.length : Int) < ((rowsS a).length : Int)) = false := by rw [rowsS_len]; simp
    rw [this]; rfl
theorem contains_eq (a : List (List UInt8)) (x : List UInt8) (ha : a.length < 9223372036854775807) : P116 a x = some (a.any fun y => x == y) := by
  rw [P116_eq, B116, index_eq a x ha, Option.bind_some, idxOf_nonneg]
theorem has_eq (a : List (List UInt8)) (x : List UInt8) (ha : a.length < 9223372036854775807) : P80 a x = some (a.any fun y => x == y) := by
  rw [P80_eq, B80, contains_eq a x ha]; rfl
theorem subset_eq (a b : List (List UInt8)) (ha : a.length < 9223372036854775807) (hb : b.length < 9223372036854775807) : P41 a b = some (a.all fun x => b.any fun y => x == y) := by
  rw [P41_eq, B41]
  have h := oneLoop (a := a) (L := fun i => P41_L1 a b i) (fun x => b.any fun y => x == y) true (fun i x hx hi => by
    show P41_L1 a b i = _
    rw [P41_L1_eq, B41_L1]
    have : decide ((i : Int) < ((rowsS a).length : Int)) = true := by rw [rowsS_len]; simp; omega
    rw [this, cond_true, idxO_get hx, Option.bind_some, has_eq b x hb, Option.bind_some, wrapS i (by omega)]
    cases b.any fun y => x == y <;> rfl) (by
    show P41_L1 a b _ = _
    rw [P41_L1_eq, B41_L1]
    have : decide ((a.length : Int) < ((rowsS a).length : Int)) = false := by rw [rowsS_len]; simp
    rw [this]; rfl)
  simpa using h
theorem anyLoop {α : Type} {a : List α} {L : Int → Option Bool} (p : α → Bool) (hs : ∀ (i : Nat) x, a[i]? = some x → i < a.length → L (i : Int) = bif p x then some true else L ((i + 1 : Nat) : Int)) (he : L (a.length : Int) = some false) :
    L 0 = some (a.any p) := by
  have key : ∀ k i : Nat, k = a.length - i → i ≤ a.length → L (i : Int) = some ((a.drop i).any p) := by
    intro k
    induction k with
    | zero =>
      intro i hk hi
      have : i = a.length := by omega
      subst this
      rw [he]; simp
    | succ k ih =>
      intro i hk hi
      have hi' : i < a.length := by omega
      obtain ⟨x, hx⟩ := getE hi'
      rw [hs i x hx hi', drop_get hx, List.any_cons]
      cases p x with
      | true => rfl
      | false => simpa using ih (i + 1) (by omega) (by omega)
  simpa using key a.length 0 (by omega) (by omega)
theorem rHas_eq (a : List (List UInt8)) (x : List UInt8) (ha : a.length < 9223372036854775807) : P43 a x = some (a.any fun y => y == x) := by
  rw [P43_eq, B43]
  refine anyLoop (fun y => y == x) (fun i y hy hi => ?_) ?_
  · rw [P43_L1_eq, B43_L1]
    have : decide ((i : Int) < ((rowsS a).length : Int)) = true := by rw [rowsS_len]; simp; omega
    rw [this, cond_true, idxO_get hy, Option.bind_some, wrapS i (by omega)]
  · rw [P43_L1_eq, B43_L1]
    have : decide ((a.length : Int) < ((rowsS a).length : Int)) = false := by rw [rowsS_len]; simp
    rw [this]; rfl
theorem gtB (x y : List UInt8) : (!(Op.bytesLess x y || x == y)) = Op.bytesLess y x := by
  rcases bl_tri x y with rfl | h | h
  · simp [bl_irrefl]
  · simp [h, bl_asymm h]
  · have : (x == y) = false := by
      simp only [beq_eq_false_iff_ne, ne_eq]
      rintro rfl; rw [bl_irrefl] at h; cases h
    simp [h, bl_asymm h, this]
theorem take_mem {α : Type} {a : List α} {i : Nat} {x z : α} (h : a[i]? = some x) : z ∈ a.take (i + 1) ↔ z ∈ a.take i ∨ z = x := by
  rw [List.take_add_one, h]; simp
theorem of_tri (a : List (List UInt8)) (ha : a.length ≤ 1048576) : Tri (P19 a) fun o => rising o = true ∧ (∀ x, x ∈ o ↔ x ∈ a) ∧ o.length ≤ a.length := by
  rw [P19_eq, B19]
  refine loop_tri (L := fun i b => P19_L1 a b i) (len := a.length) (fun i b => rising b = true ∧ (∀ x, x ∈ b ↔ x ∈ a.take i) ∧ b.length ≤ i) (fun i b hi hI next => ?_) (fun b hI => ?_) 0 [] (by omega) ⟨rfl, by simp, by simp⟩
  · obtain ⟨h1, h2, h3⟩ := hI
    obtain ⟨x, hx⟩ := getE hi
    show Tri (P19_L1 a b i) _
    rw [P19_L1_eq, B19_L1]
    have e : decide ((i : Int) < ((rowsS a).length : Int)) = true := by rw [rowsS_len]; simp; omega
    rw [e, cond_true, idxO_get hx, Option.bind_some, rHas_eq b x (by omega), Option.bind_some, Option.bind_some, wrapS i (by omega)]
    cases hh : b.any fun y => y == x with
    | true =>
      obtain ⟨y, hy, hy2⟩ := List.any_eq_true.1 hh
      rw [beq_iff_eq] at hy2; subst hy2
      exact next b ⟨h1, fun z => by
        rw [take_mem hx, h2]
        exact ⟨.inl, fun h => h.elim id fun e => e ▸ (h2 y).1 hy⟩, by omega⟩
    | false =>
      have hn : x ∉ b := fun h => by
        have := List.any_eq_false.1 hh x h
        simp at this
      have e2 : decide ((b ++ [x]).length ≤ 274877906944) = true := by simp; omega
      have e3 : IntKind.i64.wrap (((rowsS b ++ [List.take 1 (AV.v (Value.string ⟨⟨x⟩⟩) :: (List.map AV.v []).append [])]).length : Int) - 1) = (b.length : Int) := by
        rw [List.length_append, rowsS_len]
        rw [wrap64 (by simp; try omega) (by simp; try omega)]; simp; try omega
      rw [cond_false, e2, cond_true, e3]
      obtain ⟨o, g1, g2, g3, g4⟩ := ins_spec (G := fun o k => P19_L2 a b i x false x o k) (K := fun o => P19_L1 a o ((i + 1 : Nat) : Int)) (M := 1048576) (fun o => by
        show P19_L2 a b i x false x o 0 = _
        rw [P19_L2_eq, B19_L2, wrapS i (by omega)]; rfl) (fun o k u v hk hu hv => by
        show P19_L2 a b i x false x o _ = _
        rw [P19_L2_eq, B19_L2]
        have d1 : decide (((k + 1 : Nat) : Int) > 0) = true := decide_eq_true (by omega)
        have d2 : IntKind.i64.wrap (((k + 1 : Nat) : Int) - 1) = (k : Int) := by rw [wrap64 (by omega) (by omega)]; try omega
        have hv2 : (o.set k v)[k + 1]? = some v := by rw [List.getElem?_set_ne (by omega)]; exact hv
        have d3 : ((k + 1 : Nat) : Int).toNat = k + 1 := rfl
        have d4 : (k : Int).toNat = k := rfl
        rw [d1, cond_true, d2, idxO_get hu, idxO_get hv, Option.bind_some, Option.bind_some, gtB, Option.bind_some, Option.bind_some, Option.bind_some, d4, idxO_get hv2, Option.bind_some, d3, wrapS i (by omega)]) x b.length b [] (by omega) rfl (by simpa using h1) hn (by simp)
      have g1 : P19_L2 a b i x false x (b ++ [x]) (b.length : Int) = P19_L1 a o ((i + 1 : Nat) : Int) := g1
      rw [g1]
      exact next o ⟨g2, fun z => by rw [g3, take_mem hx, h2]; simp, by simp at g4; omega⟩
  · obtain ⟨h1, h2, h3⟩ := hI
    show Tri (P19_L1 a b _) _
    rw [P19_L1_eq, B19_L1]
    have e : decide ((a.length : Int) < ((rowsS a).length : Int)) = false := by rw [rowsS_len]; simp
    rw [e]
    exact ⟨b, rfl, h1, fun x => by rw [h2, List.take_length], h3⟩
theorem minus_tri (a b : List (List UInt8)) (ha : a.length ≤ 1048576) (hb : b.length ≤ 1048576) : Tri (P81 a b) fun o => ∀ x, x ∈ o ↔ x ∈ a ∧ x ∉ b := by
  rw [P81_eq, B81]
  refine loop_tri (L := fun i s => P81_L1 a b s i) (len := a.length) (fun i s => (∀ x, x ∈ s ↔ x ∈ a.take i ∧ x ∉ b) ∧ s.length ≤ i) (fun i s hi hI next => ?_) (fun s hI => ?_) 0 [] (by omega) ⟨by simp, by simp⟩
  · obtain ⟨h2, h3⟩ := hI
    obtain ⟨x, hx⟩ := getE hi
    show Tri (P81_L1 a b s i) _
    rw [P81_L1_eq, B81_L1]
    have e : decide ((i : Int) < ((rowsS a).length : Int)) = true := by rw [rowsS_len]; simp; omega
    rw [e, cond_true, idxO_get hx, Option.bind_some, rHas_eq b x (by omega), Option.bind_some, Option.bind_some, wrapS i (by omega)]
    have e2 : decide ((s ++ [x]).length ≤ 274877906944) = true := by simp; omega
    rw [e2, cond_true]
    cases hh : b.any fun y => y == x with
    | true =>
      obtain ⟨y, hy, hy2⟩ := List.any_eq_true.1 hh
      rw [beq_iff_eq] at hy2; subst hy2
      exact next s ⟨fun z => by
        rw [take_mem hx, h2]
        constructor
        · rintro ⟨h, g⟩; exact ⟨.inl h, g⟩
        · rintro ⟨h | rfl, g⟩
          · exact ⟨h, g⟩
          · exact absurd hy g, by omega⟩
    | false =>
      have hn : x ∉ b := fun h => by
        have := List.any_eq_false.1 hh x h
        simp at this
      exact next (s ++ [x]) ⟨fun z => by
        rw [take_mem hx, List.mem_append, h2, List.mem_singleton]
        constructor
        · rintro (⟨h, g⟩ | rfl)
          · exact ⟨.inl h, g⟩
          · exact ⟨.inr rfl, hn⟩
        · rintro ⟨h | rfl, g⟩
          · exact .inl ⟨h, g⟩
          · exact .inr rfl, by simp; omega⟩
  · obtain ⟨h2, h3⟩ := hI
    show Tri (P81_L1 a b s _) _
    rw [P81_L1_eq, B81_L1]
    have e : decide ((a.length : Int) < ((rowsS a).length : Int)) = false := by rw [rowsS_len]; simp
    rw [e, cond_false]
    obtain ⟨o, e, _, h5, _⟩ := of_tri s (by omega)
    rw [e]
    exact ⟨o, rfl, fun x => by rw [h5, h2, List.take_length]⟩
def subB (a b : List (List UInt8)) : Bool := a.all fun x => b.any fun y => x == y
theorem subB_iff {a b : List (List UInt8)} : subB a b = true ↔ ∀ x ∈ a, x ∈ b := by
  unfold subB
  simp
theorem rSubset_eq (a b : List (List UInt8)) (ha : a.length ≤ 1048576) (hb : b.length ≤ 1048576) : P42 a b = some (subB a b) := by
  rw [P42_eq, B42]
  obtain ⟨o, e, h⟩ := minus_tri a b ha hb
  rw [e, Option.bind_some, rowsS_len]
  congr 1
  rw [Bool.eq_iff_iff, subB_iff]
  cases o with
  | nil => simp at h ⊢; exact h
  | cons x o =>
    have h1 := (h x).1 (by simp)
    have : ((((x :: o).length : Nat) : Int) == 0) = false := by simp; omega
    rw [this]
    constructor
    · intro h; cases h
    · intro g; exact absurd (g x h1.1) h1.2
theorem same_refl (a : List (List UInt8)) (ha : a.length ≤ 1048576) : P18 a a = some true := by
  rw [P18_eq, B18]
  have e : (((rowsS a).length : Int) != ((rowsS a).length : Int)) = false := by simp
  rw [e, cond_false]
  have h := oneLoop (a := a) (L := fun i => P18_L1 a a i) (fun _ => true) true (fun i x hx hi => by
    show P18_L1 a a i = _
    rw [P18_L1_eq, B18_L1]
    have : decide ((i : Int) < ((rowsS a).length : Int)) = true := by rw [rowsS_len]; simp; omega
    rw [this, cond_true, idxO_get hx, Option.bind_some, Option.bind_some, wrapS i (by omega)]
    simp) (by
    show P18_L1 a a _ = _
    rw [P18_L1_eq, B18_L1]
    have : decide ((a.length : Int) < ((rowsS a).length : Int)) = false := by rw [rowsS_len]; simp
    rw [this]; rfl)
  rw [h]; simp
theorem sameOf {a b : List (List UInt8)} (ha : a.length ≤ 1048576) (hb : b.length ≤ 1048576) (h : subB a b = true) (g : subB b a = true) : (P19 a).bind (fun y => (P19 b).bind fun z => (P18 y z).bind fun r => some r) = some true := by
  obtain ⟨o, e, h1, h2, h3⟩ := of_tri a ha
  obtain ⟨p, f, g1, g2, g3⟩ := of_tri b hb
  rw [subB_iff] at h g
  have : o = p := rising_ext h1 g1 fun x => by rw [h2, g2]; exact ⟨h x, g x⟩
  subst this
  rw [e, f, Option.bind_some, Option.bind_some, same_refl o (by omega)]; rfl
def belowS (a b : TDatum) : Bool := bif a.Sort_ != b.Sort_ then false else bif a.Sort_ == 1 then decide (a.N ≤ b.N) else bif a.Sort_ == 2 then decide (a.N ≤ b.N) else bif a.Sort_ == 3 then a.Name == b.Name else bif a.Sort_ == 4 then subB a.Names b.Names else false
theorem some_bif {α : Type} (c : Bool) (x y : α) : (bif c then some x else some y) = some (bif c then x else y) := by cases c <;> rfl
theorem below_eq {a b : TDatum} (ha : a.Names.length ≤ 1048576) (hb : b.Names.length ≤ 1048576) : P16 a b = some (belowS a b) := by
  rw [P16_eq, B16, subset_eq _ _ (by omega) (by omega), Option.bind_some]
  simp only [some_bif]; rfl
theorem rBelow_eq {a b : TDatum} (ha : a.Names.length ≤ 1048576) (hb : b.Names.length ≤ 1048576) : P17 a b = some (belowS a b) := by
  rw [P17_eq, B17, rSubset_eq _ _ ha hb, Option.bind_some]
  simp only [some_bif]; rfl
end Go.Proofs.YtcngmkedekmkhaaGreat
end

section
namespace Go.Proofs.YtcngmkedekmkhaaGreat
open Go Go.Bw
theorem smallArgs_tri {l : List TDatum} (hl : l.length ≤ 1048576) (h : ∀ d ∈ l, d.Names.length ≤ 1048576) : Tri (P14 l) fun _ => True := by
  rw [P14_eq, B14]
  cases decide (((TDatum.rows l).length : Int) > 12) with
  | true => exact ⟨_, rfl, trivial⟩
  | false =>
    rw [cond_false]
    refine loop_tri (L := fun i b => P14_L1 l b i) (len := l.length) (fun _ _ => True) (fun i b hi _ next => ?_) (fun b _ => ?_) 0 false (by omega) trivial
    · show Tri (P14_L1 l b i) _
      rw [P14_L1_eq, B14_L1]
      obtain ⟨x, hx⟩ := getE hi
      have hn := h x (List.mem_of_getElem? hx)
      have e : decide ((i : Int) < ((TDatum.rows l).length : Int)) = true := by rw [TDatum.rows_len]; simp; omega
      rw [e, cond_true, idxO_get hx, Option.bind_some, Option.bind_some]
      cases decide (((rowsS x.Names).length : Int) > 20) with
      | true => exact ⟨_, rfl, trivial⟩
      | false =>
        rw [cond_false]
        cases decide (((x.3).length : Int) > 100) with
        | true => exact ⟨_, rfl, trivial⟩
        | false =>
          rw [cond_false]
          refine loop_tri (L := fun k c => P14_L2 l b i x x c k) (len := x.Names.length) (fun _ _ => True) (fun k c hk _ next2 => ?_) (fun c _ => ?_) 0 b (by omega) trivial
          · show Tri (P14_L2 l b i x x c k) _
            rw [P14_L2_eq, B14_L2]
            obtain ⟨y, hy⟩ := getE hk
            have e : decide ((k : Int) < ((rowsS x.Names).length : Int)) = true := by rw [rowsS_len]; simp; omega
            rw [idxO_get hx, Option.bind_some, e, cond_true, Option.bind_some, idxO_get hy, Option.bind_some, wrapS k (by omega)]
            cases decide (((y.length : Nat) : Int) > 100) with
            | true => exact ⟨_, rfl, trivial⟩
            | false => exact next2 c trivial
          · show Tri (P14_L2 l b i x x c _) _
            rw [P14_L2_eq, B14_L2]
            have e : decide ((x.Names.length : Int) < ((rowsS x.Names).length : Int)) = false := by rw [rowsS_len]; simp
            rw [idxO_get hx, Option.bind_some, e, cond_false, wrapS i (by omega)]
            exact next c trivial
    · show Tri (P14_L1 l b _) _
      rw [P14_L1_eq, B14_L1]
      have e : decide ((l.length : Int) < ((TDatum.rows l).length : Int)) = false := by rw [TDatum.rows_len]; simp
      rw [e]
      exact ⟨_, rfl, trivial⟩
theorem belowS_refl (a : TDatum) : belowS a a = (decide (a.Sort_ ≥ 1) && decide (a.Sort_ ≤ 4)) := by
  have h : subB a.Names a.Names = true := subB_iff.2 fun x h => h
  unfold belowS
  rw [h]
  by_cases h1 : a.Sort_ = 1
  · simp [h1]
  · by_cases h2 : a.Sort_ = 2
    · simp [h2]
    · by_cases h3 : a.Sort_ = 3
      · simp [h3]
      · by_cases h4 : a.Sort_ = 4
        · simp [h4]
        · have e1 : (a.Sort_ == 1) = false := by simpa using h1
          have e2 : (a.Sort_ == 2) = false := by simpa using h2
          have e3 : (a.Sort_ == 3) = false := by simpa using h3
          have e4 : (a.Sort_ == 4) = false := by simpa using h4
          rw [e1, e2, e3, e4]
          by_cases h5 : a.Sort_ ≥ 1
          · have : ¬ a.Sort_ ≤ 4 := by omega
            simp [this]
          · simp [h5]
theorem belowS_iff {a b : TDatum} : belowS a b = true ↔ a.Sort_ = b.Sort_ ∧ ((a.Sort_ = 1 ∧ a.N ≤ b.N) ∨ (a.Sort_ = 2 ∧ a.N ≤ b.N) ∨ (a.Sort_ = 3 ∧ a.Name = b.Name) ∨ (a.Sort_ = 4 ∧ subB a.Names b.Names = true)) := by
  unfold belowS
  by_cases h0 : a.Sort_ = b.Sort_
  · have e0 : (a.Sort_ != b.Sort_) = false := by simp [h0]
    rw [e0, cond_false]
    by_cases h1 : a.Sort_ = 1
    · rw [show (a.Sort_ == 1) = true by simp [h1]]; simp [h1, ← h0]
    · rw [show (a.Sort_ == 1) = false by simpa using h1]
      by_cases h2 : a.Sort_ = 2
      · rw [show (a.Sort_ == 2) = true by simp [h2]]; simp [h2, ← h0]
      · rw [show (a.Sort_ == 2) = false by simpa using h2]
        by_cases h3 : a.Sort_ = 3
        · rw [show (a.Sort_ == 3) = true by simp [h3]]; simp [h3, ← h0]
        · rw [show (a.Sort_ == 3) = false by simpa using h3]
          by_cases h4 : a.Sort_ = 4
          · rw [show (a.Sort_ == 4) = true by simp [h4]]; simp [h4, ← h0]
          · rw [show (a.Sort_ == 4) = false by simpa using h4]; simp [h1, h2, h3, h4]
  · have e0 : (a.Sort_ != b.Sort_) = true := by simp [h0]
    rw [e0]; simp [h0]
theorem belowS_trans {a b c : TDatum} (h : belowS a b = true) (g : belowS b c = true) : belowS a c = true := by
  rw [belowS_iff] at h g ⊢
  obtain ⟨h0, h⟩ := h
  obtain ⟨g0, g⟩ := g
  refine ⟨h0.trans g0, ?_⟩
  rcases h with ⟨h1, h2⟩ | ⟨h1, h2⟩ | ⟨h1, h2⟩ | ⟨h1, h2⟩ <;> rcases g with ⟨g1, g2⟩ | ⟨g1, g2⟩ | ⟨g1, g2⟩ | ⟨g1, g2⟩ <;> first
    | (exfalso; omega)
    | exact .inl ⟨h1, by omega⟩
    | exact .inr (.inl ⟨h1, by omega⟩)
    | exact .inr (.inr (.inl ⟨h1, h2.trans g2⟩))
    | exact .inr (.inr (.inr ⟨h1, subB_iff.2 fun x hx => subB_iff.1 g2 x (subB_iff.1 h2 x hx)⟩))
theorem decideBelow_plain {a b c : TDatum} (ha : a.Names.length ≤ 1048576) (hb : b.Names.length ≤ 1048576) (hc : c.Names.length ≤ 1048576) : P5 a b c = some true := by
  obtain ⟨y, ey, _⟩ := smallArgs_tri (l := [a, b, c]) (by simp) (by
    intro d hd
    simp at hd
    rcases hd with rfl | rfl | rfl <;> assumption)
  rw [P5_eq, B5]
  simp only [ey, below_eq ha hb, rBelow_eq ha hb, below_eq ha ha, below_eq hb ha, below_eq hb hc, below_eq ha hc, (show P15 = some true from rfl), Option.bind_some]
  cases y with
  | false => rfl
  | true =>
    have er := belowS_refl a
    have hs : (!belowS a b == belowS a b) = false := by simp
    simp only [Bool.not_true, cond_false, hs, cond_true]
    have htail : belowS a b = true → belowS b a = true → (a.Sort_ == b.Sort_) = true ∧ (decide (a.Sort_ > 2) = false → (a.N == b.N) = true) ∧ ((a.Sort_ != 3) = true ∨ (a.Name == b.Name) = true) ∧ ((a.Sort_ != 4) = true ∨ ((P19 a.Names).bind fun y => (P19 b.Names).bind fun z => (P18 y z).bind fun r => some r) = some true) := by
      intro h g
      rw [belowS_iff] at h g
      obtain ⟨h0, h⟩ := h
      obtain ⟨_, g⟩ := g
      refine ⟨by simp [h0], fun h1 => ?_, ?_, ?_⟩
      · simp only [decide_eq_false_iff_not] at h1
        rw [beq_iff_eq]
        rcases h with ⟨h1, h2⟩ | ⟨h1, h2⟩ | ⟨h1, h2⟩ | ⟨h1, h2⟩ <;> rcases g with ⟨g1, g2⟩ | ⟨g1, g2⟩ | ⟨g1, g2⟩ | ⟨g1, g2⟩ <;> omega
      · rcases h with ⟨h1, h2⟩ | ⟨h1, h2⟩ | ⟨h1, h2⟩ | ⟨h1, h2⟩
        · exact .inl (by simp [h1])
        · exact .inl (by simp [h1])
        · exact .inr (by simp [h2])
        · exact .inl (by simp [h1])
      · rcases h with ⟨h1, h2⟩ | ⟨h1, h2⟩ | ⟨h1, h2⟩ | ⟨h1, h2⟩
        · exact .inl (by simp [h1])
        · exact .inl (by simp [h1])
        · exact .inl (by simp [h1])
        · rcases g with ⟨g1, g2⟩ | ⟨g1, g2⟩ | ⟨g1, g2⟩ | ⟨g1, g2⟩
          · exfalso; omega
          · exfalso; omega
          · exfalso; omega
          · exact .inr (sameOf ha hb h2 g2)
    have tail : belowS a b = true → belowS b a = true → (bif a.Sort_ == b.Sort_ then (bif decide (a.Sort_ > 2) then (bif a.Sort_ != 3 then (bif a.Sort_ != 4 then (some true) else ((P19 a.Names).bind fun y => (P19 b.Names).bind fun z => (P18 y z).bind fun r => some r)) else (bif a.Name == b.Name then (some true) else (some false))) else (bif a.N == b.N then (bif a.Sort_ != 3 then (bif a.Sort_ != 4 then (some true) else ((P19 a.Names).bind fun y => (P19 b.Names).bind fun z => (P18 y z).bind fun r => some r)) else (bif a.Name == b.Name then (some true) else (some false))) else (some false))) else (some false)) = some true := by
      intro h g
      obtain ⟨t1, t2, t3, t4⟩ := htail h g
      rw [t1, cond_true]
      have t5 : (bif a.Sort_ != 3 then (bif a.Sort_ != 4 then (some true) else ((P19 a.Names).bind fun y => (P19 b.Names).bind fun z => (P18 y z).bind fun r => some r)) else (bif a.Name == b.Name then (some true) else (some false))) = some true := by
        cases e3 : a.Sort_ != 3 with
        | false => rw [cond_false, t3.resolve_left (by simp [e3])]; rfl
        | true =>
          rw [cond_true]
          cases e4 : a.Sort_ != 4 with
          | true => rfl
          | false => rw [cond_false, t4.resolve_left (by simp [e4])]
      rw [t5]
      cases e : decide (a.Sort_ > 2) with
      | true => rfl
      | false => rw [cond_false, t2 e]; rfl
    cases hab : belowS a b with
    | false =>
      cases h1 : decide (a.Sort_ ≥ 1) <;> cases h2 : decide (a.Sort_ ≤ 4) <;> simp [er, h1, h2]
    | true =>
      have h12 := belowS_iff.1 hab
      have h1 : decide (a.Sort_ ≥ 1) = true := decide_eq_true (by omega)
      have h2 : decide (a.Sort_ ≤ 4) = true := decide_eq_true (by omega)
      have e : belowS a a = true := by rw [er, h1, h2]; rfl
      cases hba : belowS b a with
      | false =>
        cases hbc : belowS b c with
        | false => simp [h1, h2, e]
        | true => simp [h1, h2, e, belowS_trans hab hbc]
      | true =>
        have := tail hab hba
        cases hbc : belowS b c with
        | false => simp only [h1, h2, e, cond_true, cond_false, Bool.not_true, BEq.rfl, Bool.not_false]; simpa using this
        | true => simp only [h1, h2, e, belowS_trans hab hbc, cond_true, cond_false, Bool.not_true, BEq.rfl, Bool.not_false]; simpa using this
end Go.Proofs.YtcngmkedekmkhaaGreat
end
