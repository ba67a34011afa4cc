/-
  Own work. Loops over two lists, and over one, as plain functions. Own work. The order of names; lists that rise strictly. Own work. DecideBelow, plain: the order of results.
-/
import Derived.Test.YtcngmkedekmkhaaGreatTy
section
namespace Go.Proofs.YtcngmkedekmkhaaGreat
open Go Go.Bw
theorem idxO_get {α : Type} {l : List α} {i : Nat} {x : α} (h : l[i]? = some x) : idxO l (i : Int) = some x := h
theorem getE {α : Type} {l : List α} {i : Nat} (h : i < l.length) : ∃ x, l[i]? = some x := ⟨l[i], by simp [h]⟩
theorem drop_get {α : Type} : ∀ {l : List α} {i : Nat} {x : α}, l[i]? = some x → l.drop i = x :: l.drop (i + 1)
  | y :: l, 0, x, h => by simp only [List.getElem?_cons_zero, Option.some.injEq] at h; subst h; simp
  | y :: l, i + 1, x, h => by simpa using drop_get (l := l) (by simpa using h)
end Go.Proofs.YtcngmkedekmkhaaGreat
end

section
namespace Go.Proofs.YtcngmkedekmkhaaGreat
open Go Go.Bw
def rising : List (List UInt8) → Bool
  | x :: y :: r => Op.bytesLess x y && rising (y :: r)
  | _ => true
theorem bl_irrefl : ∀ a : List UInt8, Op.bytesLess a a = false
  | [] => rfl
  | x :: a => by
    have h : (decide (x < x)) = false := by simp
    show (decide (x < x) || (x == x && Op.bytesLess a a)) = false
    rw [h, bl_irrefl a]; simp
theorem bl_cons (x y : UInt8) (a b : List UInt8) : Op.bytesLess (x :: a) (y :: b) = true ↔ x < y ∨ (x = y ∧ Op.bytesLess a b = true) := by
  show (decide (x < y) || (x == y && Op.bytesLess a b)) = true ↔ _
  simp
theorem u8_lt {x y : UInt8} : x < y ↔ x.toNat < y.toNat := UInt8.lt_iff_toNat_lt
theorem bl_trans : ∀ {a b c : List UInt8}, Op.bytesLess a b = true → Op.bytesLess b c = true → Op.bytesLess a c = true
  | [], b, [], _, h => by cases b <;> cases h
  | [], _, _ :: _, _, _ => rfl
  | _ :: _, [], _, h, _ => by cases h
  | _ :: _, _ :: _, [], _, h => by cases h
  | x :: a, y :: b, z :: c, h, g => by
    rw [bl_cons] at h g ⊢
    rcases h with h | ⟨rfl, h⟩ <;> rcases g with g | ⟨rfl, g⟩
    · rw [u8_lt] at *; exact .inl (by omega)
    · exact .inl h
    · exact .inl g
    · exact .inr ⟨rfl, bl_trans h g⟩
theorem bl_tri : ∀ a b : List UInt8, a = b ∨ Op.bytesLess a b = true ∨ Op.bytesLess b a = true
  | [], [] => .inl rfl
  | [], _ :: _ => .inr (.inl rfl)
  | _ :: _, [] => .inr (.inr rfl)
  | x :: a, y :: b => by
    rw [bl_cons, bl_cons]
    by_cases h : x = y
    · subst h
      rcases bl_tri a b with rfl | h | h
      · exact .inl rfl
      · exact .inr (.inl (.inr ⟨rfl, h⟩))
      · exact .inr (.inr (.inr ⟨rfl, h⟩))
    · have : x.toNat ≠ y.toNat := fun e => h (UInt8.toNat_inj.1 e)
      simp only [u8_lt]
      omega
theorem bl_asymm {a b : List UInt8} (h : Op.bytesLess a b = true) : Op.bytesLess b a = false := by
  cases g : Op.bytesLess b a with
  | false => rfl
  | true => have := bl_trans h g; rw [bl_irrefl] at this; cases this
theorem rising_cons {x : List UInt8} : ∀ {l : List (List UInt8)}, rising (x :: l) = true ↔ (∀ y ∈ l, Op.bytesLess x y = true) ∧ rising l = true
  | [] => by simp [rising]
  | y :: l => by
    rw [show rising (x :: y :: l) = (Op.bytesLess x y && rising (y :: l)) from rfl, Bool.and_eq_true]
    constructor
    · rintro ⟨h, g⟩
      refine ⟨fun z hz => ?_, g⟩
      rcases List.mem_cons.1 hz with rfl | hz
      · exact h
      · exact bl_trans h ((rising_cons.1 g).1 z hz)
    · rintro ⟨h, g⟩; exact ⟨h y (by simp), g⟩
theorem rising_ext : ∀ {a b : List (List UInt8)}, rising a = true → rising b = true → (∀ x, x ∈ a ↔ x ∈ b) → a = b
  | [], [], _, _, _ => rfl
  | [], y :: b, _, _, h => absurd ((h y).2 (by simp)) (by simp)
  | x :: a, [], _, _, h => absurd ((h x).1 (by simp)) (by simp)
  | x :: a, y :: b, ha, hb, h => by
    rw [rising_cons] at ha hb
    have e : x = y := by
      rcases List.mem_cons.1 ((h x).1 (by simp)) with e | hx
      · exact e
      · rcases List.mem_cons.1 ((h y).2 (by simp)) with e | hy
        · exact e.symm
        · have h1 := hb.1 x hx
          have h2 := ha.1 y hy
          rw [bl_asymm h1] at h2; cases h2
    subst e
    congr 1
    refine rising_ext ha.2 hb.2 fun z => ?_
    constructor
    · intro hz
      rcases List.mem_cons.1 ((h z).1 (by simp [hz])) with rfl | h1
      · have := ha.1 z hz; rw [bl_irrefl] at this; cases this
      · exact h1
    · intro hz
      rcases List.mem_cons.1 ((h z).2 (by simp [hz])) with rfl | h1
      · have := hb.1 z hz; rw [bl_irrefl] at this; cases this
      · exact h1
theorem rising_append : ∀ {l r : List (List UInt8)}, rising (l ++ r) = true ↔ rising l = true ∧ rising r = true ∧ ∀ x ∈ l, ∀ y ∈ r, Op.bytesLess x y = true
  | [], r => by simp [rising]
  | x :: l, r => by
    rw [List.cons_append, rising_cons, rising_cons, rising_append (l := l) (r := r)]
    constructor
    · rintro ⟨h, h1, h2, h3⟩
      refine ⟨⟨fun y hy => h y (by simp [hy]), h1⟩, h2, fun z hz y hy => ?_⟩
      rcases List.mem_cons.1 hz with rfl | hz
      · exact h y (by simp [hy])
      · exact h3 z hz y hy
    · rintro ⟨⟨h, h1⟩, h2, h3⟩
      refine ⟨fun y hy => ?_, h1, h2, fun z hz y hy => h3 z (by simp [hz]) y hy⟩
      rcases List.mem_append.1 hy with hy | hy
      · exact h y hy
      · exact h3 x (by simp) y hy
theorem rising_mid {l r : List (List UInt8)} {x : List UInt8} (h : rising (l ++ r) = true) (hl : ∀ y ∈ l, Op.bytesLess y x = true) (hr : ∀ y ∈ r, Op.bytesLess x y = true) : rising (l ++ x :: r) = true := by
  rw [rising_append] at h
  rw [rising_append, rising_cons]
  refine ⟨h.1, ⟨hr, h.2.1⟩, fun y hy z hz => ?_⟩
  rcases List.mem_cons.1 hz with rfl | hz
  · exact hl y hy
  · exact h.2.2 y hy z hz
end Go.Proofs.YtcngmkedekmkhaaGreat
end

section
namespace Go.Proofs.YtcngmkedekmkhaaGreat
open Go Go.Bw
theorem ins_spec {R : Type} {G : List (List UInt8) → Int → Option R} {K : List (List UInt8) → Option R} (h0 : ∀ o, G o 0 = K o)
    {M : Nat} (h1 : ∀ o (k : Nat) x y, k < M → o[k]? = some x → o[k + 1]? = some y → G o ((k + 1 : Nat) : Int) = bif Op.bytesLess y x then G ((o.set k y).set (k + 1) x) (k : Int) else K o) (s : List UInt8) :
    ∀ (n : Nat) (l r : List (List UInt8)), n ≤ M → l.length = n → rising (l ++ r) = true → s ∉ l → (∀ y ∈ r, Op.bytesLess s y = true) →
      ∃ o, G (l ++ s :: r) (n : Int) = K o ∧ rising o = true ∧ (∀ x, x ∈ o ↔ x ∈ l ∨ x = s ∨ x ∈ r) ∧ o.length = l.length + r.length + 1
  | 0, l, r, _, hl, hr, hs, hy => by
    obtain rfl := List.eq_nil_of_length_eq_zero hl
    exact ⟨s :: r, h0 _, rising_cons.2 ⟨hy, hr⟩, fun x => by simp, by simp⟩
  | n + 1, l, r, hM, hl, hr, hs, hy => by
    obtain ⟨l, z, rfl⟩ : ∃ l' z, l = l' ++ [z] := by
      rcases List.eq_nil_or_concat l with rfl | ⟨l', z, rfl⟩
      · simp at hl
      · exact ⟨l', z, by simp⟩
    have hn : l.length = n := by simpa using hl
    have g0 : (l ++ [z] ++ s :: r)[n]? = some z := by subst hn; simp
    have g1 : (l ++ [z] ++ s :: r)[n + 1]? = some s := by subst hn; simp
    rw [h1 _ n z s (by omega) g0 g1]
    simp only [List.append_assoc, List.singleton_append] at hr ⊢
    have hr' := rising_append.1 hr
    have hr2 := rising_cons.1 hr'.2.1
    cases hb : Op.bytesLess s z with
    | true =>
      have e : ((l ++ z :: s :: r).set n s).set (n + 1) z = l ++ s :: z :: r := by subst hn; simp
      rw [cond_true, e]
      obtain ⟨o, h2, h3, h4, h5⟩ := ins_spec h0 h1 s n l (z :: r) (by omega) hn hr (fun h => hs (by simp [h])) (fun y h => by
        rcases List.mem_cons.1 h with rfl | h
        · exact hb
        · exact hy y h)
      exact ⟨o, h2, h3, fun x => by rw [h4 x]; simp [or_assoc, or_left_comm], by simp [h5]; omega⟩
    | false =>
      have hz : Op.bytesLess z s = true := by
        rcases bl_tri z s with rfl | h | h
        · exact absurd (by simp) hs
        · exact h
        · rw [hb] at h; cases h
      refine ⟨l ++ z :: s :: r, rfl, ?_, fun x => by simp [or_assoc], by simp; omega⟩
      have := rising_mid (l := l ++ [z]) (r := r) (x := s) (by simpa using hr) (fun y h => by
        rcases List.mem_append.1 h with h | h
        · exact bl_trans (hr'.2.2 y h z (by simp)) hz
        · simp at h; subst h; exact hz) hy
      simpa using this
end Go.Proofs.YtcngmkedekmkhaaGreat
end
