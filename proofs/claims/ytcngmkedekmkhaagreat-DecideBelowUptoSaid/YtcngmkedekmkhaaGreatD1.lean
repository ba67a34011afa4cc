/-
  Own work. An abstract machine over the program logic: its values name own blocks by tags, so that its steps can be computed. First part: values, slots, heap, what they say, the judgement.
-/
import Derived.Test.YtcngmkedekmkhaaGreatB11
noncomputable section
namespace Go.Bw
open Go
inductive CV where
  | d (x : AV)
  | agg (xs : List CV)
  | tup (xs : List CV)
  | own (t off : Nat)
  | os (t n : Nat)
  | oe (t n off : Nat)
  | om (t : Nat)
  | fn (f : FuncId) (fs cs : List CV)
  | ifc (ty : TypeId) (x : CV)
structure Rho where
  b : Nat → Option Nat
  s : Nat → Nat → Option (Option Addr × Nat)
def Rho.le (ρ ρ' : Rho) : Prop := (∀ t x, ρ.b t = some x → ρ'.b t = some x) ∧ ∀ t n x, ρ.s t n = some x → ρ'.s t n = some x
theorem Rho.le.refl (ρ : Rho) : ρ.le ρ := ⟨fun _ _ h => h, fun _ _ _ h => h⟩
theorem Rho.le.trans {ρ ρ' ρ'' : Rho} (h : ρ.le ρ') (g : ρ'.le ρ'') : ρ.le ρ'' := ⟨fun t x hx => g.1 t x (h.1 t x hx), fun t n x hx => g.2 t n x (h.2 t n x hx)⟩
mutual
def Inst (ρ : Rho) : CV → AV → Prop
  | .d x, y => y = x
  | .agg xs, y => ∃ ys, y = .agg ys ∧ InstL ρ xs ys
  | .tup xs, y => ∃ ys, y = .tup ys ∧ InstL ρ xs ys
  | .own t o, y => ∃ b t', ρ.b t = some b ∧ y = .own t' b o
  | .os t n, y => ∃ a c t', ρ.s t n = some (a, c) ∧ y = .os t' a n c
  | .oe t n o, y => ∃ a c t', ρ.s t n = some (a, c) ∧ y = .oe t' (.slice a n c) o
  | .om t, y => ∃ b t', ρ.b t = some b ∧ y = .om t' b
  | .fn f fs cs, y => ∃ us vs, y = .fn f us vs ∧ InstL ρ fs us ∧ InstL ρ cs vs
  | .ifc t x, y => ∃ u, y = .ifc t u ∧ Inst ρ x u
def InstL (ρ : Rho) : List CV → List AV → Prop
  | [], ys => ys = []
  | x :: xs, ys => ∃ y r, ys = y :: r ∧ Inst ρ x y ∧ InstL ρ xs r
end
section
variable {ρ ρ' : Rho}
mutual
theorem Inst.mono (h : ρ.le ρ') : ∀ {x : CV} {y : AV}, Inst ρ x y → Inst ρ' x y
  | .d x, _, h1 => by simp only [Inst] at h1 ⊢; exact h1
  | .agg xs, _, h1 => by simp only [Inst] at h1 ⊢; obtain ⟨ys, e, h2⟩ := h1; exact ⟨ys, e, InstL.mono h h2⟩
  | .tup xs, _, h1 => by simp only [Inst] at h1 ⊢; obtain ⟨ys, e, h2⟩ := h1; exact ⟨ys, e, InstL.mono h h2⟩
  | .own t o, _, h1 => by simp only [Inst] at h1 ⊢; obtain ⟨b, t', e, h2⟩ := h1; exact ⟨b, t', h.1 _ _ e, h2⟩
  | .os t n, _, h1 => by simp only [Inst] at h1 ⊢; obtain ⟨a, c, t', e, h2⟩ := h1; exact ⟨a, c, t', h.2 _ _ _ e, h2⟩
  | .oe t n o, _, h1 => by simp only [Inst] at h1 ⊢; obtain ⟨a, c, t', e, h2⟩ := h1; exact ⟨a, c, t', h.2 _ _ _ e, h2⟩
  | .om t, _, h1 => by simp only [Inst] at h1 ⊢; obtain ⟨b, t', e, h2⟩ := h1; exact ⟨b, t', h.1 _ _ e, h2⟩
  | .fn f fs cs, _, h1 => by simp only [Inst] at h1 ⊢; obtain ⟨us, vs, e, h2, h3⟩ := h1; exact ⟨us, vs, e, InstL.mono h h2, InstL.mono h h3⟩
  | .ifc t x, _, h1 => by simp only [Inst] at h1 ⊢; obtain ⟨u, e, h2⟩ := h1; exact ⟨u, e, Inst.mono h h2⟩
theorem InstL.mono (h : ρ.le ρ') : ∀ {x : List CV} {y : List AV}, InstL ρ x y → InstL ρ' x y
  | [], _, h1 => by simp only [InstL] at h1 ⊢; exact h1
  | _ :: _, _, h1 => by simp only [InstL] at h1 ⊢; obtain ⟨y, r, e, h2, h3⟩ := h1; exact ⟨y, r, e, Inst.mono h h2, InstL.mono h h3⟩
end
theorem InstL.length : ∀ {xs : List CV} {ys : List AV}, InstL ρ xs ys → ys.length = xs.length
  | [], _, h => by simp only [InstL] at h; simp [h]
  | _ :: _, _, h => by simp only [InstL] at h; obtain ⟨y, r, rfl, _, h⟩ := h; simp [InstL.length h]
theorem InstL.nth : ∀ {xs : List CV} {ys : List AV} {n : Nat} {x : CV}, InstL ρ xs ys → Bw.nth xs n = some x → ∃ y, Bw.nth ys n = some y ∧ Inst ρ x y
  | [], _, _, _, _, h => by simp [Bw.nth] at h
  | y :: _, ys, 0, x, hr, h => by
    simp only [InstL] at hr; obtain ⟨v, r, rfl, h1, _⟩ := hr
    simp only [Bw.nth, Option.some.injEq] at h; subst h
    exact ⟨v, by simp [Bw.nth], h1⟩
  | _ :: xs, ys, n + 1, x, hr, h => by
    simp only [InstL] at hr; obtain ⟨v, r, rfl, _, h2⟩ := hr
    simp only [Bw.nth] at h
    obtain ⟨u, h3, h4⟩ := InstL.nth h2 h
    exact ⟨u, by simpa [Bw.nth] using h3, h4⟩
theorem InstL.drop : ∀ (n : Nat) {xs : List CV} {ys : List AV}, InstL ρ xs ys → InstL ρ (xs.drop n) (ys.drop n)
  | 0, _, _, h => by simpa using h
  | n + 1, [], _, h => by simp only [InstL] at h; subst h; simp [InstL]
  | n + 1, _ :: _, _, h => by simp only [InstL] at h; obtain ⟨v, r, rfl, _, h⟩ := h; simpa using InstL.drop n h
theorem InstL.take : ∀ (n : Nat) {xs : List CV} {ys : List AV}, InstL ρ xs ys → InstL ρ (xs.take n) (ys.take n)
  | 0, _, _, _ => by simp [InstL]
  | n + 1, [], _, h => by simp only [InstL] at h; subst h; simp [InstL]
  | n + 1, _ :: _, _, h => by simp only [InstL] at h; obtain ⟨v, r, rfl, h1, h⟩ := h; simp only [List.take_succ_cons, InstL]; exact ⟨v, _, rfl, h1, InstL.take n h⟩
theorem InstL.append : ∀ {xs xs' : List CV} {ys ys' : List AV}, InstL ρ xs ys → InstL ρ xs' ys' → InstL ρ (xs ++ xs') (ys ++ ys')
  | [], _, _, _, h, g => by simp only [InstL] at h; subst h; simpa using g
  | _ :: _, _, _, _, h, g => by simp only [InstL] at h; obtain ⟨v, r, rfl, h1, h⟩ := h; simp only [List.cons_append, InstL]; exact ⟨v, _, rfl, h1, InstL.append h g⟩
theorem instL_d : ∀ (xs : List AV), InstL ρ (xs.map .d) xs
  | [] => by simp [InstL]
  | x :: r => by simp only [List.map_cons, InstL, Inst]; exact ⟨_, _, rfl, rfl, instL_d r⟩
def allD : List CV → Option (List AV)
  | [] => some []
  | .d x :: r => match allD r with
    | some xs => some (x :: xs)
    | none => none
  | _ :: _ => none
theorem allD_inst : ∀ {xs : List CV} {ys zs : List AV}, allD xs = some zs → InstL ρ xs ys → ys = zs
  | [], ys, zs, h, hr => by simp only [allD, Option.some.injEq] at h; simp only [InstL] at hr; rw [hr, ← h]
  | x :: r, ys, zs, h, hr => by
    cases x <;> simp only [allD] at h <;> try (cases h; done)
    split at h
    · rename_i zs' h1
      simp only [Option.some.injEq] at h
      simp only [InstL] at hr
      obtain ⟨v, r', rfl, h2, h3⟩ := hr
      simp only [Inst] at h2
      rw [h2, allD_inst h1 h3, h]
    · cases h
def mkAgg (xs : List CV) : CV := match allD xs with
  | some ys => .d (.agg ys)
  | none => .agg xs
theorem mkAgg_inst {xs : List CV} {ys : List AV} (h : InstL ρ xs ys) : Inst ρ (mkAgg xs) (.agg ys) := by
  unfold mkAgg
  split
  · rename_i zs hz
    simp only [Inst]; rw [allD_inst hz h]
  · simp only [Inst]; exact ⟨ys, rfl, h⟩
def mkTup (xs : List CV) : CV := match allD xs with
  | some ys => .d (.tup ys)
  | none => .tup xs
theorem mkTup_inst {xs : List CV} {ys : List AV} (h : InstL ρ xs ys) : Inst ρ (mkTup xs) (.tup ys) := by
  unfold mkTup
  split
  · rename_i zs hz
    simp only [Inst]; rw [allD_inst hz h]
  · simp only [Inst]; exact ⟨ys, rfl, h⟩
end
def Tr.put {α : Type} : Nat → Tr α → Nat → Option α → Tr α
  | 0, _, _, _ => .lf
  | f + 1, .lf, n, y => @Bool.rec (fun _ => Tr α) (@Bool.rec (fun _ => Tr α) (.nd none .lf (Tr.put f .lf (Nat.pred (div2 n)) y)) (.nd none (Tr.put f .lf (div2 n) y) .lf) (Nat.beq (mod2 n) 1)) (.nd y .lf .lf) (Nat.beq n 0)
  | f + 1, .nd x l r, n, y => @Bool.rec (fun _ => Tr α) (@Bool.rec (fun _ => Tr α) (.nd x l (Tr.put f r (Nat.pred (div2 n)) y)) (.nd x (Tr.put f l (div2 n) y) r) (Nat.beq (mod2 n) 1)) (.nd y l r) (Nat.beq n 0)
theorem Tr.put_0 {α : Type} (t : Tr α) (n : Nat) (y : Option α) : Tr.put 0 t n y = .lf := rfl
theorem Tr.put_lf {α : Type} (f n : Nat) (y : Option α) : Tr.put (f + 1) .lf n y = match Nat.beq n 0 with
    | true => .nd y .lf .lf
    | false => match Nat.beq (mod2 n) 1 with
      | true => .nd none (Tr.put f .lf (div2 n) y) .lf
      | false => .nd none .lf (Tr.put f .lf (Nat.pred (div2 n)) y) := by
  rw [Tr.put]
  cases Nat.beq n 0 with
  | true => rfl
  | false => cases Nat.beq (mod2 n) 1 <;> rfl
theorem Tr.put_nd {α : Type} (f : Nat) (x : Option α) (l r : Tr α) (n : Nat) (y : Option α) : Tr.put (f + 1) (.nd x l r) n y = match Nat.beq n 0 with
    | true => .nd y l r
    | false => match Nat.beq (mod2 n) 1 with
      | true => .nd x (Tr.put f l (div2 n) y) r
      | false => .nd x l (Tr.put f r (Nat.pred (div2 n)) y) := by
  rw [Tr.put]
  cases Nat.beq n 0 with
  | true => rfl
  | false => cases Nat.beq (mod2 n) 1 <;> rfl
def Tr.putK {α R : Type} : Nat → Tr α → Nat → Option α → (Tr α → R) → R
  | 0, _, _, _, k => k .lf
  | f + 1, .lf, n, y, k => @Bool.rec (fun _ => R) (@Bool.rec (fun _ => R) (Tr.putK f .lf (Nat.pred (div2 n)) y fun r => k (.nd none .lf r)) (Tr.putK f .lf (div2 n) y fun l => k (.nd none l .lf)) (Nat.beq (mod2 n) 1)) (k (.nd y .lf .lf)) (Nat.beq n 0)
  | f + 1, .nd x l r, n, y, k => @Bool.rec (fun _ => R) (@Bool.rec (fun _ => R) (Tr.putK f r (Nat.pred (div2 n)) y fun r => k (.nd x l r)) (Tr.putK f l (div2 n) y fun l => k (.nd x l r)) (Nat.beq (mod2 n) 1)) (k (.nd y l r)) (Nat.beq n 0)
theorem Tr.putK_eq {α R : Type} : ∀ (f : Nat) (t : Tr α) (n : Nat) (y : Option α) (k : Tr α → R), Tr.putK f t n y k = k (Tr.put f t n y)
  | 0, _, _, _, _ => rfl
  | f + 1, .lf, n, y, k => by
    rw [Tr.put_lf, Tr.putK]
    cases Nat.beq n 0 with
    | true => rfl
    | false => cases Nat.beq (mod2 n) 1 <;> exact Tr.putK_eq f _ _ _ _
  | f + 1, .nd x l r, n, y, k => by
    rw [Tr.put_nd, Tr.putK]
    cases Nat.beq n 0 with
    | true => rfl
    | false => cases Nat.beq (mod2 n) 1 <;> exact Tr.putK_eq f _ _ _ _
theorem beq_false_ne {n m : Nat} (h : Nat.beq n m = false) : n ≠ m := fun e => by subst e; rw [Nat.beq_refl] at h; cases h
theorem Tr.put_comm {α : Type} : ∀ (f : Nat) (t : Tr α) (n m : Nat) (y z : Option α), n ≠ m → Tr.put f (Tr.put f t n y) m z = Tr.put f (Tr.put f t m z) n y
  | 0, _, _, _, _, _, _ => rfl
  | f + 1, t, n, m, y, z, hne => by
    have ih := fun (t : Tr α) (n m : Nat) (y z : Option α) (h : n ≠ m) => Tr.put_comm f t n m y z h
    have hL : ∀ n m : Nat, n ≠ m → Nat.beq n 0 = false → Nat.beq m 0 = false → Nat.beq (Nat.mod n 2) 1 = true → Nat.beq (Nat.mod m 2) 1 = true → Nat.div n 2 ≠ Nat.div m 2 := by
      intro n m h h1 h2 h3 h4
      have h3 := Nat.eq_of_beq_eq_true h3
      have h4 := Nat.eq_of_beq_eq_true h4
      change n % 2 = 1 at h3
      change m % 2 = 1 at h4
      change ¬ n / 2 = m / 2
      omega
    have hR : ∀ n m : Nat, n ≠ m → Nat.beq n 0 = false → Nat.beq m 0 = false → Nat.beq (Nat.mod n 2) 1 = false → Nat.beq (Nat.mod m 2) 1 = false → Nat.pred (Nat.div n 2) ≠ Nat.pred (Nat.div m 2) := by
      intro n m h h1 h2 h3 h4
      have h1 := beq_false_ne h1
      have h2 := beq_false_ne h2
      have h3 := beq_false_ne h3
      have h4 := beq_false_ne h4
      change ¬ n % 2 = 1 at h3
      change ¬ m % 2 = 1 at h4
      change ¬ n / 2 - 1 = m / 2 - 1
      omega
    cases h1 : Nat.beq n 0 <;> cases h2 : Nat.beq m 0 <;> cases h3 : Nat.beq (Nat.mod n 2) 1 <;> cases h4 : Nat.beq (Nat.mod m 2) 1 <;> cases t <;> simp only [Tr.put_lf, Tr.put_nd, mod2_eq, div2_eq, h1, h2, h3, h4] <;>
      first
      | (rw [ih _ _ _ _ _ (hL n m hne h1 h2 h3 h4)]; done)
      | (rw [ih _ _ _ _ _ (hR n m hne h1 h2 h3 h4)]; done)
      | (exact absurd ((Nat.eq_of_beq_eq_true h1).trans (Nat.eq_of_beq_eq_true h2).symm) hne)
      | skip
theorem Tr.get_put {α : Type} : ∀ (f : Nat) (t : Tr α) (n m : Nat) (y : Option α) (z : α), (Tr.put f t n y).get m = some z → (m = n ∧ y = some z) ∨ (m ≠ n ∧ t.get m = some z)
  | 0, _, _, _, _, _, h => by simp [Tr.put_0, Tr.get_lf] at h
  | f + 1, .lf, n, m, y, z, h => by
    simp only [Tr.put_lf, Tr.put_nd, mod2_eq, div2_eq] at h
    cases h0 : Nat.beq n 0 with
    | true =>
      have := Nat.eq_of_beq_eq_true h0; subst this
      rw [h0] at h
      simp only [Tr.get_nd, mod2_eq, div2_eq] at h
      cases hm : Nat.beq m 0 with
      | true => rw [hm] at h; exact .inl ⟨Nat.eq_of_beq_eq_true hm, h⟩
      | false => rw [hm] at h; simp only at h; cases hb : Nat.beq (Nat.mod m 2) 1 <;> rw [hb] at h <;> cases h
    | false =>
      have hn := beq_false_ne h0
      rw [h0] at h
      simp only at h
      cases h1 : Nat.beq (Nat.mod n 2) 1 with
      | true =>
        rw [h1] at h
        have h1 := Nat.eq_of_beq_eq_true h1
        simp only [Tr.get_nd, mod2_eq, div2_eq] at h
        cases hm : Nat.beq m 0 with
        | true => rw [hm] at h; cases h
        | false =>
          have hm := beq_false_ne hm
          simp only [‹Nat.beq m 0 = false›] at h
          cases hb : Nat.beq (Nat.mod m 2) 1 with
          | true =>
            rw [hb] at h
            have hb := Nat.eq_of_beq_eq_true hb
            rcases Tr.get_put f .lf _ _ y z h with ⟨h2, h3⟩ | ⟨_, h3⟩
            · refine .inl ⟨?_, h3⟩
              change n % 2 = 1 at h1; change m % 2 = 1 at hb; change m / 2 = n / 2 at h2; omega
            · simp [Tr.get_lf] at h3
          | false => rw [hb] at h; cases h
      | false =>
        rw [h1] at h
        have h1 := beq_false_ne h1
        simp only [Tr.get_nd, mod2_eq, div2_eq] at h
        cases hm : Nat.beq m 0 with
        | true => rw [hm] at h; cases h
        | false =>
          have hm := beq_false_ne hm
          simp only [‹Nat.beq m 0 = false›] at h
          cases hb : Nat.beq (Nat.mod m 2) 1 with
          | true => rw [hb] at h; cases h
          | false =>
            rw [hb] at h
            have hb := beq_false_ne hb
            rcases Tr.get_put f .lf _ _ y z h with ⟨h2, h3⟩ | ⟨_, h3⟩
            · refine .inl ⟨?_, h3⟩
              change ¬ n % 2 = 1 at h1; change ¬ m % 2 = 1 at hb; change m / 2 - 1 = n / 2 - 1 at h2; omega
            · simp [Tr.get_lf] at h3
  | f + 1, .nd x l r, n, m, y, z, h => by
    simp only [Tr.put_lf, Tr.put_nd, mod2_eq, div2_eq] at h
    cases h0 : Nat.beq n 0 with
    | true =>
      have := Nat.eq_of_beq_eq_true h0; subst this
      rw [h0] at h
      simp only [Tr.get_nd, mod2_eq, div2_eq] at h ⊢
      cases hm : Nat.beq m 0 with
      | true => rw [hm] at h; exact .inl ⟨Nat.eq_of_beq_eq_true hm, h⟩
      | false => rw [hm] at h; exact .inr ⟨beq_false_ne hm, h⟩
    | false =>
      have hn := beq_false_ne h0
      rw [h0] at h
      simp only at h
      cases h1 : Nat.beq (Nat.mod n 2) 1 with
      | true =>
        rw [h1] at h
        have h1 := Nat.eq_of_beq_eq_true h1
        simp only [Tr.get_nd, mod2_eq, div2_eq] at h ⊢
        cases hm : Nat.beq m 0 with
        | true => rw [hm] at h; exact .inr ⟨fun e => hn (by rw [← e]; exact Nat.eq_of_beq_eq_true hm), h⟩
        | false =>
          rw [hm] at h
          simp only at h ⊢
          have hm := beq_false_ne hm
          cases hb : Nat.beq (Nat.mod m 2) 1 with
          | true =>
            rw [hb] at h
            have hb := Nat.eq_of_beq_eq_true hb
            change n % 2 = 1 at h1; change m % 2 = 1 at hb
            rcases Tr.get_put f l _ _ y z h with ⟨h2, h3⟩ | ⟨h2, h3⟩
            · refine .inl ⟨?_, h3⟩
              change m / 2 = n / 2 at h2; omega
            · refine .inr ⟨?_, h3⟩
              change ¬ m / 2 = n / 2 at h2; omega
          | false =>
            rw [hb] at h
            have hb := beq_false_ne hb
            change n % 2 = 1 at h1; change ¬ m % 2 = 1 at hb
            exact .inr ⟨by omega, h⟩
      | false =>
        rw [h1] at h
        have h1 := beq_false_ne h1
        simp only [Tr.get_nd, mod2_eq, div2_eq] at h ⊢
        cases hm : Nat.beq m 0 with
        | true => rw [hm] at h; exact .inr ⟨fun e => hn (by rw [← e]; exact Nat.eq_of_beq_eq_true hm), h⟩
        | false =>
          rw [hm] at h
          simp only at h ⊢
          have hm := beq_false_ne hm
          cases hb : Nat.beq (Nat.mod m 2) 1 with
          | true =>
            rw [hb] at h
            have hb := Nat.eq_of_beq_eq_true hb
            change ¬ n % 2 = 1 at h1; change m % 2 = 1 at hb
            exact .inr ⟨by omega, h⟩
          | false =>
            rw [hb] at h
            have hb := beq_false_ne hb
            change ¬ n % 2 = 1 at h1; change ¬ m % 2 = 1 at hb
            rcases Tr.get_put f r _ _ y z h with ⟨h2, h3⟩ | ⟨h2, h3⟩
            · refine .inl ⟨?_, h3⟩
              change m / 2 - 1 = n / 2 - 1 at h2; omega
            · refine .inr ⟨?_, h3⟩
              change ¬ m / 2 - 1 = n / 2 - 1 at h2; omega
abbrev TS := Tr CV
inductive CEnt where
  | box (cs : List CV)
  | row (e k : Nat) (rows : List (List AV))
  | map (es : List (Value × CV))
  | fzP (cs : List AV)
  | fzS (k : Nat) (rows : List (List AV))
  | gone
structure Hp where
  e : Tr CEnt
  n : Nat
def InstM (ρ : Rho) : List (Value × CV) → List (Value × AV) → Prop
  | [], ys => ys = []
  | x :: xs, ys => ∃ y r, ys = y :: r ∧ y.1 = x.1 ∧ Inst ρ x.2 y.2 ∧ InstM ρ xs r
theorem InstM.mono {ρ ρ' : Rho} (h : ρ.le ρ') : ∀ {xs : List (Value × CV)} {ys : List (Value × AV)}, InstM ρ xs ys → InstM ρ' xs ys
  | [], _, h1 => by simp only [InstM] at h1 ⊢; exact h1
  | _ :: _, _, h1 => by simp only [InstM] at h1 ⊢; obtain ⟨y, r, e, h2, h3, h4⟩ := h1; exact ⟨y, r, e, h2, h3.mono h, InstM.mono h h4⟩
def EInst (ρ : Rho) (i : Nat) : CEnt → Ent → Prop
  | .box cs, y => ∃ b cs', ρ.b i = some b ∧ y = .box b cs' ∧ InstL ρ cs cs'
  | .row e k rows, y => (∃ a c, ρ.s i rows.length = some (a, c) ∧ y = .row (.slice a rows.length c) e k rows) ∧ ∀ m, rows.length < m → ρ.s i m = none
  | .map es, y => ∃ b es', ρ.b i = some b ∧ y = .map b es' ∧ InstM ρ es es'
  | .fzP cs, y => ∃ b, ρ.b i = some b ∧ y = .fact (.ip cs) (.pointer (some ⟨b, 0, none⟩))
  | .fzS k rows, y => ∃ a c, ρ.s i rows.length = some (a, c) ∧ y = .fact (.sl k rows) (.slice a rows.length c)
  | .gone, _ => True
theorem EInst.mono {ρ ρ' : Rho} (h : ρ.le ρ') {i : Nat} (hi : ρ'.s i = ρ.s i) {x : CEnt} {y : Ent} (hx : EInst ρ i x y) : EInst ρ' i x y := by
  cases x with
  | box cs => obtain ⟨b, cs', h1, h2, h3⟩ := hx; exact ⟨b, cs', h.1 _ _ h1, h2, h3.mono h⟩
  | row e k rows => obtain ⟨⟨a, c, h1, h2⟩, h3⟩ := hx; exact ⟨⟨a, c, by rw [hi]; exact h1, h2⟩, fun m hm => by rw [hi]; exact h3 m hm⟩
  | map es => obtain ⟨b, es', h1, h2, h3⟩ := hx; exact ⟨b, es', h.1 _ _ h1, h2, h3.mono h⟩
  | fzP cs => obtain ⟨b, h1, h2⟩ := hx; exact ⟨b, h.1 _ _ h1, h2⟩
  | fzS k rows => obtain ⟨a, c, h1, h2⟩ := hx; exact ⟨a, c, h.2 _ _ _ h1, h2⟩
  | gone => trivial
def SS (ρ : Rho) (σ : TS) (s : Sl) : Prop := ∀ t x, σ.get t = some x → ∃ y, s t = some y ∧ Inst ρ x y
theorem SS.mono {ρ ρ' : Rho} (h : ρ.le ρ') {σ : TS} {s : Sl} (hs : SS ρ σ s) : SS ρ' σ s := fun t x hx => by
  obtain ⟨y, h1, h2⟩ := hs t x hx; exact ⟨y, h1, h2.mono h⟩
structure HS (ρ : Rho) (η : Hp) (ηB : List Ent) : Prop where
  en : ∀ i x, η.e.get i = some x → ∃ y, nth ηB i = some y ∧ EInst ρ i x y
  len : ηB.length = η.n
  dom : ∀ t, η.n ≤ t → ρ.b t = none ∧ ∀ n, ρ.s t n = none
def putT (σ : TS) (dst : Option Nat) (x : CV) : TS := match dst with
  | some d => Tr.put 24 σ d (some x)
  | none => σ
theorem SS.put {ρ : Rho} {σ : TS} {σB : Sg} (h : SS ρ σ (look σB)) (dst : Option Nat) {x : CV} {y : AV} (hx : Inst ρ x y) : SS ρ (putT σ dst x) (look (putS dst y σB)) := by
  cases dst with
  | none => exact h
  | some d =>
    intro t z hz
    rcases Tr.get_put 24 σ d t (some x) z hz with ⟨rfl, h1⟩ | ⟨hne, h1⟩
    · cases h1
      exact ⟨y, by simp [putS, look], hx⟩
    · obtain ⟨u, h2, h3⟩ := h t z h1
      refine ⟨u, ?_, h3⟩
      have : Nat.beq d t = false := by cases hb : Nat.beq d t with
        | false => rfl
        | true => exact absurd (Nat.eq_of_beq_eq_true hb).symm hne
      simp only [putS, look, this]; exact h2
inductive DE where
  | norm
  | exit (id : Nat)
  | ret
  | pan (x : CV)
def DE.inst (ρ : Rho) : DE → AE → Prop
  | .norm, e => e = .norm
  | .exit i, e => e = .exit i
  | .ret, e => e = .ret
  | .pan x, e => ∃ y, e = .pan y ∧ Inst ρ x y
abbrev DQ := DE → TS → Hp → Prop
def DE.sl (e : DE) (σ : TS) : TS := match e with
  | .pan _ => .lf
  | _ => σ
def Rho.leK (K : Nat) (ρ ρ' : Rho) : Prop := ∀ t, t < K → (∀ x, ρ.b t = some x → ρ'.b t = some x) ∧ ∀ n x, ρ.s t n = some x → ρ'.s t n = some x
theorem Rho.leK.refl (K : Nat) (ρ : Rho) : Rho.leK K ρ ρ := fun _ _ => ⟨fun _ h => h, fun _ _ h => h⟩
theorem Rho.leK.trans {K : Nat} {ρ ρ' ρ'' : Rho} (h : Rho.leK K ρ ρ') (g : Rho.leK K ρ' ρ'') : Rho.leK K ρ ρ'' := fun t ht => ⟨fun x hx => (g t ht).1 x ((h t ht).1 x hx), fun n x hx => (g t ht).2 n x ((h t ht).2 n x hx)⟩
theorem Rho.le.toK {ρ ρ' : Rho} (h : ρ.le ρ') (K : Nat) : Rho.leK K ρ ρ' := fun t _ => ⟨h.1 t, h.2 t⟩
def lift (K : Nat) (ρ : Rho) (Q : DQ) : AQ := fun e σB ηB => ∃ ρ' d σ η, Rho.leK K ρ ρ' ∧ DE.inst ρ' d e ∧ SS ρ' σ (look σB) ∧ HS ρ' η ηB ∧ Q d σ η
theorem lift_mono {K : Nat} {ρ ρ' : Rho} (h : Rho.leK K ρ ρ') {Q Q' : DQ} (hq : ∀ e σ η, Q e σ η → Q' e σ η) {e : AE} {σB : Sg} {ηB : List Ent} (hl : lift K ρ' Q e σB ηB) : lift K ρ Q' e σB ηB := by
  obtain ⟨ρ1, d, σ, η, h1, h2, h3, h4, h5⟩ := hl
  exact ⟨ρ1, d, σ, η, h.trans h1, h2, h3, h4, hq _ _ _ h5⟩
def DC (E : Env) (N K : Nat) (c : Code) (Q : DQ) (σ : TS) (η : Hp) : Prop := ∀ ρ σB ηB, SS ρ σ (look σB) → HS ρ η ηB → AWP E.toCx N c (lift K ρ Q) σB ηB
def DO (E : Env) (N K : Nat) (all rest : List Oper) (Q : DQ) (σ : TS) (η : Hp) : Prop := ∀ ρ σB ηB, SS ρ σ (look σB) → HS ρ η ηB → AOps E.toCx N all.toArray rest (lift K ρ Q) σB ηB
abbrev DE.then (next : TS → Hp → Prop) (Q : DQ) : DQ := fun e σ η => match e with
  | .norm => next σ η
  | .exit i => Q (.exit i) σ η
  | .ret => Q .ret σ η
  | .pan x => Q (.pan x) σ η
abbrev DE.inBlock (id : Nat) (Q : DQ) : DQ := fun e σ η => match e with
  | .norm => Q .norm σ η
  | .exit i => match Nat.beq i id with
    | true => Q .norm σ η
    | false => Q (.exit i) σ η
  | .ret => Q .ret σ η
  | .pan x => Q (.pan x) σ η
section
variable {E : Env} {N K : Nat} {Q : DQ} {σ : TS} {η : Hp}
theorem lift_intro {ρ : Rho} {d : DE} {e : AE} {σB : Sg} {ηB : List Ent} (h : DE.inst ρ d e) (hs : SS ρ σ (look σB)) (hh : HS ρ η ηB) (hq : Q d σ η) : lift K ρ Q e σB ηB := ⟨ρ, d, σ, η, .refl K ρ, h, hs, hh, hq⟩
theorem DC.skip (h : Q .norm σ η) : DC E N K .skip Q σ η := fun ρ σB ηB hs hh => AWP.skip (lift_intro (d := .norm) rfl hs hh h)
theorem DC.exit {id : Nat} (h : Q (.exit id) σ η) : DC E N K (.exit id) Q σ η := fun ρ σB ηB hs hh => AWP.exit (lift_intro (d := .exit id) rfl hs hh h)
theorem DC.ret (h : Q .ret σ η) : DC E N K .ret Q σ η := fun ρ σB ηB hs hh => AWP.ret (lift_intro (d := .ret) rfl hs hh h)
theorem DC.label {l : Nat} (h : Q .norm σ η) : DC E N K (.label l) Q σ η := fun ρ σB ηB hs hh => AWP.label (lift_intro (d := .norm) rfl hs hh h)
theorem DC.mono {c : Code} {Q' : DQ} (h : DC E N K c Q σ η) (hq : ∀ e σ η, Q e σ η → Q' e σ η) : DC E N K c Q' σ η := fun ρ σB ηB hs hh =>
  AWP.mono (h ρ σB ηB hs hh) fun _ _ _ hl => lift_mono (.refl K ρ) hq hl
theorem DC.seq {x y : Code} (h : DC E N K x (DE.then (DC E N K y Q) Q) σ η) : DC E N K (.seq x y) Q σ η := fun ρ σB ηB hs hh => by
  refine AWP.seq (AWP.mono (h ρ σB ηB hs hh) ?_)
  rintro e σB' ηB' ⟨ρ', d, σ', η', h1, h2, h3, h4, h5⟩
  cases d with
  | norm => simp only [DE.inst] at h2; subst h2; exact AWP.mono (h5 ρ' σB' ηB' h3 h4) fun _ _ _ hl => lift_mono h1 (fun _ _ _ h => h) hl
  | exit i => simp only [DE.inst] at h2; subst h2; exact ⟨ρ', .exit i, σ', η', h1, rfl, h3, h4, h5⟩
  | ret => simp only [DE.inst] at h2; subst h2; exact ⟨ρ', .ret, σ', η', h1, rfl, h3, h4, h5⟩
  | pan x => obtain ⟨y, rfl, h2⟩ := h2; exact ⟨ρ', .pan x, σ', η', h1, ⟨y, rfl, h2⟩, h3, h4, h5⟩
theorem DC.block {id : Nat} {c : Code} (h : DC E N K c (DE.inBlock id Q) σ η) : DC E N K (.block id c) Q σ η := fun ρ σB ηB hs hh => by
  refine AWP.block (AWP.mono (h ρ σB ηB hs hh) ?_)
  rintro e σB' ηB' ⟨ρ', d, σ', η', h1, h2, h3, h4, h5⟩
  cases d with
  | norm => simp only [DE.inst] at h2; subst h2; exact ⟨ρ', .norm, σ', η', h1, rfl, h3, h4, h5⟩
  | exit i =>
    simp only [DE.inst] at h2; subst h2
    simp only [DE.inBlock] at h5
    simp only [AE.inBlock]
    cases hb : Nat.beq i id with
    | true => rw [hb] at h5; exact ⟨ρ', .norm, σ', η', h1, rfl, h3, h4, h5⟩
    | false => rw [hb] at h5; exact ⟨ρ', .exit i, σ', η', h1, rfl, h3, h4, h5⟩
  | ret => simp only [DE.inst] at h2; subst h2; exact ⟨ρ', .ret, σ', η', h1, rfl, h3, h4, h5⟩
  | pan x => obtain ⟨y, rfl, h2⟩ := h2; exact ⟨ρ', .pan x, σ', η', h1, ⟨y, rfl, h2⟩, h3, h4, h5⟩
theorem DC.region {id : Nat} {l : List Oper} (h : DO E N K l l Q σ η) : DC E N K (.region id l.toArray false) Q σ η := fun ρ σB ηB hs hh => AWP.region (h ρ σB ηB hs hh)
theorem DO.nil {all : List Oper} (h : Q .norm σ η) : DO E N K all [] Q σ η := fun ρ σB ηB hs hh => AOps.nil (lift_intro (d := .norm) rfl hs hh h)
theorem DO.mono {all rest : List Oper} {Q' : DQ} (h : DO E N K all rest Q σ η) (hq : Q = Q') : DO E N K all rest Q' σ η := hq ▸ h
def cev (σ : TS) : Operand → Option CV
  | .tmp t => σ.get t
  | .const v => some (.d (.v v))
  | .global g => some (.d (.v (.pointer (some ⟨g, 0, none⟩))))
  | .func f => some (.d (.v (.func (.func f) #[] #[])))
theorem cev_inst {ρ : Rho} {s : Sl} (hs : SS ρ σ s) {o : Operand} {x : CV} (h : cev σ o = some x) : ∃ y, ev s o = some y ∧ Inst ρ x y := by
  cases o with
  | tmp t => exact hs t x h
  | const v => simp only [cev, Option.some.injEq] at h; subst h; exact ⟨_, rfl, rfl⟩
  | global g => simp only [cev, Option.some.injEq] at h; subst h; exact ⟨_, rfl, rfl⟩
  | func f => simp only [cev, Option.some.injEq] at h; subst h; exact ⟨_, rfl, rfl⟩
theorem DC.cond {c : Operand} {x y : Code} {t : Bool} (hc : cev σ c = some (.d (.v (.bool t)))) (h1 : t = true → DC E N K x Q σ η) (h2 : t = false → DC E N K y Q σ η) : DC E N K (.cond c x y) Q σ η :=
  fun ρ σB ηB hs hh => by
    obtain ⟨z, h3, h4⟩ := cev_inst hs hc
    simp only [Inst] at h4; subst h4
    exact AWP.cond h3 (fun ht => h1 ht ρ σB ηB hs hh) (fun ht => h2 ht ρ σB ηB hs hh)
theorem DC.condS {c : Nat} {x y : Code} {t : Bool} (hc : σ.get c = some (.d (.v (.bool t)))) (h1 : t = true → DC E N K x Q (Tr.put 24 σ c (some (.d (.v (.bool true))))) η)
    (h2 : t = false → DC E N K y Q (Tr.put 24 σ c (some (.d (.v (.bool false))))) η) : DC E N K (.cond (.tmp c) x y) Q σ η := by
  refine DC.cond hc (fun ht => ?_) (fun ht => ?_)
  all_goals
    subst ht
    intro ρ σB ηB hs hh
    first | refine h1 rfl ρ σB ηB ?_ hh | refine h2 rfl ρ σB ηB ?_ hh
    intro u z hz
    rcases Tr.get_put 24 σ c u _ z hz with ⟨rfl, h3⟩ | ⟨_, h3⟩
    · cases h3; exact hs _ _ hc
    · exact hs _ _ h3
mutual
def cvB (m : Nat) : CV → Bool
  | .d _ => true
  | .agg xs => cvBL m xs
  | .tup xs => cvBL m xs
  | .own t _ => Nat.blt t m
  | .os t _ => Nat.blt t m
  | .oe t _ _ => Nat.blt t m
  | .om t => Nat.blt t m
  | .fn _ fs cs => match cvBL m fs with
    | true => cvBL m cs
    | false => false
  | .ifc _ x => cvB m x
def cvBL (m : Nat) : List CV → Bool
  | [] => true
  | x :: r => match cvB m x with
    | true => cvBL m r
    | false => false
end
def ceB (m : Nat) : CEnt → Bool
  | .box cs => cvBL m cs
  | .map es => es.all fun p => cvB m p.2
  | _ => true
def Rho.cut (ρ : Rho) (m : Nat) : Rho := ⟨fun t => if t < m then ρ.b t else none, fun t n => if t < m then ρ.s t n else none⟩
mutual
theorem Inst.cut {ρ : Rho} {m : Nat} : ∀ {x : CV} {y : AV}, cvB m x = true → Inst ρ x y → Inst (ρ.cut m) x y
  | .d x, _, _, h1 => by simp only [Inst] at h1 ⊢; exact h1
  | .agg xs, _, h, h1 => by simp only [Inst] at h1 ⊢; obtain ⟨ys, e, h2⟩ := h1; exact ⟨ys, e, InstL.cut (by simpa [cvB] using h) h2⟩
  | .tup xs, _, h, h1 => by simp only [Inst] at h1 ⊢; obtain ⟨ys, e, h2⟩ := h1; exact ⟨ys, e, InstL.cut (by simpa [cvB] using h) h2⟩
  | .own t o, _, h, h1 => by simp only [Inst] at h1 ⊢; obtain ⟨b, t', e, h2⟩ := h1; exact ⟨b, t', by simp only [cvB, Nat.blt_eq] at h; simp [Rho.cut, h, e], h2⟩
  | .os t n, _, h, h1 => by simp only [Inst] at h1 ⊢; obtain ⟨a, c, t', e, h2⟩ := h1; exact ⟨a, c, t', by simp only [cvB, Nat.blt_eq] at h; simp [Rho.cut, h, e], h2⟩
  | .oe t n o, _, h, h1 => by simp only [Inst] at h1 ⊢; obtain ⟨a, c, t', e, h2⟩ := h1; exact ⟨a, c, t', by simp only [cvB, Nat.blt_eq] at h; simp [Rho.cut, h, e], h2⟩
  | .om t, _, h, h1 => by simp only [Inst] at h1 ⊢; obtain ⟨b, t', e, h2⟩ := h1; exact ⟨b, t', by simp only [cvB, Nat.blt_eq] at h; simp [Rho.cut, h, e], h2⟩
  | .fn f fs cs, _, h, h1 => by
    simp only [cvB] at h
    split at h
    · rename_i h0
      simp only [Inst] at h1 ⊢; obtain ⟨us, vs, e, h2, h3⟩ := h1; exact ⟨us, vs, e, InstL.cut h0 h2, InstL.cut h h3⟩
    · cases h
  | .ifc t x, _, h, h1 => by simp only [Inst] at h1 ⊢; obtain ⟨u, e, h2⟩ := h1; exact ⟨u, e, Inst.cut (by simpa [cvB] using h) h2⟩
theorem InstL.cut {ρ : Rho} {m : Nat} : ∀ {x : List CV} {y : List AV}, cvBL m x = true → InstL ρ x y → InstL (ρ.cut m) x y
  | [], _, _, h1 => by simp only [InstL] at h1 ⊢; exact h1
  | _ :: _, _, h, h1 => by
    simp only [cvBL] at h
    split at h
    · rename_i h0
      simp only [InstL] at h1 ⊢; obtain ⟨y, r, e, h2, h3⟩ := h1; exact ⟨y, r, e, Inst.cut h0 h2, InstL.cut h h3⟩
    · cases h
end
theorem InstM.cut {ρ : Rho} {m : Nat} : ∀ {xs : List (Value × CV)} {ys : List (Value × AV)}, (xs.all fun p => cvB m p.2) = true → InstM ρ xs ys → InstM (ρ.cut m) xs ys
  | [], _, _, h1 => by simp only [InstM] at h1 ⊢; exact h1
  | _ :: _, _, h, h1 => by
    simp only [List.all_cons, Bool.and_eq_true] at h
    simp only [InstM] at h1 ⊢; obtain ⟨y, r, e, h2, h3, h4⟩ := h1; exact ⟨y, r, e, h2, h3.cut h.1, InstM.cut h.2 h4⟩
theorem EInst.cut {ρ : Rho} {m i : Nat} (hi : i < m) {x : CEnt} {y : Ent} (hb : ceB m x = true) (hx : EInst ρ i x y) : EInst (ρ.cut m) i x y := by
  have h1 : (ρ.cut m).b i = ρ.b i := by simp [Rho.cut, hi]
  have h2 : ∀ n, (ρ.cut m).s i n = ρ.s i n := fun n => by simp [Rho.cut, hi]
  cases x with
  | box cs => obtain ⟨b, cs', h3, h4, h5⟩ := hx; exact ⟨b, cs', h1.trans h3, h4, h5.cut hb⟩
  | row e k rows => obtain ⟨⟨a, c, h3, h4⟩, h5⟩ := hx; exact ⟨⟨a, c, (h2 _).trans h3, h4⟩, fun n hn => (h2 n).trans (h5 n hn)⟩
  | map es => obtain ⟨b, es', h3, h4, h5⟩ := hx; exact ⟨b, es', h1.trans h3, h4, h5.cut hb⟩
  | fzP cs => obtain ⟨b, h3, h4⟩ := hx; exact ⟨b, h1.trans h3, h4⟩
  | fzS k rows => obtain ⟨a, c, h3, h4⟩ := hx; exact ⟨a, c, (h2 _).trans h3, h4⟩
  | gone => trivial
def pickT (m : Nat) : List Nat → TS → Option (List (Nat × CV))
  | [], _ => some []
  | t :: ts, σ => match σ.get t, pickT m ts σ with
    | some x, some r => match cvB m x with
      | true => some ((t, x) :: r)
      | false => none
    | _, _ => none
def ofT : List (Nat × CV) → TS
  | [] => .lf
  | (t, x) :: r => Tr.put 24 (ofT r) t (some x)
theorem pickT_ss {ρ : Rho} {m : Nat} {s : Sl} (hs : SS ρ σ s) : ∀ {ts : List Nat} {l : List (Nat × CV)}, pickT m ts σ = some l → SS (ρ.cut m) (ofT l) s
  | [], _, h => by simp only [pickT, Option.some.injEq] at h; subst h; intro t x hx; simp [ofT, Tr.get_lf] at hx
  | t :: ts, l, h => by
    simp only [pickT] at h
    split at h
    · rename_i x r h1 h2
      split at h
      · rename_i h0
        simp only [Option.some.injEq] at h; subst h
        intro u z hz
        rcases Tr.get_put 24 _ t u _ z hz with ⟨rfl, h3⟩ | ⟨_, h3⟩
        · cases h3
          obtain ⟨y, h4, h5⟩ := hs _ _ h1
          exact ⟨y, h4, h5.cut h0⟩
        · exact pickT_ss hs h2 u z h3
      · cases h
    · cases h
def takeHI (m : Nat) (e : Tr CEnt) : Nat → Option (List CEnt)
  | 0 => some []
  | i + 1 => match takeHI m e i, e.get i with
    | some l, some x => match ceB m x with
      | true => some (l ++ [x])
      | false => none
    | some l, none => some (l ++ [.gone])
    | none, _ => none
def takeH (m : Nat) (η : Hp) : Option (List CEnt) := takeHI m η.e m
def ofE : Nat → List CEnt → Tr CEnt
  | _, [] => .lf
  | i, x :: r => Tr.put 24 (ofE (i + 1) r) i (some x)
def ofH (l : List CEnt) : Hp := ⟨ofE 0 l, l.length⟩
theorem get_ofE : ∀ {l : List CEnt} {i j : Nat} {x : CEnt}, (ofE i l).get j = some x → i ≤ j ∧ l[j - i]? = some x
  | [], i, j, x, h => by simp [ofE, Tr.get_lf] at h
  | y :: r, i, j, x, h => by
    simp only [ofE] at h
    rcases Tr.get_put 24 _ i j _ x h with ⟨rfl, h1⟩ | ⟨hne, h1⟩
    · cases h1; simp
    · obtain ⟨h2, h3⟩ := get_ofE h1
      refine ⟨by omega, ?_⟩
      rw [show j - i = (j - (i + 1)) + 1 by omega]
      simpa using h3
theorem takeHI_get {m : Nat} {e : Tr CEnt} : ∀ {n : Nat} {l : List CEnt}, takeHI m e n = some l → l.length = n ∧ ∀ i x, l[i]? = some x → x = .gone ∨ (e.get i = some x ∧ ceB m x = true)
  | 0, l, h => by simp only [takeHI, Option.some.injEq] at h; subst h; simp
  | n + 1, l, h => by
    simp only [takeHI] at h
    split at h
    · rename_i l' x h1 h2
      split at h
      · rename_i h0
        simp only [Option.some.injEq] at h; subst h
        obtain ⟨h3, h4⟩ := takeHI_get h1
        refine ⟨by simp [h3], fun i y hy => ?_⟩
        rw [List.getElem?_append] at hy
        split at hy
        · exact h4 i y hy
        · rename_i hi
          rw [List.getElem?_singleton] at hy
          split at hy
          · cases hy; right; rw [← h2]; exact ⟨by congr 1; omega, h0⟩
          · cases hy
      · cases h
    · rename_i l' h1 h2
      simp only [Option.some.injEq] at h; subst h
      obtain ⟨h3, h4⟩ := takeHI_get h1
      refine ⟨by simp [h3], fun i y hy => ?_⟩
      rw [List.getElem?_append] at hy
      split at hy
      · exact h4 i y hy
      · rw [List.getElem?_singleton] at hy
        split at hy
        · cases hy; exact .inl rfl
        · cases hy
    · cases h
theorem takeH_hs {ρ : Rho} {m : Nat} {ηB : List Ent} (hh : HS ρ η ηB) (hm : m ≤ η.n) {l : List CEnt} (h : takeH m η = some l) : HS (ρ.cut m) (ofH l) (ηB.take m) := by
  obtain ⟨h1, h2⟩ := takeHI_get h
  refine ⟨fun i x hx => ?_, by simp [ofH, h1, hh.len, hm], fun t ht => ?_⟩
  · obtain ⟨_, h3⟩ := get_ofE hx
    simp only [Nat.sub_zero] at h3
    have hi : i < m := by rw [← h1]; exact (List.getElem?_eq_some_iff.1 h3).1
    have hlt : i < ηB.length := by rw [hh.len]; omega
    have hn : nth (ηB.take m) i = nth ηB i := by rw [nth_eq, nth_eq, List.getElem?_take, if_pos hi]
    rw [hn]
    rcases h2 i x h3 with rfl | ⟨h4, h5⟩
    · exact ⟨ηB[i], by rw [nth_eq]; simp [hlt], trivial⟩
    · obtain ⟨y, h6, h7⟩ := hh.en i x h4
      exact ⟨y, h6, h7.cut hi h5⟩
  · have : ¬ t < m := by simp only [ofH, h1] at ht; omega
    simp [Rho.cut, this]
theorem Rho.cut_leK {ρ : Rho} {m : Nat} (hm : K ≤ m) : Rho.leK K ρ (ρ.cut m) := fun t ht => by
  have : t < m := by omega
  simp [Rho.cut, this]
theorem DC.loop {c : Code} (ts : List Nat) (m : Nat) (I : Nat → List (Nat × CV) → List CEnt → Prop) (n : Nat) (hK : K ≤ m) {l : List (Nat × CV)} {es : List CEnt} (hm : m ≤ η.n) (hp : pickT m ts σ = some l) (he : takeH m η = some es) (h0 : I n l es)
    (round : ∀ n l es, I n l es → DC E N K c (DE.then (fun σ1 η1 => ∃ n', n' < n ∧ ∃ l' es', m ≤ η1.n ∧ pickT m ts σ1 = some l' ∧ takeH m η1 = some es' ∧ I n' l' es') Q) (ofT l) (ofH es)) : DC E N K (.loop c) Q σ η := fun ρ σB ηB hs hh => by
  refine AWP.loop (fun n σB ηB => ∃ ρ1 l es, Rho.leK K ρ ρ1 ∧ SS ρ1 (ofT l) (look σB) ∧ HS ρ1 (ofH es) (ηB.take m) ∧ I n l es) n ⟨ρ.cut m, l, es, Rho.cut_leK hK, pickT_ss hs hp, takeH_hs hh hm he, h0⟩ ?_
  rintro n σB1 ηB1 ⟨ρ1, l1, es1, h1, h2, h3, h4⟩
  refine AWP.weak (Weak.sub (List.take_sublist m ηB1)) (AWP.mono (round n l1 es1 h4 ρ1 σB1 _ h2 h3) ?_)
  rintro e σB2 ηB2 ⟨ρ2, d, σ2, η2, g1, g2, g3, g4, g5⟩
  cases d with
  | norm =>
    simp only [DE.inst] at g2; subst g2
    obtain ⟨n', hn, l', es', q1, q2, q3, q4⟩ := g5
    exact ⟨n', hn, ρ2.cut m, l', es', (h1.trans g1).trans (Rho.cut_leK hK), pickT_ss g3 q2, takeH_hs g4 q1 q3, q4⟩
  | exit i => simp only [DE.inst] at g2; subst g2; exact ⟨ρ2, .exit i, σ2, η2, h1.trans g1, rfl, g3, g4, g5⟩
  | ret => simp only [DE.inst] at g2; subst g2; exact ⟨ρ2, .ret, σ2, η2, h1.trans g1, rfl, g3, g4, g5⟩
  | pan x => obtain ⟨y, rfl, g2⟩ := g2; exact ⟨ρ2, .pan x, σ2, η2, h1.trans g1, ⟨y, rfl, g2⟩, g3, g4, g5⟩
def DRounds (E : Env) (N K : Nat) (c : Code) (Q : DQ) : Nat → TS → Hp → Prop
  | 0 => fun _ _ => False
  | n + 1 => DC E N K c (DE.then (DRounds E N K c Q n) Q)
theorem DC.rounds {c : Code} (n : Nat) (h : DRounds E N K c Q n σ η) : DC E N K (.loop c) Q σ η := fun ρ σB ηB hs hh => by
  refine AWP.rounds n ?_
  have key : ∀ n ρ1 σ η σB ηB, Rho.leK K ρ ρ1 → SS ρ1 σ (look σB) → HS ρ1 η ηB → DRounds E N K c Q n σ η → ARounds E.toCx N c (lift K ρ Q) n σB ηB := by
    intro n
    induction n with
    | zero => intro ρ1 σ η σB ηB _ _ _ h; exact h.elim
    | succ n ih =>
      intro ρ1 σ η σB ηB h1 h2 h3 h4
      refine AWP.mono (h4 ρ1 σB ηB h2 h3) ?_
      rintro e σB2 ηB2 ⟨ρ2, d, σ2, η2, g1, g2, g3, g4, g5⟩
      cases d with
      | norm => simp only [DE.inst] at g2; subst g2; exact ih ρ2 σ2 η2 _ _ (h1.trans g1) g3 g4 g5
      | exit i => simp only [DE.inst] at g2; subst g2; exact ⟨ρ2, .exit i, σ2, η2, h1.trans g1, rfl, g3, g4, g5⟩
      | ret => simp only [DE.inst] at g2; subst g2; exact ⟨ρ2, .ret, σ2, η2, h1.trans g1, rfl, g3, g4, g5⟩
      | pan x => obtain ⟨y, rfl, g2⟩ := g2; exact ⟨ρ2, .pan x, σ2, η2, h1.trans g1, ⟨y, rfl, g2⟩, g3, g4, g5⟩
  exact key n ρ σ η σB ηB (.refl K ρ) hs hh h
end
end Go.Bw
