/-
  Own work. A value that is known in one form is known in another one that says no more.
-/
import Derived.Test.YtkbjckcclfceoaaDoorAw10
namespace Go.Aw
open Go
section
variable {N : Nat} {σ : Sg} {η : List Ent} {Q : AQ} {ops : Array Oper} {rest : List Oper}

/-- What says no more. -/
def Imp (x y : AV) : Prop := ∀ (w : World) (A : Nat → Prop) (v : Value), Rel w A x v → Rel w A y v
def ImpL (xs ys : List AV) : Prop := ∀ (w : World) (A : Nat → Prop) (vs : List Value), RelL w A xs vs → RelL w A ys vs
theorem Imp.refl (x : AV) : Imp x x := fun _ _ _ h => h
theorem Imp.nil (k : Nat) : Imp (.v (.slice none 0 0)) (.sl k []) := fun w A v h => by
  simp only [Rel] at h ⊢
  subst h
  exact .inl ⟨trivial, _, _, rfl⟩
theorem Imp.agg {xs ys : List AV} (h : ImpL xs ys) : Imp (.agg xs) (.agg ys) := fun w A v hr => by
  simp only [Rel] at hr ⊢
  obtain ⟨vs, e, h2⟩ := hr
  exact ⟨vs, e, h w A vs h2⟩
theorem ImpL.nil : ImpL [] [] := fun _ _ _ h => h
theorem ImpL.cons {x y : AV} {xs ys : List AV} (h : Imp x y) (g : ImpL xs ys) : ImpL (x :: xs) (y :: ys) := fun w A vs hr => by
  simp only [RelL] at hr ⊢
  obtain ⟨v, r, e, h2, h3⟩ := hr
  exact ⟨v, r, e, h w A v h2, g w A r h3⟩
theorem Weak.conv {G : Gl} {t : Nat} {x y : AV} (h : look σ t = some x) (hi : Imp x y) : Weak G N σ η ((t, y) :: σ) η := fun F w a hs => by
  refine ⟨⟨⟨hs.sg.1, fun s z hz => ?_⟩, hs.hp, hs.df⟩, fun _ h => h⟩
  simp only [look] at hz
  cases hb : Nat.beq t s with
  | true => rw [hb] at hz; simp only [Option.some.injEq] at hz; subst hz; rw [← Nat.eq_of_beq_eq_true hb]; exact ⟨(hs.sg.2 t _ h).1, hi _ _ _ (hs.sg.2 t _ h).2⟩
  | false => rw [hb] at hz; exact hs.sg.2 s z hz
theorem AOps.conv {C : Cx} {t : Nat} {x : AV} (y : AV) (h : look σ t = some x) (hi : Imp x y) (k : AOps C N ops rest Q ((t, y) :: σ) η) : AOps C N ops rest Q σ η := AOps.weak (Weak.conv h hi) k
end
end Go.Aw
