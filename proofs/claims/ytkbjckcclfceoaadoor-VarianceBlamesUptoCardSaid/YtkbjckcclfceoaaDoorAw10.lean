/-
  Own work. An own box is handed on as a place that does not change.
-/
import Derived.Test.YtkbjckcclfceoaaDoorAw9
namespace Go.Aw
open Go
section
variable {N : Nat} {σ : Sg} {η : List Ent} {Q : AQ} {ops : Array Oper} {rest : List Oper}

theorem Weak.freezeBox {G : Gl} (i t : Nat) {b : Nat} {cs : List AV} (hi : nth η i = some (.box b cs)) (ht : look σ t = some (.v (.pointer (some ⟨b, 0, none⟩)))) : Weak G N σ η ((t, .ip cs) :: σ) (η.eraseIdx i) := fun F w a hs => by
  have her : ∀ {l : List Ent} {i : Nat} {x : Ent}, nth l i = some x → ∃ l1 l2, l = l1 ++ x :: l2 ∧ l.eraseIdx i = l1 ++ l2 := by
    intro l
    induction l with
    | nil => intro i x h; simp [nth] at h
    | cons y r ih =>
      intro i x h
      cases i with
      | zero => simp only [nth, Option.some.injEq] at h; subst h; exact ⟨[], r, rfl, rfl⟩
      | succ n => simp only [nth] at h; obtain ⟨l1, l2, rfl, h2⟩ := ih h; exact ⟨y :: l1, l2, rfl, by simp [h2]⟩
  obtain ⟨l, r, rfl, hset⟩ := her hi
  rw [hset]
  have hsub : ∀ c ∈ ids (l ++ r), c ∈ ids (l ++ Ent.box b cs :: r) := fun c hc => by
    simp only [ids_append, ids_cons, List.mem_append] at hc ⊢
    rcases hc with hc | hc
    · exact .inl hc
    · exact .inr (.inr hc)
  have hA : ∀ c, Al F (l ++ Ent.box b cs :: r) c → Al F (l ++ r) c := fun c hc => ⟨hc.1, fun h => hc.2 (hsub c h)⟩
  have hkeep : Keeps w (Al F (l ++ Ent.box b cs :: r)) w (Al F (l ++ r)) := ⟨Nat.le_refl _, fun c _ h => ⟨hA c h, rfl⟩⟩
  have hnd := hs.hp.nodup
  simp only [ids_append, ids_cons, List.nodup_append, List.mem_append] at hnd
  obtain ⟨e, vs, h1, h2⟩ := hs.hp.ents (.box b cs) (by simp)
  obtain ⟨hlt, hv⟩ := hs.sg.2 t _ ht
  simp only [Rel] at hv
  have hrel : Rel w (Al F (l ++ r)) (.ip cs) (.pointer (some ⟨b, 0, none⟩)) := by
    simp only [Rel]
    refine ⟨b, 0, vs, rfl, ⟨(Array.getElem?_eq_some_iff.1 h1).1, ?_, ?_⟩, h2.keep hkeep, fun j u hj => ?_⟩
    · exact hs.hp.free b (by simp [ids_append, ids_cons, Ent.ids])
    · simp only [ids_append, List.mem_append, not_or]
      refine ⟨fun hm => hnd.2.2 b hm b (.inl (by simp [Ent.ids])) rfl, fun hm => hnd.2.1.2.2 b (by simp [Ent.ids]) b hm rfl⟩
    · rw [Nat.zero_add]; simp [World.cell?, h1, hj]
  refine ⟨⟨⟨hs.sg.1, fun s x hx => ?_⟩, ⟨fun x hx => ?_, ?_, fun c hc => hs.hp.free c (hsub c hc), hs.hp.bound, hs.hp.glob.keep hkeep⟩, hs.df⟩, hsub⟩
  · simp only [look] at hx
    cases hb : Nat.beq t s with
    | true => rw [hb] at hx; simp only [Option.some.injEq] at hx; subst hx; rw [← Nat.eq_of_beq_eq_true hb]; exact ⟨hlt, by rw [hv]; exact hrel⟩
    | false => rw [hb] at hx; exact ⟨(hs.sg.2 s x hx).1, (hs.sg.2 s x hx).2.keep hkeep⟩
  · refine (hs.hp.ents x ?_).keep hkeep (fun _ _ => rfl)
    simp only [List.mem_append, List.mem_cons] at hx ⊢
    rcases hx with hx | hx
    · exact .inl hx
    · exact .inr (.inr hx)
  · simp only [ids_append, List.nodup_append]
    exact ⟨hnd.1, hnd.2.1.2.1, fun a ha b hb => hnd.2.2 a ha b (.inr hb)⟩

theorem AWP.freezeBox {C : Cx} {c : Code} (i t : Nat) {b : Nat} {cs : List AV} (hi : nth η i = some (.box b cs)) (ht : look σ t = some (.v (.pointer (some ⟨b, 0, none⟩)))) (h : AWP C N c Q ((t, .ip cs) :: σ) (η.eraseIdx i)) : AWP C N c Q σ η := AWP.weak (Weak.freezeBox i t hi ht) h
theorem AOps.freezeBox {C : Cx} (i t : Nat) {b : Nat} {cs : List AV} (hi : nth η i = some (.box b cs)) (ht : look σ t = some (.v (.pointer (some ⟨b, 0, none⟩)))) (h : AOps C N ops rest Q ((t, .ip cs) :: σ) (η.eraseIdx i)) : AOps C N ops rest Q σ η := AOps.weak (Weak.freezeBox i t hi ht) h

theorem Weak.put {G : Gl} {t : Nat} {x : AV} (h : look σ t = some x) : Weak G N σ η ((t, x) :: σ) η := fun F w a hs => by
  refine ⟨⟨⟨hs.sg.1, fun s y hy => ?_⟩, hs.hp, hs.df⟩, fun _ h => h⟩
  simp only [look] at hy
  cases hb : Nat.beq t s with
  | true => rw [hb] at hy; simp only [Option.some.injEq] at hy; subst hy; rw [← Nat.eq_of_beq_eq_true hb]; exact hs.sg.2 t _ h
  | false => rw [hb] at hy; exact hs.sg.2 s y hy

/-- A condition that is looked at again. -/
theorem AWP.condS {C : Cx} {t : Nat} {x y : Code} {b : Bool} (hc : look σ t = some (.v (.bool b))) (h1 : b = true → AWP C N x Q ((t, .v (.bool true)) :: σ) η) (h2 : b = false → AWP C N y Q ((t, .v (.bool false)) :: σ) η) : AWP C N (.cond (.tmp t) x y) Q σ η :=
  AWP.cond (t := b) hc (fun h => by subst h; exact AWP.weak (Weak.put hc) (h1 rfl)) (fun h => by subst h; exact AWP.weak (Weak.put hc) (h2 rfl))
end
end Go.Aw
