/-
  Own work. The abstract machine, fourth part: own memory handed on as unchanging; calls; functions.
-/
import Derived.Test.YtcngmkedekmkhaaGreatD3
noncomputable section
namespace Go.Bw
open Go
def eqs : List (Nat × Nat) → Prop
  | [] => True
  | p :: r => p.1 = p.2 ∧ eqs r
theorem eqs_append : ∀ {l r : List (Nat × Nat)}, eqs (l ++ r) → eqs l ∧ eqs r
  | [], _, h => ⟨trivial, h⟩
  | _ :: _, _, h => ⟨⟨h.1, (eqs_append h.2).1⟩, (eqs_append h.2).2⟩
def frzL (e : Tr CEnt) : Nat → List CV → Option (List AV × List (Nat × Nat) × List (Nat × CEnt))
  | 0, _ => none
  | _ + 1, [] => some ([], [], [])
  | f + 1, x :: r => match frzL e f r with
    | none => none
    | some (zs, ns, ms) => match x with
      | .d y => some (y :: zs, ns, ms)
      | .agg ys => match frzL e f ys with
        | some (us, ns', ms') => some (.agg us :: zs, ns' ++ ns, ms' ++ ms)
        | none => none
      | .tup ys => match frzL e f ys with
        | some (us, ns', ms') => some (.tup us :: zs, ns' ++ ns, ms' ++ ms)
        | none => none
      | .own t o => match e.get t with
        | some (.box cs) => match frzL e f cs with
          | some (us, ns', ms') => some (.ip (us.drop o) :: zs, ns' ++ ns, (t, .fzP us) :: (ms' ++ ms))
          | none => none
        | some (.fzP us) => some (.ip (us.drop o) :: zs, ns, ms)
        | _ => none
      | .os t n => match e.get t with
        | some (.row _ k rows) => some (.sl k rows :: zs, (n, rows.length) :: ns, (t, .fzS k rows) :: ms)
        | some (.fzS k rows) => some (.sl k rows :: zs, (n, rows.length) :: ns, ms)
        | _ => none
      | .fn g fs cs => match frzL e f fs, frzL e f cs with
        | some (us, ns1, ms1), some (vs, ns2, ms2) => some (.fn g us vs :: zs, ns1 ++ (ns2 ++ ns), ms1 ++ (ms2 ++ ms))
        | _, _ => none
      | .ifc t y => match frzL e f [y] with
        | some ([u], ns', ms') => some (.ifc t u :: zs, ns' ++ ns, ms' ++ ms)
        | _ => none
      | .oe _ _ _ => none
      | .om _ => none
def AlX (F : Nat → Prop) (ηB : List Ent) (M : List Nat) (b : Nat) : Prop := ¬ F b ∧ ∀ i y, nth ηB i = some y → i ∉ M → b ∉ y.ids
theorem Al_AlX {F : Nat → Prop} {ηB : List Ent} (M : List Nat) {b : Nat} (h : Al F ηB b) : AlX F ηB M b :=
  ⟨h.1, fun i y hy _ hb => h.2 (List.mem_flatMap.2 ⟨y, List.mem_of_getElem? (by rw [← nth_eq]; exact hy), hb⟩)⟩
theorem keep_AlX {w : World} {F : Nat → Prop} {ηB : List Ent} (M : List Nat) : Keeps w (Al F ηB) w (AlX F ηB M) := ⟨Nat.le_refl _, fun _ _ h => ⟨Al_AlX M h, rfl⟩⟩
theorem ids_disjoint : ∀ {l : List Ent} {i j : Nat} {x y : Ent} {b : Nat}, (ids l).Nodup → nth l i = some x → nth l j = some y → i ≠ j → b ∈ x.ids → b ∉ y.ids
  | [], _, _, _, _, _, _, h, _, _, _ => by simp [nth] at h
  | z :: l, 0, 0, _, _, _, _, _, _, hne, _ => absurd rfl hne
  | z :: l, 0, j + 1, x, y, b, hnd, hi, hj, _, hb => fun hy => by
    rw [ids_cons, List.nodup_append] at hnd
    simp only [nth, Option.some.injEq] at hi hj; subst hi
    exact hnd.2.2 b hb b (List.mem_flatMap.2 ⟨y, List.mem_of_getElem? (by rw [← nth_eq]; exact hj), hy⟩) rfl
  | z :: l, i + 1, 0, x, y, b, hnd, hi, hj, _, hb => fun hy => by
    rw [ids_cons, List.nodup_append] at hnd
    simp only [nth, Option.some.injEq] at hi hj; subst hj
    exact hnd.2.2 b hy b (List.mem_flatMap.2 ⟨x, List.mem_of_getElem? (by rw [← nth_eq]; exact hi), hb⟩) rfl
  | z :: l, i + 1, j + 1, x, y, b, hnd, hi, hj, hne, hb => by
    rw [ids_cons, List.nodup_append] at hnd
    simp only [nth] at hi hj
    exact ids_disjoint hnd.2.1 hi hj (fun e => hne (by rw [e])) hb
theorem alx_of {G : Gl} {w : World} {F : Nat → Prop} {ηB : List Ent} {M : List Nat} (hH : HOk G w F ηB) {i : Nat} {x : Ent} {b : Nat} (hi : nth ηB i = some x) (hM : i ∈ M) (hb : b ∈ x.ids) : AlX F ηB M b := by
  refine ⟨hH.free b (List.mem_flatMap.2 ⟨x, List.mem_of_getElem? (by rw [← nth_eq]; exact hi), hb⟩), fun j y hj hjM => ?_⟩
  exact ids_disjoint hH.nodup hi hj (fun e => hjM (e ▸ hM)) hb
def MkOk (ρ : Rho) (w : World) (A : Nat → Prop) : Nat × CEnt → Prop
  | (t, .fzP us) => ∃ b, ρ.b t = some b ∧ Rel w A (.ip us) (.pointer (some ⟨b, 0, none⟩))
  | (t, .fzS k rows) => ∃ a c, ρ.s t rows.length = some (a, c) ∧ Rel w A (.sl k rows) (.slice a rows.length c)
  | _ => False
section
variable {ρ : Rho} {η : Hp} {ηB : List Ent} {w : World} {F : Nat → Prop} {G : Gl}
theorem row_alx {M : List Nat} (hH : HOk G w F ηB) {i : Nat} {v : Value} {e k : Nat} {rows : List (List AV)} (hi : nth ηB i = some (.row v e k rows)) (hM : i ∈ M) : Rel w (AlX F ηB M) (.sl k rows) v := by
  obtain ⟨vs, h1, h2, h3⟩ := ents_nth hH hi
  simp only [Rel]
  rcases h3 with ⟨rfl, h0⟩ | ⟨g, cap, cur, rfl, _, hg, hn, hcm, hcs, htake⟩
  · exact .inl ⟨List.eq_nil_of_length_eq_zero h0, _, _, rfl⟩
  · refine .inr ⟨g, 0, cap, vs, rfl, ⟨(Array.getElem?_eq_some_iff.1 hg).1, alx_of hH hi hM (by simp [Ent.ids, Value.ownBlock])⟩, hn, hcm, h1.keep (keep_AlX M), fun j u hj => ?_⟩
    rw [← htake, List.getElem?_take] at hj
    split at hj
    · rw [Nat.zero_add]; simp [World.cell?, hg]; simpa using hj
    · cases hj
theorem frzL_ok (hh : HS ρ η ηB) (hH : HOk G w F ηB) (M : List Nat) : ∀ (f : Nat) {xs : List CV} {zs : List AV} {ns : List (Nat × Nat)} {ms : List (Nat × CEnt)} {ys : List AV} {vs : List Value}, frzL η.e f xs = some (zs, ns, ms) → eqs ns → (∀ p ∈ ms, p.1 ∈ M) →
    InstL ρ xs ys → RelL w (Al F ηB) ys vs → RelL w (AlX F ηB M) zs vs ∧ ∀ p ∈ ms, MkOk ρ w (AlX F ηB M) p
  | 0, _, _, _, _, _, _, h, _, _, _, _ => by simp [frzL] at h
  | f + 1, [], zs, ns, ms, ys, vs, h, _, _, hi, hr => by
    simp only [frzL, Option.some.injEq, Prod.mk.injEq] at h
    obtain ⟨rfl, rfl, rfl⟩ := h
    simp only [InstL] at hi; subst hi
    simp only [RelL] at hr; subst hr
    exact ⟨by simp [RelL], by simp⟩
  | f + 1, x :: r, zs, ns, ms, ys, vs, h, hn, hM, hi, hr => by
    simp only [InstL] at hi
    obtain ⟨y, ys, rfl, hy, hi⟩ := hi
    simp only [RelL] at hr
    obtain ⟨v, vs, rfl, hv, hr⟩ := hr
    simp only [frzL] at h
    split at h
    · cases h
    · rename_i zs0 ns0 ms0 h0
      have tail : ∀ {z : AV} {ms' : List (Nat × CEnt)}, eqs ns0 → (∀ p ∈ ms0, p.1 ∈ M) → Rel w (AlX F ηB M) z v → (∀ p ∈ ms', MkOk ρ w (AlX F ηB M) p) → RelL w (AlX F ηB M) (z :: zs0) (v :: vs) ∧ ∀ p ∈ ms' ++ ms0, MkOk ρ w (AlX F ηB M) p := by
        intro z ms' hn' hM' hz hm
        obtain ⟨h1, h2⟩ := frzL_ok hh hH M f h0 hn' hM' hi hr
        refine ⟨by simp only [RelL]; exact ⟨_, _, rfl, hz, h1⟩, fun p hp => ?_⟩
        rcases List.mem_append.1 hp with hp | hp
        · exact hm p hp
        · exact h2 p hp
      cases x with
      | d z =>
        simp only [Option.some.injEq, Prod.mk.injEq] at h
        obtain ⟨rfl, rfl, rfl⟩ := h
        simp only [Inst] at hy; subst hy
        simpa using tail (ms' := []) hn hM (hv.keep (keep_AlX M)) (by simp)
      | agg ks =>
        simp only at h
        split at h
        · rename_i us ns' ms' h1
          simp only [Option.some.injEq, Prod.mk.injEq] at h
          obtain ⟨rfl, rfl, rfl⟩ := h
          simp only [Inst] at hy
          obtain ⟨ws, rfl, hy⟩ := hy
          simp only [Rel] at hv
          obtain ⟨qs, rfl, hv⟩ := hv
          obtain ⟨g1, g2⟩ := eqs_append hn
          obtain ⟨h2, h3⟩ := frzL_ok hh hH M f h1 g1 (fun p hp => hM p (by simp [hp])) hy hv
          exact tail g2 (fun p hp => hM p (by simp [hp])) (by simp only [Rel]; exact ⟨qs, rfl, h2⟩) h3
        · cases h
      | tup ks =>
        simp only at h
        split at h
        · rename_i us ns' ms' h1
          simp only [Option.some.injEq, Prod.mk.injEq] at h
          obtain ⟨rfl, rfl, rfl⟩ := h
          simp only [Inst] at hy
          obtain ⟨ws, rfl, hy⟩ := hy
          simp only [Rel] at hv
          obtain ⟨qs, rfl, hv⟩ := hv
          obtain ⟨g1, g2⟩ := eqs_append hn
          obtain ⟨h2, h3⟩ := frzL_ok hh hH M f h1 g1 (fun p hp => hM p (by simp [hp])) hy hv
          exact tail g2 (fun p hp => hM p (by simp [hp])) (by simp only [Rel]; exact ⟨qs, rfl, h2⟩) h3
        · cases h
      | own t off =>
        simp only [Inst] at hy
        obtain ⟨b, t', hb, rfl⟩ := hy
        simp only [Rel] at hv; subst hv
        simp only at h
        split at h
        · rename_i cs hcs
          split at h
          · rename_i us ns' ms' h1
            simp only [Option.some.injEq, Prod.mk.injEq] at h
            obtain ⟨rfl, rfl, rfl⟩ := h
            obtain ⟨q, hq1, hq2⟩ := hh.en t _ hcs
            obtain ⟨b', ws, hb', rfl, hws⟩ := hq2
            rw [hb] at hb'; cases hb'
            obtain ⟨e, qs, hheap, hqs⟩ := ents_nth hH hq1
            obtain ⟨g1, g2⟩ := eqs_append hn
            have htM : t ∈ M := hM (t, .fzP us) (by simp)
            obtain ⟨h2, h3⟩ := frzL_ok hh hH M f h1 g1 (fun p hp => hM p (by simp [hp])) hws hqs
            have hip : Rel w (AlX F ηB M) (.ip us) (.pointer (some ⟨b, 0, none⟩)) := by
              simp only [Rel]
              exact ⟨b, 0, qs, rfl, ⟨(Array.getElem?_eq_some_iff.1 hheap).1, alx_of hH hq1 htM (by simp [Ent.ids])⟩, h2, fun j u hj => by rw [Nat.zero_add]; exact cell_of_heap hheap j u hj⟩
            have := tail (ms' := (t, .fzP us) :: ms') g2 (fun p hp => hM p (by simp [hp])) (hip.ipDrop off) (fun p hp => by
              rcases List.mem_cons.1 hp with rfl | hp
              · exact ⟨b, hb, hip⟩
              · exact h3 p hp)
            simpa using this
          · cases h
        · rename_i us hcs
          simp only [Option.some.injEq, Prod.mk.injEq] at h
          obtain ⟨rfl, rfl, rfl⟩ := h
          obtain ⟨q, hq1, hq2⟩ := hh.en t _ hcs
          obtain ⟨b', hb', rfl⟩ := hq2
          rw [hb] at hb'; cases hb'
          have := tail (ms' := []) hn hM (((fact_ok hH hq1).keep (keep_AlX M)).ipDrop off) (by simp)
          simpa using this
        · cases h
      | os t n =>
        simp only [Inst] at hy
        obtain ⟨a, c, t', hb, rfl⟩ := hy
        simp only [Rel] at hv; subst hv
        simp only at h
        split at h
        · rename_i e k rows hcs
          simp only [Option.some.injEq, Prod.mk.injEq] at h
          obtain ⟨rfl, rfl, rfl⟩ := h
          obtain ⟨q, hq1, hq2⟩ := hh.en t _ hcs
          obtain ⟨⟨a', c', hb', rfl⟩, _⟩ := hq2
          have hnl : n = rows.length := hn.1
          subst hnl
          rw [hb] at hb'; cases hb'
          have hsl := row_alx (M := M) hH hq1 (hM (t, .fzS k rows) (by simp))
          have := tail (ms' := [(t, .fzS k rows)]) hn.2 (fun p hp => hM p (by simp [hp])) hsl (fun p hp => by
            simp only [List.mem_singleton] at hp; subst hp; exact ⟨a, c, hb, hsl⟩)
          simpa using this
        · rename_i k rows hcs
          simp only [Option.some.injEq, Prod.mk.injEq] at h
          obtain ⟨rfl, rfl, rfl⟩ := h
          obtain ⟨q, hq1, hq2⟩ := hh.en t _ hcs
          obtain ⟨a', c', hb', rfl⟩ := hq2
          have hnl : n = rows.length := hn.1
          subst hnl
          rw [hb] at hb'; cases hb'
          have := tail (ms' := []) hn.2 hM ((fact_ok hH hq1).keep (keep_AlX M)) (by simp)
          simpa using this
        · cases h
      | fn g fs cs =>
        simp only at h
        split at h
        · rename_i us ns1 ms1 us2 ns2 ms2 h1 h2
          simp only [Option.some.injEq, Prod.mk.injEq] at h
          obtain ⟨rfl, rfl, rfl⟩ := h
          simp only [Inst] at hy
          obtain ⟨ws, ws2, rfl, hy, hy2⟩ := hy
          simp only [Rel] at hv
          obtain ⟨qs, qs2, rfl, hv, hv2⟩ := hv
          obtain ⟨g1, g2⟩ := eqs_append hn
          obtain ⟨g2, g3⟩ := eqs_append g2
          obtain ⟨h3, h4⟩ := frzL_ok hh hH M f h1 g1 (fun p hp => hM p (by simp [hp])) hy hv
          obtain ⟨h5, h6⟩ := frzL_ok hh hH M f h2 g2 (fun p hp => hM p (by simp [hp])) hy2 hv2
          have := tail (ms' := ms1 ++ ms2) g3 (fun p hp => hM p (by simp [hp])) (z := .fn g us us2) (by simp only [Rel]; exact ⟨qs, qs2, rfl, h3, h5⟩) (fun p hp => by
            rcases List.mem_append.1 hp with hp | hp
            · exact h4 p hp
            · exact h6 p hp)
          simpa using this
        · cases h
      | ifc t k =>
        simp only at h
        split at h
        · rename_i u ns' ms' h1
          simp only [Option.some.injEq, Prod.mk.injEq] at h
          obtain ⟨rfl, rfl, rfl⟩ := h
          simp only [Inst] at hy
          obtain ⟨z, rfl, hy⟩ := hy
          simp only [Rel] at hv
          obtain ⟨q, rfl, hv⟩ := hv
          obtain ⟨g1, g2⟩ := eqs_append hn
          obtain ⟨h2, h3⟩ := frzL_ok hh hH M f (ys := [z]) (vs := [q]) h1 g1 (fun p hp => hM p (by simp [hp])) (by simp only [InstL]; exact ⟨_, _, rfl, hy, rfl⟩) (by simp only [RelL]; exact ⟨_, _, rfl, hv, rfl⟩)
          simp only [RelL] at h2
          obtain ⟨q', _, h4, h5, rfl⟩ := h2
          cases h4
          exact tail g2 (fun p hp => hM p (by simp [hp])) (by simp only [Rel]; exact ⟨q, rfl, h5⟩) h3
        · cases h
      | oe t n off => cases h
      | om t => cases h
end
def applyM : List (Nat × CEnt) → Hp → Hp
  | [], η => η
  | (t, e) :: r, η => (applyM r η).set t e
def factOf (ρ : Rho) (t : Nat) : CEnt → Ent
  | .fzP us => .fact (.ip us) (.pointer (some ⟨(ρ.b t).getD 0, 0, none⟩))
  | .fzS k rows => .fact (.sl k rows) (.slice ((ρ.s t rows.length).getD (none, 0)).1 rows.length ((ρ.s t rows.length).getD (none, 0)).2)
  | _ => .gone
def markB (ρ : Rho) : List (Nat × CEnt) → List Ent → List Ent
  | [], l => l
  | (t, e) :: r, l => (markB ρ r l).set t (factOf ρ t e)
theorem factOf_ids {ρ : Rho} {t : Nat} {e : CEnt} : (factOf ρ t e).ids = [] := by cases e <;> rfl
theorem set_ids_sub {x : Ent} (hx : x.ids = []) : ∀ (l : List Ent) (i : Nat), (ids (l.set i x)).Sublist (ids l)
  | [], _ => by simp
  | y :: l, 0 => by simp only [List.set_cons_zero, ids_cons, hx, List.nil_append]; exact List.sublist_append_right _ _
  | y :: l, i + 1 => by simp only [List.set_cons_succ, ids_cons]; exact List.Sublist.append (List.Sublist.refl _) (set_ids_sub hx l i)
theorem markB_ids {ρ : Rho} : ∀ (ms : List (Nat × CEnt)) (l : List Ent), (ids (markB ρ ms l)).Sublist (ids l)
  | [], _ => List.Sublist.refl _
  | (t, e) :: r, l => (set_ids_sub factOf_ids _ _).trans (markB_ids r l)
theorem markB_nth {ρ : Rho} : ∀ (ms : List (Nat × CEnt)) (l : List Ent) (i : Nat) (x : Ent), nth (markB ρ ms l) i = some x → (nth l i = some x ∧ i ∉ ms.map (·.1)) ∨ ∃ e, (i, e) ∈ ms ∧ x = factOf ρ i e
  | [], _, _, _, h => .inl ⟨h, by simp⟩
  | (t, e) :: r, l, i, x, h => by
    simp only [markB] at h
    by_cases hti : t = i
    · subst hti
      rw [nth_eq] at h
      have hlt : t < (markB ρ r l).length := by
        have := (List.getElem?_eq_some_iff.1 h).1
        simpa using this
      rw [List.getElem?_set_self hlt] at h
      cases h
      exact .inr ⟨e, by simp, rfl⟩
    · rw [nth_eq, List.getElem?_set_ne hti, ← nth_eq] at h
      rcases markB_nth r l i x h with ⟨h1, h2⟩ | ⟨e', h1, h2⟩
      · exact .inl ⟨h1, by simp only [List.map_cons, List.mem_cons, not_or]; exact ⟨fun e => hti e.symm, h2⟩⟩
      · exact .inr ⟨e', by simp [h1], h2⟩
section
variable {ρ : Rho} {η : Hp} {ηB : List Ent} {w : World} {F : Nat → Prop} {G : Gl}
theorem AlX_markB {ms : List (Nat × CEnt)} {b : Nat} (h : AlX F ηB (ms.map (·.1)) b) : Al F (markB ρ ms ηB) b := by
  refine ⟨h.1, fun hb => ?_⟩
  obtain ⟨x, hx, hb⟩ := List.mem_flatMap.1 hb
  obtain ⟨i, hi⟩ := List.getElem?_of_mem hx
  rw [← nth_eq] at hi
  rcases markB_nth ms ηB i x hi with ⟨h1, h2⟩ | ⟨e, _, rfl⟩
  · exact h.2 i x h1 h2 hb
  · rw [factOf_ids] at hb; cases hb
theorem keep_markB {ms : List (Nat × CEnt)} : Keeps w (AlX F ηB (ms.map (·.1))) w (Al F (markB ρ ms ηB)) := ⟨Nat.le_refl _, fun _ _ h => ⟨AlX_markB h, rfl⟩⟩
theorem markB_ok (hH : HOk G w F ηB) {ms : List (Nat × CEnt)} (hm : ∀ p ∈ ms, MkOk ρ w (AlX F ηB (ms.map (·.1))) p) : HOk G w F (markB ρ ms ηB) := by
  refine hH.facts (markB_ids ms ηB) fun x hx => ?_
  obtain ⟨i, hi⟩ := List.getElem?_of_mem hx
  rw [← nth_eq] at hi
  rcases markB_nth ms ηB i x hi with ⟨h1, _⟩ | ⟨e, h1, rfl⟩
  · exact .inl (List.mem_of_getElem? (by rw [← nth_eq]; exact h1))
  · right
    have h2 := hm _ h1
    cases e <;> first | exact h2.elim | skip
    · obtain ⟨b, h3, h4⟩ := h2
      exact ⟨_, _, rfl, by simp only [h3, Option.getD_some]; exact h4.keep keep_markB⟩
    · obtain ⟨a, c, h3, h4⟩ := h2
      exact ⟨_, _, rfl, by simp only [h3, Option.getD_some]; exact h4.keep keep_markB⟩
theorem applyM_n : ∀ (ms : List (Nat × CEnt)) (η : Hp), (applyM ms η).n = η.n
  | [], _ => rfl
  | (t, e) :: r, η => by simp [applyM, Hp.set, applyM_n r η]
theorem applyM_hs (hh : HS ρ η ηB) : ∀ {ms : List (Nat × CEnt)}, (∀ p ∈ ms, p.1 < η.n ∧ MkOk ρ w F p) → HS ρ (applyM ms η) (markB ρ ms ηB)
  | [], _ => hh
  | (t, e) :: r, hm => by
    have ih := applyM_hs (ms := r) hh fun p hp => hm p (by simp [hp])
    obtain ⟨h1, h2⟩ := hm (t, e) (by simp)
    refine ih.set (.refl ρ) (fun _ _ => rfl) (fun _ _ => rfl) (by rw [applyM_n]; exact h1) ?_
    cases e <;> first | exact h2.elim | skip
    · obtain ⟨b, h3, _⟩ := h2; exact ⟨b, h3, by simp [factOf, h3]⟩
    · obtain ⟨a, c, h3, _⟩ := h2; exact ⟨a, c, h3, by simp [factOf, h3]⟩
theorem MkOk.lt (hh : HS ρ η ηB) {A : Nat → Prop} {p : Nat × CEnt} (h : MkOk ρ w A p) : p.1 < η.n := by
  obtain ⟨t, e⟩ := p
  cases e <;> first | exact h.elim | skip
  · obtain ⟨b, h1, _⟩ := h
    rcases Nat.lt_or_ge t η.n with h2 | h2
    · exact h2
    · rw [(hh.dom t h2).1] at h1; cases h1
  · obtain ⟨a, c, h1, _⟩ := h
    rcases Nat.lt_or_ge t η.n with h2 | h2
    · exact h2
    · rw [(hh.dom t h2).2] at h1; cases h1
theorem RelL.one {A : Nat → Prop} {x : AV} {v : Value} (h : Rel w A x v) : RelL w A [x] [v] := by simp only [RelL]; exact ⟨_, _, rfl, h, rfl⟩
theorem RelL.ofOne {A : Nat → Prop} {x : AV} {v : Value} (h : RelL w A [x] [v]) : Rel w A x v := by
  simp only [RelL] at h; obtain ⟨v', r, h1, h2, h3⟩ := h; cases h1; exact h2
theorem InstL.one {x : CV} {y : AV} (h : Inst ρ x y) : InstL ρ [x] [y] := by simp only [InstL]; exact ⟨_, _, rfl, h, rfl⟩
end
section
variable {E : Env} {N K : Nat} {Q : DQ} {σ : TS} {η : Hp} {o : Oper} {x : CV} {all rest : List Oper}
theorem DO.frz {t : Nat} {z : AV} {ns : List (Nat × Nat)} {ms : List (Nat × CEnt)} (f : Nat) (hx : σ.get t = some x) (hf : frzL η.e f [x] = some ([z], ns, ms)) (hn : eqs ns) (k : DO E N K all rest Q (Tr.put 24 σ t (some (.d z))) (applyM ms η)) : DO E N K all rest Q σ η := fun ρ σB ηB hs hh => by
  obtain ⟨y, h1, h2⟩ := hs t x hx
  intro F w0 η0 a w hst hxt
  have hv := (hst.sg.2 t y h1).2
  obtain ⟨h3, h4⟩ := frzL_ok hh hst.hp (ms.map (·.1)) f hf hn (fun p hp => List.mem_map.2 ⟨p, hp, rfl⟩) (InstL.one h2) (RelL.one hv)
  have h3 := h3.ofOne
  have hHS : HS ρ (applyM ms η) (markB ρ ms ηB) := applyM_hs (w := w) (F := AlX F ηB (ms.map (·.1))) hh fun p hp => ⟨(h4 p hp).lt hh, h4 p hp⟩
  have hHO : HOk E.G w F (markB ρ ms ηB) := markB_ok hst.hp h4
  have hsub : ∀ b ∈ ids (markB ρ ms ηB), b ∈ ids ηB := fun b hb => (markB_ids ms ηB).subset hb
  have hkeep : Keeps w (Al F ηB) w (Al F (markB ρ ms ηB)) := Keeps.sub hsub
  refine k ρ ((t, z) :: σB) (markB ρ ms ηB) (hs.put (some t) (x := .d z) (y := z) rfl) hHS F w0 η0 a w ⟨⟨hst.sg.1, fun u q hq => ?_⟩, hHO, hst.df⟩ (hxt.trans ⟨rfl, rfl, rfl, Nat.le_refl _, fun _ _ _ => rfl, fun b hb => .inl (hsub b hb)⟩)
  simp only [look] at hq
  cases hb : Nat.beq t u with
  | true =>
    rw [hb] at hq; simp only [Option.some.injEq] at hq; subst hq
    rw [← Nat.eq_of_beq_eq_true hb]
    exact ⟨(hst.sg.2 t y h1).1, h3.keep keep_markB⟩
  | false =>
    rw [hb] at hq
    exact ⟨(hst.sg.2 u q hq).1, (hst.sg.2 u q hq).2.keep hkeep⟩
theorem DC.frz {t : Nat} {z : AV} {ns : List (Nat × Nat)} {ms : List (Nat × CEnt)} (f : Nat) (hx : σ.get t = some x) (hf : frzL η.e f [x] = some ([z], ns, ms)) (hn : eqs ns) {c : Code} (k : DC E N K c Q (Tr.put 24 σ t (some (.d z))) (applyM ms η)) : DC E N K c Q σ η := fun ρ σB ηB hs hh => by
  obtain ⟨y, h1, h2⟩ := hs t x hx
  intro F w0 η0 a w hst hxt
  have hv := (hst.sg.2 t y h1).2
  obtain ⟨h3, h4⟩ := frzL_ok hh hst.hp (ms.map (·.1)) f hf hn (fun p hp => List.mem_map.2 ⟨p, hp, rfl⟩) (InstL.one h2) (RelL.one hv)
  have h3 := h3.ofOne
  have hHS : HS ρ (applyM ms η) (markB ρ ms ηB) := applyM_hs (w := w) (F := AlX F ηB (ms.map (·.1))) hh fun p hp => ⟨(h4 p hp).lt hh, h4 p hp⟩
  have hHO : HOk E.G w F (markB ρ ms ηB) := markB_ok hst.hp h4
  have hsub : ∀ b ∈ ids (markB ρ ms ηB), b ∈ ids ηB := fun b hb => (markB_ids ms ηB).subset hb
  have hkeep : Keeps w (Al F ηB) w (Al F (markB ρ ms ηB)) := Keeps.sub hsub
  refine k ρ ((t, z) :: σB) (markB ρ ms ηB) (hs.put (some t) (x := .d z) (y := z) rfl) hHS F w0 η0 a w ⟨⟨hst.sg.1, fun u q hq => ?_⟩, hHO, hst.df⟩ (hxt.trans ⟨rfl, rfl, rfl, Nat.le_refl _, fun _ _ _ => rfl, fun b hb => .inl (hsub b hb)⟩)
  simp only [look] at hq
  cases hb : Nat.beq t u with
  | true =>
    rw [hb] at hq; simp only [Option.some.injEq] at hq; subst hq
    rw [← Nat.eq_of_beq_eq_true hb]
    exact ⟨(hst.sg.2 t y h1).1, h3.keep keep_markB⟩
  | false =>
    rw [hb] at hq
    exact ⟨(hst.sg.2 u q hq).1, (hst.sg.2 u q hq).2.keep hkeep⟩
def Imp (z y : AV) : Prop := ∀ w A v, Rel w A z v → Rel w A y v
inductive ImpL : List AV → List AV → Prop where
  | nil : ImpL [] []
  | cons {x y : AV} {xs ys : List AV} : Imp x y → ImpL xs ys → ImpL (x :: xs) (y :: ys)
theorem Imp.refl (x : AV) : Imp x x := fun _ _ _ h => h
theorem ImpL.refl : ∀ (xs : List AV), ImpL xs xs
  | [] => .nil
  | x :: xs => .cons (.refl x) (ImpL.refl xs)
theorem ImpL.rel {w : World} {A : Nat → Prop} : ∀ {xs ys : List AV} {vs : List Value}, ImpL xs ys → RelL w A xs vs → RelL w A ys vs
  | _, _, _, .nil, h => h
  | _, _, _, .cons h t, hr => by
    simp only [RelL] at hr ⊢
    obtain ⟨v, r, rfl, h1, h2⟩ := hr
    exact ⟨v, r, rfl, h _ _ _ h1, ImpL.rel t h2⟩
theorem Imp.nil (k : Nat) : Imp (.v (.slice none 0 0)) (.sl k []) := fun w A v h => by
  simp only [Rel] at h ⊢; subst h; exact .inl ⟨trivial, _, _, rfl⟩
theorem Imp.agg {xs ys : List AV} (h : ImpL xs ys) : Imp (.agg xs) (.agg ys) := fun w A v hr => by
  simp only [Rel] at hr ⊢; obtain ⟨vs, rfl, h1⟩ := hr; exact ⟨vs, rfl, h.rel h1⟩
theorem Imp.tup {xs ys : List AV} (h : ImpL xs ys) : Imp (.tup xs) (.tup ys) := fun w A v hr => by
  simp only [Rel] at hr ⊢; obtain ⟨vs, rfl, h1⟩ := hr; exact ⟨vs, rfl, h.rel h1⟩
theorem Imp.ip {xs ys : List AV} (h : ImpL xs ys) : Imp (.ip xs) (.ip ys) := fun w A v hr => by
  simp only [Rel] at hr ⊢; obtain ⟨b, o, vs, e1, e2, e3, e4⟩ := hr; exact ⟨b, o, vs, e1, e2, h.rel e3, e4⟩
theorem Imp.fn {f : FuncId} {fs fs' cs cs' : List AV} (h : ImpL fs fs') (g : ImpL cs cs') : Imp (.fn f fs cs) (.fn f fs' cs') := fun w A v hr => by
  simp only [Rel] at hr ⊢; obtain ⟨us, vs, e, h1, h2⟩ := hr; exact ⟨us, vs, e, h.rel h1, g.rel h2⟩
theorem Imp.ifc {t : TypeId} {x y : AV} (h : Imp x y) : Imp (.ifc t x) (.ifc t y) := fun w A v hr => by
  simp only [Rel] at hr ⊢; obtain ⟨u, e, h1⟩ := hr; exact ⟨u, e, h _ _ _ h1⟩
inductive ImpR : List (List AV) → List (List AV) → Prop where
  | nil : ImpR [] []
  | cons {x y : List AV} {xs ys : List (List AV)} : ImpL x y → ImpR xs ys → ImpR (x :: xs) (y :: ys)
theorem ImpL.length {xs ys : List AV} (h : ImpL xs ys) : ys.length = xs.length := by induction h with | nil => rfl | cons _ _ ih => simp [ih]
theorem ImpR.length {xs ys : List (List AV)} (h : ImpR xs ys) : ys.length = xs.length := by induction h with | nil => rfl | cons _ _ ih => simp [ih]
theorem ImpR.refl : ∀ (xs : List (List AV)), ImpR xs xs
  | [] => .nil
  | x :: xs => .cons (.refl x) (ImpR.refl xs)
theorem ImpR.rel {w : World} {A : Nat → Prop} {k : Nat} : ∀ {xs ys : List (List AV)} {vs : List Value}, ImpR xs ys → RelRows w A k xs vs → RelRows w A k ys vs
  | _, _, _, .nil, h => h
  | _, _, _, .cons h t, hr => by
    simp only [RelRows] at hr ⊢
    obtain ⟨v1, v2, rfl, h0, h1, h2⟩ := hr
    exact ⟨v1, v2, rfl, by rw [h.length]; exact h0, h.rel h1, ImpR.rel t h2⟩
theorem Imp.sl {k : Nat} {xs ys : List (List AV)} (h : ImpR xs ys) : Imp (.sl k xs) (.sl k ys) := fun w A v hr => by
  simp only [Rel] at hr ⊢
  rcases hr with ⟨rfl, h1⟩ | ⟨b, o, cap, vs, e1, e2, e3, e4, e5, e6⟩
  · cases h; exact .inl ⟨rfl, h1⟩
  · exact .inr ⟨b, o, cap, vs, by rw [h.length]; exact e1, e2, by rw [h.length]; exact e3, e4, h.rel e5, e6⟩
theorem ImpR.append {xs ys xs' ys' : List (List AV)} (h : ImpR xs ys) (g : ImpR xs' ys') : ImpR (xs ++ xs') (ys ++ ys') := by
  induction h with
  | nil => exact g
  | cons h _ ih => exact .cons h ih
theorem Imp.trans {x y z : AV} (h : Imp x y) (g : Imp y z) : Imp x z := fun w A v hr => g w A v (h w A v hr)
def refFree : AV → Bool
  | .v _ => true
  | .agg xs => go xs
  | .tup xs => go xs
  | .ifc _ x => refFree x
  | _ => false
where go : List AV → Bool
  | [] => true
  | x :: r => match refFree x with
    | true => go r
    | false => false
mutual
theorem refFree_rel {w : World} {A A' : Nat → Prop} : ∀ {x : AV} {v : Value}, refFree x = true → Rel w A x v → Rel w A' x v
  | .v _, _, _, h => by simp only [Rel] at h ⊢; exact h
  | .agg xs, _, hf, h => by simp only [Rel] at h ⊢; obtain ⟨vs, e, h1⟩ := h; exact ⟨vs, e, refFreeL_rel (by simpa [refFree] using hf) h1⟩
  | .tup xs, _, hf, h => by simp only [Rel] at h ⊢; obtain ⟨vs, e, h1⟩ := h; exact ⟨vs, e, refFreeL_rel (by simpa [refFree] using hf) h1⟩
  | .ifc t x, _, hf, h => by simp only [Rel] at h ⊢; obtain ⟨u, e, h1⟩ := h; exact ⟨u, e, refFree_rel (by simpa [refFree] using hf) h1⟩
  | .sl _ _, _, hf, _ => by simp [refFree] at hf
  | .ip _, _, hf, _ => by simp [refFree] at hf
  | .own _ _ _, _, hf, _ => by simp [refFree] at hf
  | .os _ _ _ _, _, hf, _ => by simp [refFree] at hf
  | .oe _ _ _, _, hf, _ => by simp [refFree] at hf
  | .om _ _, _, hf, _ => by simp [refFree] at hf
  | .fn _ _ _, _, hf, _ => by simp [refFree] at hf
theorem refFreeL_rel {w : World} {A A' : Nat → Prop} : ∀ {xs : List AV} {vs : List Value}, refFree.go xs = true → RelL w A xs vs → RelL w A' xs vs
  | [], _, _, h => by simp only [RelL] at h ⊢; exact h
  | x :: r, _, hf, h => by
    simp only [refFree.go] at hf
    split at hf
    · rename_i hx
      simp only [RelL] at h ⊢; obtain ⟨v, r', e, h1, h2⟩ := h; exact ⟨v, r', e, refFree_rel hx h1, refFreeL_rel hf h2⟩
    · cases hf
end
def calleeC (σ : TS) (f : Operand) (args : List Operand) : Option (FuncId × List CV) :=
  match cev σ f, cevs σ args with
  | some (.d (.v (.func (.func g) fa cs))), some xs => some (g, (fa.toList.map .v).map .d ++ xs ++ (cs.toList.map .v).map .d)
  | some (.d (.fn g fs cs)), some xs => some (g, fs.map .d ++ xs ++ cs.map .d)
  | some (.fn g fs cs), some xs => some (g, fs ++ xs ++ cs)
  | _, _ => none
theorem calleeC_inst {ρ : Rho} {s : Sl} (hs : SS ρ σ s) {f : Operand} {args : List Operand} {g : FuncId} {cs : List CV} (h : calleeC σ f args = some (g, cs)) : ∃ ys, callee s f args = some (g, ys) ∧ InstL ρ cs ys := by
  unfold calleeC at h
  split at h
  · rename_i g' fa qs xs h1 h2
    simp only [Option.some.injEq, Prod.mk.injEq] at h
    obtain ⟨rfl, rfl⟩ := h
    obtain ⟨y, h3, h4⟩ := cev_inst hs h1
    simp only [Inst] at h4; subst h4
    obtain ⟨ys, h5, h6⟩ := cevs_inst hs h2
    exact ⟨_, by simp only [callee, h3, h5], ((instL_d _).append h6).append (instL_d _)⟩
  · rename_i g' fs qs xs h1 h2
    simp only [Option.some.injEq, Prod.mk.injEq] at h
    obtain ⟨rfl, rfl⟩ := h
    obtain ⟨y, h3, h4⟩ := cev_inst hs h1
    simp only [Inst] at h4; subst h4
    obtain ⟨ys, h5, h6⟩ := cevs_inst hs h2
    exact ⟨_, by simp only [callee, h3, h5], ((instL_d _).append h6).append (instL_d _)⟩
  · rename_i g' fs qs xs h1 h2
    simp only [Option.some.injEq, Prod.mk.injEq] at h
    obtain ⟨rfl, rfl⟩ := h
    obtain ⟨y, h3, h4⟩ := cev_inst hs h1
    simp only [Inst] at h4
    obtain ⟨us, vs, rfl, h4, h4'⟩ := h4
    obtain ⟨ys, h5, h6⟩ := cevs_inst hs h2
    exact ⟨_, by simp only [callee, h3, h5], (h4.append h6).append h4'⟩
  · cases h
theorem pure_conv {ρ : Rho} {ηB : List Ent} {w : World} {F : Nat → Prop} {g : FuncId} {cs : List CV} {ys xs' xs : List AV} {vs : List Value} {ns : List (Nat × Nat)} {ms : List (Nat × CEnt)} {res : AR} (fl : Nat) (h : Pure E.toCx g xs res)
    (hf : frzL η.e fl cs = some (xs', ns, ms)) (hn : eqs ns) (hi : ImpL xs' xs) (hl : ms = [] ∨ (match res with | .ret x => refFree x | .pan x => refFree x) = true) (hh : HS ρ η ηB) (hH : HOk E.G w F ηB) (hcs : InstL ρ cs ys) (hr : RelL w (Al F ηB) ys vs) :
    Calls E.P g vs.toArray w fun e w' => AR.rel w' (Al F ηB) res e ∧ Cls w w' := by
  obtain ⟨h3, h4⟩ := frzL_ok hh hH (ms.map (·.1)) fl hf hn (fun p hp => List.mem_map.2 ⟨p, hp, rfl⟩) hcs hr
  have hHO : HOk E.G w F (markB ρ ms ηB) := markB_ok hH h4
  have hx := hi.rel h3
  have hx' : RelL w (Al F (markB ρ ms ηB)) xs vs := hx.keep keep_markB
  refine (h.run hHO hx').mono ?_
  rintro e w' ⟨hv, _, hext, hsame⟩
  refine ⟨?_, hext.os, hext.tape, hext.output, hext.size, hsame⟩
  rcases hl with rfl | hl
  · exact hv
  · cases res with
    | ret x => obtain ⟨v, rfl, hv⟩ := hv; exact ⟨v, rfl, refFree_rel hl hv⟩
    | pan x => obtain ⟨v, rfl, hv⟩ := hv; exact ⟨v, rfl, refFree_rel hl hv⟩
theorem DOpP.pure {f : Operand} {args : List Operand} {g : FuncId} {cs : List CV} {xs' xs : List AV} {ns : List (Nat × Nat)} {ms : List (Nat × CEnt)} {res : AV} {tys : Array TypeId} (fl : Nat) (ho : o.op = .call { callee := .value f, args := args.toArray, argTypes := tys })
    (h : Pure E.toCx g xs (.ret res)) (hc : calleeC σ f args = some (g, cs)) (hf : frzL η.e fl cs = some (xs', ns, ms)) (hn : eqs ns) (hi : ImpL xs' xs) (hl : ms = [] ∨ refFree res = true) : DOpP E N o σ η (.d res) := fun ρ s ηB hs hh => by
  obtain ⟨ys, hcal, hcs⟩ := calleeC_inst hs hc
  refine ⟨res, rfl, fun F w a hN _ hH hopd K' Q' k => ?_⟩
  have hmem : ∀ p, p = f ∨ p ∈ args → p ∈ o.op.operands.toList := by
    rintro p hp
    rw [ho]
    rcases hp with rfl | hp
    · simp [Op.operands, Call.operands]
    · simp [Op.operands, Call.operands, hp]
  have hc' : callee (look (restr s (tmpsOf o))) f args = some (g, ys) := by
    unfold callee at hcal ⊢
    rw [ev_restr (hmem f (.inl rfl)), evs_congr fun p hp => ev_restr (hmem p (.inr hp))]
    exact hcal
  have hsl : SlOk w (Al F ηB) N a (look (restr s (tmpsOf o))) := ⟨hN, fun t y hy => by obtain ⟨h1, h2⟩ := look_restr hy; exact hopd t h1 y h2⟩
  obtain ⟨vs, h1, h2⟩ := callee_run (P := E.P) hsl hc' (tys := tys) (dst := o.dst) (ty := o.type) (pos := o.pos) (after := o.after) (gd := o.guard) h.1
  have ho' : o = ⟨o.dst, .call { callee := .value f, args := args.toArray, argTypes := tys }, o.type, o.pos, o.after, o.guard⟩ := by rw [← ho]
  rw [← ho'] at h2
  unfold Oper.wp
  rw [h2 w, Oper.upon_enter]
  refine (pure_conv fl h hf hn hi hl hh hH hcs h1).mono ?_
  rintro e w' ⟨⟨v, rfl, hv⟩, hcls⟩
  exact k v w' hv hcls
theorem DO.pure {dst : Option Nat} {f : Operand} {args : List Operand} {g : FuncId} {cs : List CV} {xs' xs : List AV} {ns : List (Nat × Nat)} {ms : List (Nat × CEnt)} {res : AV} {tys : Array TypeId} {ty : TypeId} {pos : String} {after : Array Edge} (fl : Nat)
    (h : Pure E.toCx g xs (.ret res)) (hc : calleeC σ f args = some (g, cs)) (hf : frzL η.e fl cs = some (xs', ns, ms)) (hn : eqs ns) (hi : ImpL xs' xs) (hl : ms = [] ∨ refFree res = true) (hd : dstB N dst = true)
    (k : DO E N K all rest Q (putT σ dst (.d res)) η) : DO E N K all (⟨dst, .call { callee := .value f, args := args.toArray, argTypes := tys }, ty, pos, after, none⟩ :: rest) Q σ η :=
  DO.ofP rfl hd (DOpP.pure fl rfl h hc hf hn hi hl) k
inductive DR where
  | ret (x : CV)
  | pan (x : CV)
def DR.inst (ρ : Rho) : DR → AR → Prop
  | .ret x, r => ∃ y, r = .ret y ∧ Inst ρ x y
  | .pan x, r => ∃ y, r = .pan y ∧ Inst ρ x y
def liftR (K : Nat) (ρ : Rho) (Q : DR → Hp → Prop) : AR → List Ent → Prop := fun r ηB => ∃ ρ' d η, Rho.leK K ρ ρ' ∧ DR.inst ρ' d r ∧ HS ρ' η ηB ∧ Q d η
def DCall (E : Env) (g : FuncId) (args : List CV) (η : Hp) (Q : DR → Hp → Prop) : Prop := ∀ ρ ys ηB, InstL ρ args ys → HS ρ η ηB → ACall E.toCx g ys ηB (liftR η.n ρ Q)
theorem HS.leK {ρ ρ' : Rho} {ηB : List Ent} (hh : HS ρ η ηB) (h : Rho.leK η.n ρ ρ') : ρ.le ρ' := by
  refine ⟨fun t x hx => ?_, fun t n x hx => ?_⟩
  · rcases Nat.lt_or_ge t η.n with h1 | h1
    · exact (h t h1).1 x hx
    · rw [(hh.dom t h1).1] at hx; cases hx
  · rcases Nat.lt_or_ge t η.n with h1 | h1
    · exact (h t h1).2 n x hx
    · rw [(hh.dom t h1).2] at hx; cases hx
theorem DO.call {dst : Option Nat} {f : Operand} {args : List Operand} {g : FuncId} {cs : List CV} {Q' : DR → Hp → Prop} {tys : Array TypeId} {ty : TypeId} {pos : String} {after : Array Edge}
    (h : DCall E g cs η Q') (hc : calleeC σ f args = some (g, cs)) (hd : dstB N dst = true) (k1 : ∀ x η', Q' (.ret x) η' → DO E N K all rest Q (putT σ dst x) η') (k2 : ∀ x η', Q' (.pan x) η' → Q (.pan x) .lf η') :
    DO E N K all (⟨dst, .call { callee := .value f, args := args.toArray, argTypes := tys }, ty, pos, after, none⟩ :: rest) Q σ η := fun ρ σB ηB hs hh => by
  obtain ⟨ys, h1, h2⟩ := calleeC_inst hs hc
  refine AOps.acall (h ρ ys ηB h2 hh) h1 hd ?_ ?_
  · rintro y ηB' ⟨ρ', r, η', h3, h4, h5, h6⟩
    have hl := hh.leK h3
    cases r with
    | ret x =>
      obtain ⟨y', e, h4⟩ := h4
      cases e
      exact DO.up hl (k1 x η' h6 ρ' _ ηB' ((hs.mono hl).put dst h4) h5)
    | pan x => obtain ⟨y', e, _⟩ := h4; cases e
  · rintro y ηB' ⟨ρ', r, η', h3, h4, h5, h6⟩
    have hl := hh.leK h3
    cases r with
    | ret x => obtain ⟨y', e, _⟩ := h4; cases e
    | pan x =>
      obtain ⟨y', e, h4⟩ := h4
      cases e
      exact ⟨ρ', .pan x, .lf, η', hl.toK K, ⟨y, rfl, h4⟩, fun t x hx => by simp [Tr.get_lf] at hx, h5, k2 x η' h6⟩
def ofArgs : Nat → List CV → TS
  | _, [] => .lf
  | n, x :: xs => Tr.put 24 (ofArgs (n + 1) xs) n (some x)
theorem ofArgs_ss {ρ : Rho} : ∀ {xs : List CV} {ys : List AV} (n : Nat), InstL ρ xs ys → SS ρ (ofArgs n xs) (look (sig0 n ys))
  | [], ys, n, _ => fun t x hx => by simp [ofArgs, Tr.get_lf] at hx
  | x :: xs, ys, n, h => by
    simp only [InstL] at h
    obtain ⟨y, r, rfl, h1, h2⟩ := h
    have := ofArgs_ss (n + 1) h2
    exact this.put (some n) h1
def resD1 (T : Tab) (σ : TS) (η : Hp) : ResultVar → Option CV
  | .tmp t => σ.get t
  | .cell a t => match σ.get a, tget T t with
    | some (.own i 0), some ⟨d, k, _, _⟩ => match η.e.get i with
      | some (.box cs) => match d.agg with
        | true => match Nat.ble k cs.length with
          | true => some (mkAgg (cs.take k))
          | false => none
        | false => nth cs 0
      | _ => none
    | some (.d (.ip cs)), some ⟨d, k, _, _⟩ => match d.agg, fits cs k with
      | true, true => some (.d (.agg (cs.take k)))
      | _, _ => none
    | _, _ => none
def resD (T : Tab) (σ : TS) (η : Hp) : List ResultVar → Option (List CV)
  | [] => some []
  | r :: rs => match resD1 T σ η r, resD T σ η rs with
    | some x, some xs => some (x :: xs)
    | _, _ => none
def packC : List CV → CV
  | [x] => x
  | xs => mkTup xs
theorem resD1_ok {ρ : Rho} {σB : Sg} {ηB : List Ent} {T : Tab} (hs : SS ρ σ (look σB)) (hh : HS ρ η ηB) {r : ResultVar} (h : resD1 T σ η r = some x) : ∃ y, ResOk T σB ηB r y ∧ Inst ρ x y := by
  cases r with
  | tmp t => obtain ⟨y, h1, h2⟩ := hs t x h; exact ⟨y, .tmp h1, h2⟩
  | cell a t =>
    simp only [resD1] at h
    split at h
    · rename_i i d k b z ha ht
      split at h
      · rename_i cs hcs
        obtain ⟨y, h1, h2⟩ := hs a _ ha
        simp only [Inst] at h2
        obtain ⟨bk, t', h2, rfl⟩ := h2
        obtain ⟨q, h3, h4⟩ := hh.en i _ hcs
        obtain ⟨bk', us, h5, rfl, h6⟩ := h4
        rw [h2] at h5; cases h5
        split at h
        · rename_i hd
          split at h
          · rename_i hle
            simp only [Option.some.injEq] at h; subst h
            exact ⟨_, .cellB h1 h3 ht hd (fits_of_le (by rw [h6.length]; exact Nat.le_of_ble_eq_true hle)), mkAgg_inst (h6.take k)⟩
          · cases h
        · rename_i hd
          obtain ⟨y, h7, h8⟩ := h6.nth h
          cases us with
          | nil => simp [nth] at h7
          | cons u us =>
            simp only [nth, Option.some.injEq] at h7; subst h7
            exact ⟨_, .cellB1 h1 h3 ht hd, h8⟩
      · cases h
    · rename_i cs d k b z ha ht
      split at h
      · rename_i hd hf
        simp only [Option.some.injEq] at h; subst h
        obtain ⟨y, h1, h2⟩ := hs a _ ha
        simp only [Inst] at h2; subst h2
        exact ⟨_, .cellI h1 ht hd hf, rfl⟩
      · cases h
    · cases h
theorem resD_ok {ρ : Rho} {σB : Sg} {ηB : List Ent} {T : Tab} (hs : SS ρ σ (look σB)) (hh : HS ρ η ηB) : ∀ {rs : List ResultVar} {xs : List CV}, resD T σ η rs = some xs → ∃ ys, ResL T σB ηB rs ys ∧ InstL ρ xs ys
  | [], xs, h => by simp only [resD, Option.some.injEq] at h; subst h; exact ⟨[], .nil, by simp [InstL]⟩
  | r :: rs, xs, h => by
    simp only [resD] at h
    split at h
    · rename_i x xs' h1 h2
      simp only [Option.some.injEq] at h; subst h
      obtain ⟨y, h3, h4⟩ := resD1_ok hs hh h1
      obtain ⟨ys, h5, h6⟩ := resD_ok hs hh h2
      exact ⟨y :: ys, .cons h3 h5, by simp only [InstL]; exact ⟨_, _, rfl, h4, h6⟩⟩
    · cases h
theorem packC_inst {ρ : Rho} {xs : List CV} {ys : List AV} (h : InstL ρ xs ys) : Inst ρ (packC xs) (packA ys) := by
  match xs, ys, h with
  | [], ys, h => exact mkTup_inst (xs := []) h |> fun z => by simp only [InstL] at h; subst h; exact z
  | [x], ys, h => simp only [InstL] at h; obtain ⟨y, r, rfl, h1, rfl⟩ := h; exact h1
  | x :: x' :: r, ys, h =>
    have h0 := h
    simp only [InstL] at h0
    obtain ⟨y, r, rfl, h1, y', r', rfl, h2, h3⟩ := h0
    exact mkTup_inst h
def RD (T : Tab) (rs : List ResultVar) (Q : DR → Hp → Prop) : DQ := fun e σ η => match e with
  | .norm => ∃ xs, resD T σ η rs = some xs ∧ Q (.ret (packC xs)) η
  | .ret => ∃ xs, resD T σ η rs = some xs ∧ Q (.ret (packC xs)) η
  | .exit _ => False
  | .pan x => Q (.pan x) η
theorem DCall.enter {f : FuncId} {fn : Func} {c : Code} {args : List CV} {Q : DR → Hp → Prop} (hf : E.P.funcs[f]? = some fn) (hb : fn.body = some c) (hname : (fn.name == "runtime.NumGoroutine") = false)
    (rs : List ResultVar) (hrs : fn.results = rs.toArray) (nt : Nat) (hnt : fn.ntmps = nt) (hn : Nat.ble args.length nt = true) (h : DC E nt η.n c (RD E.T rs Q) (ofArgs 0 args) η) : DCall E f args η Q := fun ρ ys ηB hi hh => by
  refine ACall.enter (E := E) hf hb hname rs hrs nt hnt (by rw [hi.length]; exact hn) (AWP.mono (h ρ (sig0 0 ys) ηB (ofArgs_ss 0 hi) hh) ?_)
  rintro e σB' ηB' ⟨ρ', d, σ', η', h1, h2, h3, h4, h5⟩
  have main : (∃ xs, resD E.T σ' η' rs = some xs ∧ Q (.ret (packC xs)) η') → RQ E.T rs (liftR η.n ρ Q) σB' ηB' := by
    rintro ⟨xs, h6, h7⟩
    obtain ⟨zs, h8, h9⟩ := resD_ok h3 h4 h6
    exact ⟨zs, h8, ρ', .ret (packC xs), η', h1, ⟨_, rfl, packC_inst h9⟩, h4, h7⟩
  cases d with
  | norm => simp only [DE.inst] at h2; subst h2; exact main h5
  | ret => simp only [DE.inst] at h2; subst h2; exact main h5
  | exit i => exact h5.elim
  | pan x => obtain ⟨y, rfl, h2⟩ := h2; exact ⟨ρ', .pan x, η', h1, ⟨y, rfl, h2⟩, h4, h5⟩
theorem DCall.mono {f : FuncId} {args : List CV} {Q Q' : DR → Hp → Prop} (h : DCall E f args η Q) (hq : ∀ r η', Q r η' → Q' r η') : DCall E f args η Q' := fun ρ ys ηB hi hh =>
  (h ρ ys ηB hi hh).mono fun _ _ ⟨ρ', d, η', h1, h2, h3, h4⟩ => ⟨ρ', d, η', h1, h2, h3, hq _ _ h4⟩
def Hp.nil : Hp := ⟨.lf, 0⟩
theorem HS.nil (ρ : Rho) (h : ∀ t, ρ.b t = none ∧ ∀ n, ρ.s t n = none) : HS ρ Hp.nil [] := ⟨fun i x hx => by simp [Hp.nil, Tr.get_lf] at hx, rfl, fun t _ => h t⟩
def Ends (f : Nat) (res : AR) : DR → Hp → Prop
  | .ret x, η => ∃ z ns ms, frzL η.e f [x] = some ([z], ns, ms) ∧ eqs ns ∧ ∃ y, res = .ret y ∧ Imp z y
  | .pan x, η => ∃ z ns ms, frzL η.e f [x] = some ([z], ns, ms) ∧ eqs ns ∧ ∃ y, res = .pan y ∧ Imp z y
theorem Pure.ofD {g : FuncId} {args : List AV} {res : AR} (f : Nat) (h : DCall E g (args.map .d) Hp.nil (Ends f res)) : Pure E.toCx g args res := by
  have h0 := h ⟨fun _ => none, fun _ _ => none⟩ args [] (instL_d args) (HS.nil _ fun _ => ⟨rfl, fun _ => rfl⟩)
  refine ⟨h0.1, fun F w vs hH hr => (h0.2 F w vs hH hr).mono ?_⟩
  rintro e w' ⟨r, ηB, ⟨ρ', d, η, h1, h2, h3, h4⟩, hv, hh, hx⟩
  have hA : ∀ b, AlX F ηB (List.range ηB.length) b → Al F [] b := fun b hb => ⟨hb.1, by simp [ids]⟩
  have hk : ∀ M : List Nat, Keeps w' (AlX F ηB M) w' (Al F []) := fun M => ⟨Nat.le_refl _, fun b _ hb => ⟨⟨hb.1, by simp [ids]⟩, rfl⟩⟩
  have fin : ∀ {x : CV} {y : AV} {v : Value}, (∃ z ns ms, frzL η.e f [x] = some ([z], ns, ms) ∧ eqs ns ∧ Imp z y) → (∃ u, Inst ρ' x u ∧ Rel w' (Al F ηB) u v) → Rel w' (Al F []) y v := by
    rintro x y v ⟨z, ns, ms, g1, g2, g3⟩ ⟨u, g4, g5⟩
    obtain ⟨g6, _⟩ := frzL_ok h3 hh (ms.map (·.1)) f g1 g2 (fun p hp => List.mem_map.2 ⟨p, hp, rfl⟩) (InstL.one g4) (RelL.one g5)
    exact g3 _ _ _ (g6.ofOne.keep (hk _))
  have hres : AR.rel w' (Al F []) res e := by
    cases d with
    | ret x =>
      obtain ⟨u, rfl, h5⟩ := h2
      obtain ⟨z, ns, ms, g1, g2, y, rfl, g3⟩ := h4
      obtain ⟨v, rfl, hv⟩ := hv
      exact ⟨v, rfl, fin ⟨z, ns, ms, g1, g2, g3⟩ ⟨u, h5, hv⟩⟩
    | pan x =>
      obtain ⟨u, rfl, h5⟩ := h2
      obtain ⟨z, ns, ms, g1, g2, y, rfl, g3⟩ := h4
      obtain ⟨v, rfl, hv⟩ := hv
      exact ⟨v, rfl, fin ⟨z, ns, ms, g1, g2, g3⟩ ⟨u, h5, hv⟩⟩
  exact ⟨res, [], ⟨rfl, rfl⟩, hres, hh.none, ⟨hx.os, hx.tape, hx.output, hx.size, hx.block, by simp [ids]⟩⟩
end
def nopC (P : Program) (σ : TS) (η : Hp) : Op → Option (CV × List (Nat × Nat))
  | .binOp .eql t x y _ => match P.underlying t, cev σ x, cev σ y with
    | some (.slice _), some (.os i (n + 1)), some (.d (.v (.slice none 0 0))) => match η.e.get i with
      | some (.row _ _ rows) => some (.d (.v (.bool false)), [(n + 1, rows.length)])
      | some (.fzS _ rows) => some (.d (.v (.bool false)), [(n + 1, rows.length)])
      | _ => none
    | _, _, _ => none
  | .binOp .neq t x y _ => match P.underlying t, cev σ x, cev σ y with
    | some (.slice _), some (.os i (n + 1)), some (.d (.v (.slice none 0 0))) => match η.e.get i with
      | some (.row _ _ rows) => some (.d (.v (.bool true)), [(n + 1, rows.length)])
      | some (.fzS _ rows) => some (.d (.v (.bool true)), [(n + 1, rows.length)])
      | _ => none
    | _, _, _ => none
  | _ => none
section
variable {E : Env} {N : Nat} {σ : TS} {η : Hp} {o : Oper}
theorem os_some {ρ : Rho} {s : Sl} {ηB : List Ent} (hs : SS ρ σ s) (hh : HS ρ η ηB) {x : Operand} {i n : Nat} (hx : cev σ x = some (.os i (n + 1))) {rows : List (List AV)} (hn : n + 1 = rows.length) (hi : (∃ e k, η.e.get i = some (.row e k rows)) ∨ ∃ k, η.e.get i = some (.fzS k rows)) :
    ∃ t' a c, ev s x = some (.os t' a (n + 1) c) ∧ ∀ {G : Gl} {w : World} {F : Nat → Prop}, HOk G w F ηB → a.isNone = false := by
  obtain ⟨y, h1, h2⟩ := cev_inst hs hx
  simp only [Inst] at h2
  obtain ⟨a, c, t', h3, rfl⟩ := h2
  refine ⟨t', a, c, h1, fun hH => ?_⟩
  rcases hi with ⟨e, k, hi⟩ | ⟨k, hi⟩
  · obtain ⟨q, h4, h5⟩ := hh.en i _ hi
    obtain ⟨⟨a', c', h6, rfl⟩, _⟩ := h5
    rw [← hn, h3] at h6; cases h6
    obtain ⟨vs, _, h7⟩ := ents_nth hH h4
    obtain ⟨_, h8 | ⟨g, cap, cur, h9, _⟩⟩ := h7
    · omega
    · cases h9; rfl
  · obtain ⟨q, h4, h5⟩ := hh.en i _ hi
    obtain ⟨a', c', h6, rfl⟩ := h5
    rw [← hn, h3] at h6; cases h6
    have := fact_ok hH h4
    simp only [Rel] at this
    rcases this with ⟨rfl, _⟩ | ⟨b, o, cap, vs, h1, _⟩
    · simp at hn
    · cases h1; rfl
theorem opS_nilOs {s : Sl} {ηB : List Ent} {t e : TypeId} {x y : Operand} {yt : TypeId} {t' : Nat} {a : Option Addr} {n c : Nat} (neg : Bool) (ho : o.op = .binOp (if neg then .neq else .eql) t x y yt) (hu : E.P.underlying t = some (.slice e)) (hx : ev s x = some (.os t' a n c)) (hy : ev s y = some (.v (.slice none 0 0)))
    (ha : ∀ {G : Gl} {w : World} {F : Nat → Prop}, HOk G w F ηB → a.isNone = false) : OpP E.toCx N o s ηB (.v (.bool neg)) := by
  refine OpP.ofS fun F act w hst => ?_
  have h1 := ev_rel hst.sg (show ev (look (restr s (tmpsOf o))) x = some (.os t' a n c) by rw [ev_restr (by rw [ho]; cases neg <;> simp [Op.operands])]; exact hx)
  have h2 := ev_rel hst.sg (show ev (look (restr s (tmpsOf o))) y = some (.v (.slice none 0 0)) by rw [ev_restr (by rw [ho]; cases neg <;> simp [Op.operands])]; exact hy)
  simp only [Rel] at h1 h2
  have h0 := ha hst.hp
  refine ⟨_, rel_v _, fun w' _ => ?_⟩
  have h3 : binOp .eql t (.slice a n c) (.slice none 0 0) = (do pure (.bool (← Op.equal t (.slice a n c) (.slice none 0 0))) : Sem Value) := rfl
  have h4 : binOp .neq t (.slice a n c) (.slice none 0 0) = (do pure (.bool (!(← Op.equal t (.slice a n c) (.slice none 0 0)))) : Sem Value) := rfl
  cases neg
  · simp [execOp, ho, h1, h2, eqGuard, h3, nilSl_eql hu, h0]
  · simp [execOp, ho, h1, h2, eqGuard, h4, nilSl_eql hu, h0]
theorem DOpP.nopC {x : CV} {ns : List (Nat × Nat)} (h : nopC E.P σ η o.op = some (x, ns)) (hn : eqs ns) : DOpP E N o σ η x := fun ρ s ηB hs hh => by
  unfold Bw.nopC at h
  split at h
  · rename_i t x y yt ho
    split at h
    · rename_i e i n hu hx hy
      have hyy : ev s y = some (.v (.slice none 0 0)) := by
        obtain ⟨z, g1, g2⟩ := cev_inst hs hy
        simp only [Inst] at g2; subst g2; exact g1
      split at h
      · rename_i e' k rows hi
        simp only [Option.some.injEq, Prod.mk.injEq] at h; obtain ⟨rfl, rfl⟩ := h
        obtain ⟨t', a, c, h1, h2⟩ := os_some hs hh hx hn.1 (.inl ⟨_, _, hi⟩)
        exact ⟨_, rfl, opS_nilOs false (by simpa using ho) hu h1 hyy h2⟩
      · rename_i k rows hi
        simp only [Option.some.injEq, Prod.mk.injEq] at h; obtain ⟨rfl, rfl⟩ := h
        obtain ⟨t', a, c, h1, h2⟩ := os_some hs hh hx hn.1 (.inr ⟨_, hi⟩)
        exact ⟨_, rfl, opS_nilOs false (by simpa using ho) hu h1 hyy h2⟩
      · cases h
    · cases h
  · rename_i t x y yt ho
    split at h
    · rename_i e i n hu hx hy
      have hyy : ev s y = some (.v (.slice none 0 0)) := by
        obtain ⟨z, g1, g2⟩ := cev_inst hs hy
        simp only [Inst] at g2; subst g2; exact g1
      split at h
      · rename_i e' k rows hi
        simp only [Option.some.injEq, Prod.mk.injEq] at h; obtain ⟨rfl, rfl⟩ := h
        obtain ⟨t', a, c, h1, h2⟩ := os_some hs hh hx hn.1 (.inl ⟨_, _, hi⟩)
        exact ⟨_, rfl, opS_nilOs true (by simpa using ho) hu h1 hyy h2⟩
      · rename_i k rows hi
        simp only [Option.some.injEq, Prod.mk.injEq] at h; obtain ⟨rfl, rfl⟩ := h
        obtain ⟨t', a, c, h1, h2⟩ := os_some hs hh hx hn.1 (.inr ⟨_, hi⟩)
        exact ⟨_, rfl, opS_nilOs true (by simpa using ho) hu h1 hyy h2⟩
      · cases h
    · cases h
  · cases h
end
end Go.Bw
