/-
  Own work. What the orders of a tail say of worlds; the rule for regions whose order is open.
-/
import Derived.Test.YtcngmkedekmkhaaGreatB13
noncomputable section
namespace Go.Bw
open Go
def AlOk (C : Cx) (N : Nat) (ops : Array Oper) (p : Nat × (Nat × List AV)) : Prop := ∃ o, ops[p.1]? = some o ∧ o.guard = none ∧ o.dst = some p.2.1 ∧ p.2.1 < N ∧ (∀ e ∈ o.after, Region.binds .any e = false) ∧ ∀ s η, OpN C N o s η p.2.2
def entsOf (st : Nat → Option Nat) : Als → List Ent
  | [] => []
  | p :: A => (match st p.1 with
    | some b => [.box b p.2.2]
    | none => []) ++ entsOf st A
def cnt (st : Nat → Option Nat) : Als → Nat
  | [] => 0
  | p :: A => (match st p.1 with
    | some _ => 0
    | none => 1) + cnt st A
def setSt (st : Nat → Option Nat) (i b : Nat) : Nat → Option Nat := fun k => if k = i then some b else st k
def zsOf (st : Nat → Option Nat) (A : Als) : List ((Nat × List AV) × Nat) := A.map fun p => (p.2, (st p.1).getD 0)
section
variable {C : Cx} {N : Nat} {ops : Array Oper} {st : Nat → Option Nat}
theorem entsOf_split (j : Nat) : ∀ A : Als, (entsOf st A).Perm (entsOf st (mOf ops j A) ++ entsOf st (mNot ops j A))
  | [] => List.Perm.refl _
  | p :: A => by
    have ih := entsOf_split j A
    simp only [mOf, mNot, List.filter_cons] at ih ⊢
    cases hb : behind1 ops p.1 j with
    | true =>
      simp only [Bool.not_true, if_true, entsOf, Bool.false_eq_true, if_false, List.append_assoc]
      exact ih.append_left _
    | false =>
      simp only [Bool.not_false, if_true, entsOf, Bool.false_eq_true, if_false]
      refine (ih.append_left _).trans ?_
      rw [← List.append_assoc, ← List.append_assoc]
      exact List.perm_append_comm.append_right _
theorem cnt_split (j : Nat) : ∀ A : Als, cnt st A = cnt st (mOf ops j A) + cnt st (mNot ops j A)
  | [] => rfl
  | p :: A => by
    have ih := cnt_split j A
    simp only [mOf, mNot, List.filter_cons] at ih ⊢
    cases hb : behind1 ops p.1 j with
    | true => simp only [Bool.not_true, if_true, cnt, Bool.false_eq_true, if_false]; omega
    | false => simp only [Bool.not_false, if_true, cnt, Bool.false_eq_true, if_false]; omega
theorem cnt_zero : ∀ {A : Als}, (∀ p ∈ A, st p.1 ≠ none) → cnt st A = 0
  | [], _ => rfl
  | p :: A, h => by
    simp only [cnt]
    rw [cnt_zero (A := A) fun q hq => h q (by simp [hq])]
    have := h p (by simp)
    cases hs : st p.1 with
    | none => exact absurd hs this
    | some b => rfl
theorem cnt_pos : ∀ {A : Als} {p : Nat × (Nat × List AV)}, p ∈ A → st p.1 = none → 0 < cnt st A
  | q :: A, p, hp, hs => by
    simp only [cnt]
    rcases List.mem_cons.1 hp with rfl | hp
    · rw [hs]; simp only; omega
    · have := cnt_pos hp hs; omega
theorem ents_all : ∀ {A : Als}, (∀ p ∈ A, st p.1 ≠ none) → nuEnts (zsOf st A) = entsOf st A
  | [], _ => rfl
  | p :: A, h => by
    have ih := ents_all (A := A) fun q hq => h q (by simp [hq])
    have := h p (by simp)
    cases hs : st p.1 with
    | none => exact absurd hs this
    | some b =>
      simp only [nuEnts, zsOf] at ih
      simp only [entsOf, hs, nuEnts, zsOf, List.map_cons, Option.getD_some, List.singleton_append, ih]
theorem zsOf_fst (A : Als) : (zsOf st A).map (·.1) = nus A := by simp [zsOf, nus]
theorem set_other {i b : Nat} : ∀ {A : Als}, (∀ p ∈ A, p.1 ≠ i) → entsOf (setSt st i b) A = entsOf st A ∧ cnt (setSt st i b) A = cnt st A
  | [], _ => ⟨rfl, rfl⟩
  | p :: A, h => by
    obtain ⟨h1, h2⟩ := set_other (b := b) (A := A) fun q hq => h q (by simp [hq])
    have hne := h p (by simp)
    simp only [entsOf, cnt, h1, h2, setSt, hne, if_false, and_self]
theorem ents_set {b : Nat} : ∀ {A : Als} {p : Nat × (Nat × List AV)}, p ∈ A → (A.map (·.1)).Nodup → st p.1 = none → (entsOf (setSt st p.1 b) A).Perm (entsOf st A ++ [.box b p.2.2]) ∧ cnt (setSt st p.1 b) A + 1 = cnt st A
  | q :: A, p, hp, hnd, hs => by
    simp only [List.map_cons, List.nodup_cons, List.mem_map, not_exists, not_and] at hnd
    rcases List.mem_cons.1 hp with rfl | hp
    · obtain ⟨h1, h2⟩ := set_other (st := st) (b := b) (A := A) (i := p.1) fun q hq he => hnd.1 q hq he
      simp only [entsOf, cnt, h1, h2, hs]
      refine ⟨?_, by simp [setSt]; omega⟩
      simp only [setSt, if_true, List.nil_append]
      exact List.perm_append_comm
    · have hne : q.1 ≠ p.1 := fun he => hnd.1 p hp he.symm
      obtain ⟨h1, h2⟩ := ents_set (b := b) hp hnd.2 hs
      simp only [entsOf, cnt]
      have e : setSt st p.1 b q.1 = st q.1 := by simp [setSt, hne]
      rw [e]
      refine ⟨?_, by omega⟩
      rw [List.append_assoc]
      exact h1.append_left _
theorem HOk.back {G : Gl} {w w' : World} {F : Nat → Prop} {ηs ηs' ηr : List Ent} (hH1 : HOk G w F (ηs ++ ηr)) (hh : HOk G w' (fun b => F b ∨ b ∈ ids ηr) ηs') (hext : Ext ηs w ηs' w') : HOk G w' F (ηs' ++ ηr) ∧ Ext (ηs ++ ηr) w (ηs' ++ ηr) w' := by
  have hlt := hH1.lt
  have hnd := hH1.nodup
  rw [ids_append, List.nodup_append] at hnd
  have hA : Al (fun b => F b ∨ b ∈ ids ηr) ηs' = Al F (ηs' ++ ηr) := Al_front
  have hmem : ∀ b, b ∈ ids (ηs ++ ηr) ↔ b ∈ ids ηs ∨ b ∈ ids ηr := fun b => by rw [ids_append, List.mem_append]
  have hnew : ∀ b ∈ ids ηs', b ∈ ids ηs ∨ w.heap.size ≤ b := hext.new
  have hr : ∀ b ∈ ids ηr, b < w.heap.size ∧ b ∉ ids ηs := fun b hb => ⟨hlt b (by simp [ids_append, hb]), fun hm => hnd.2.2 b hm b hb rfl⟩
  have hE : Ext (ηs ++ ηr) w (ηs' ++ ηr) w' := by
    refine ⟨hext.os, hext.tape, hext.output, hext.size, fun b hb hn => hext.block b hb fun hm => hn ((hmem b).2 (.inl hm)), fun b hb => ?_⟩
    rw [ids_append, List.mem_append] at hb
    rcases hb with hb | hb
    · exact (hnew b hb).imp (fun hm => (hmem b).2 (.inl hm)) id
    · exact .inl ((hmem b).2 (.inr hb))
  have hk : Keeps w (Al F (ηs ++ ηr)) w' (Al F (ηs' ++ ηr)) := hE.keeps
  refine ⟨⟨fun x hx => ?_, ?_, fun b hb => ?_, fun b hb => hh.bound b (.inl hb), hH1.glob.keep hk⟩, hE⟩
  · rcases List.mem_append.1 hx with hx | hx
    · rw [← hA]; exact hh.ents x hx
    · have hx0 := hH1.ents x (by simp [hx])
      refine hx0.keep hk fun b hb => ?_
      have hbm : b ∈ ids ηr := List.mem_flatMap.2 ⟨x, hx, hb⟩
      exact hext.block b (hr b hbm).1 (hr b hbm).2
  · rw [ids_append, List.nodup_append]
    refine ⟨hh.nodup, hnd.2.1, fun a ha b hb hab => ?_⟩
    subst hab
    rcases hnew a ha with h1 | h1
    · exact (hr a hb).2 h1
    · have := (hr a hb).1; omega
  · rw [ids_append, List.mem_append] at hb
    rcases hb with hb | hb
    · exact fun hF => hh.free b hb (.inl hF)
    · exact hH1.free b ((hmem b).2 (.inr hb))
theorem HOk.drop {G : Gl} {w : World} {F : Nat → Prop} {η ν : List Ent} (h : HOk G w F (η ++ ν)) : HOk G w F η := by
  have hsub : ∀ b ∈ ids η, b ∈ ids (η ++ ν) := fun b hb => by rw [ids_append]; exact List.mem_append_left _ hb
  have hk := Keeps.sub (w := w) (F := F) hsub
  have hnd := h.nodup
  rw [ids_append, List.nodup_append] at hnd
  exact ⟨fun x hx => (h.ents x (by simp [hx])).keep hk (fun _ _ => rfl), hnd.1, fun b hb => h.free b (hsub b hb), h.bound, h.glob.keep hk⟩
theorem Ext.perm {η η' η'' : List Ent} {w w' : World} (h : Ext η w η' w') (hp : η'.Perm η'') : Ext η w η'' w' := ⟨h.os, h.tape, h.output, h.size, h.block, fun b hb => h.new b ((ids_perm hp).mem_iff.2 hb)⟩
theorem Ext.drop {η η' ν : List Ent} {w w' : World} (h : Ext η w (η' ++ ν) w') : Ext η w η' w' := ⟨h.os, h.tape, h.output, h.size, h.block, fun b hb => h.new b (by rw [ids_append]; exact List.mem_append_left _ hb)⟩
structure AlsOk (C : Cx) (N : Nat) (ops : Array Oper) (A : Als) (s : Sl) : Prop where
  ok : ∀ p ∈ A, AlOk C N ops p
  nd : (A.map (·.1)).Nodup
  dst : ∀ p ∈ A, ∀ j oj, ops[j]? = some oj → j ≠ p.1 → oj.dst ≠ some p.2.1
  sl : ∀ p ∈ A, s p.2.1 = none
structure WlOk (A : Als) (listed wl : Array Bool) (st : Nat → Option Nat) : Prop where
  h1 : ∀ i, wl.getD i true = false → listed.getD i true = false ∨ ∃ p ∈ A, p.1 = i ∧ st i = none
  h2 : ∀ i, wl.getD i false = true → listed.getD i false = true ∧ ∀ p ∈ A, p.1 = i → st i ≠ none
  h3 : ∀ i, listed.getD i true = false → wl.getD i true = false
  h4 : ∀ i, listed.getD i false = true → (∀ p ∈ A, p.1 = i → st i ≠ none) → wl.getD i false = true
  h5 : ∀ p ∈ A, st p.1 = none → wl.getD p.1 true = false
  h6 : ∀ p ∈ A, listed.getD p.1 true = true
  h7 : ∀ p ∈ A, listed.getD p.1 false = true
theorem getD_set_self (l : Array Bool) (i : Nat) : (l.setIfInBounds i true).getD i true = true := by
  rcases Nat.lt_or_ge i l.size with h | h
  · simp [h]
  · simp [Array.getElem?_eq_none, h]
theorem getD_set_selfF {l : Array Bool} {i : Nat} (h : l.getD i true = false) : (l.setIfInBounds i true).getD i false = true := by
  rcases Nat.lt_or_ge i l.size with h' | h'
  · simp [h']
  · simp [Array.getElem?_eq_none, h'] at h
theorem nodup_inj : ∀ {A : Als} {p q : Nat × (Nat × List AV)}, (A.map (·.1)).Nodup → p ∈ A → q ∈ A → p.1 = q.1 → p = q
  | x :: A, p, q, hnd, hp, hq, he => by
    simp only [List.map_cons, List.nodup_cons, List.mem_map, not_exists, not_and] at hnd
    rcases List.mem_cons.1 hp with h1 | h1 <;> rcases List.mem_cons.1 hq with h2 | h2
    · rw [h1, h2]
    · exact absurd (by rw [← he, h1]) (hnd.1 q h2)
    · exact absurd (by rw [he, h2]) (hnd.1 p h1)
    · exact nodup_inj hnd.2 h1 h2 he
theorem behind1_spec {i j : Nat} {o : Oper} (ho : ops[j]? = some o) (h : behind1 ops i j = true) : ∃ e ∈ o.after, Region.binds .any e = true ∧ e.on = i := by
  unfold behind1 at h
  rw [ho] at h
  simp only [List.any_eq_true, Bool.and_eq_true, beq_iff_eq] at h
  obtain ⟨q, hq, h1, h2⟩ := h
  exact ⟨q, by simpa using hq, h1, h2⟩
theorem SlOk.perm {w : World} {F : Nat → Prop} {η η' : List Ent} {a : Act} {s : Sl} (h : SlOk w (Al F η) N a s) (hp : η.Perm η') : SlOk w (Al F η') N a s := by rw [← Al_perm hp]; exact h
variable {Qn : Sl → List Ent → Prop} {Qp : AV → List Ent → Prop} {Q : AQ}
theorem aTl_sound (hQn : ∀ s η, Qn s η → ∃ σ', (∀ t x, look σ' t = some x → s t = some x) ∧ Q .norm σ' η) (hQp : ∀ x η, Qp x η → Q (.pan x) [] η) :
    ∀ (m n : Nat) (A : Als) (listed wl : Array Bool) (pend : Pend) (s : Sl) (η : List Ent) (st : Nat → Option Nat), m = n + cnt st A → aTl C N ops Qn Qp n A listed pend s η → AlsOk C N ops A s → WlOk A listed wl st →
      ∀ F w0 η0 a w, SlOk w (Al F (η ++ entsOf st A)) N a s → (∀ p ∈ A, ∀ b, st p.1 = some b → a.tmps.getD p.2.1 undef = .pointer (some ⟨b, 0, none⟩)) → HOk C.G w F (η ++ entsOf st A) → a.defers = [] → Ext η0 w0 (η ++ entsOf st A) w →
        wpAny C.P .any ops (CQ C.G N F w0 η0 Q) m wl a w := by
  intro m
  induction m with
  | zero =>
    intro n A listed wl pend s η st hm h hA hW F w0 η0 a w hs hptr hh hdf hx
    have hn : n = 0 := by omega
    subst hn
    have hall : ∀ p ∈ A, st p.1 ≠ none := fun p hp hs => by have := cnt_pos hp hs; omega
    refine ⟨?_, ?_⟩
    · refine List.eq_nil_iff_forall_not_mem.2 fun j hj => ?_
      obtain ⟨hju, o, ho, hd⟩ := mem_ready.1 hj
      rcases hW.h1 j hju with h1 | ⟨p, hp, rfl, h2⟩
      · have : j ∈ Region.ready .any ops listed := mem_ready.2 ⟨h1, o, ho, fun e he hb => (hW.h2 _ (hd e he hb)).1⟩
        rw [h.2.1] at this; cases this
      · exact hall p hp h2
    · obtain ⟨σ', h1, h2⟩ := hQn s η h.2.2
      refine CQ.intro .norm rfl h2 ⟨?_, hh.drop, hdf⟩ hx.drop
      have hk := Keeps.sub (w := w) (F := F) (η := η ++ entsOf st A) (η' := η) fun b hb => by rw [ids_append]; exact List.mem_append_left _ hb
      exact ⟨hs.1, fun t x hx => ⟨(hs.2 t x (h1 t x hx)).1, (hs.2 t x (h1 t x hx)).2.keep hk⟩⟩
  | succ m ih =>
    intro n A listed wl pend s η st hm h hA hW F w0 η0 a w hs hptr hh hdf hx
    refine ⟨fun h0 => ?_, fun j hj => ?_⟩
    · have hall : ∀ p ∈ A, st p.1 ≠ none := fun p hp hsn => by
        obtain ⟨o, ho, _, _, _, hna, _⟩ := hA.ok p hp
        have : p.1 ∈ Region.ready .any ops wl := mem_ready.2 ⟨hW.h5 p hp hsn, o, ho, fun e he hb => by rw [hna e he] at hb; cases hb⟩
        rw [h0] at this; cases this
      have hr0 : Region.ready .any ops listed = [] := by
        refine List.eq_nil_iff_forall_not_mem.2 fun j hj => ?_
        obtain ⟨hju, o, ho, hd⟩ := mem_ready.1 hj
        have : j ∈ Region.ready .any ops wl := mem_ready.2 ⟨hW.h3 j hju, o, ho, fun e he hb => hW.h4 _ (hd e he hb) fun p hp he' => by rw [← he']; exact hall p hp⟩
        rw [h0] at this; cases this
      have hq : Qn s η := by
        cases n with
        | zero => exact h.2.2
        | succ n => exact h.2.1 hr0
      obtain ⟨σ', h1, h2⟩ := hQn s η hq
      refine CQ.intro .norm rfl h2 ⟨?_, hh.drop, hdf⟩ hx.drop
      have hk := Keeps.sub (w := w) (F := F) (η := η ++ entsOf st A) (η' := η) fun b hb => by rw [ids_append]; exact List.mem_append_left _ hb
      exact ⟨hs.1, fun t x hx => ⟨(hs.2 t x (h1 t x hx)).1, (hs.2 t x (h1 t x hx)).2.keep hk⟩⟩
    · obtain ⟨hju, o, ho, hdep⟩ := mem_ready.1 hj
      unfold wpOp
      simp only [ho]
      rcases hW.h1 j hju with hjl | ⟨p, hp, hpj, hsn⟩
      · -- an operation of the tail
        have hjr : j ∈ Region.ready .any ops listed := mem_ready.2 ⟨hjl, o, ho, fun e he hb => (hW.h2 _ (hdep e he hb)).1⟩
        cases n with
        | zero => rw [h.2.1] at hjr; cases hjr
        | succ n =>
          obtain ⟨o', ho', hst⟩ := h.2.2 j hjr
          rw [ho] at ho'; cases ho'
          have hex : ∀ p ∈ mOf ops j A, st p.1 ≠ none := fun p hp => by
            simp only [mOf, List.mem_filter] at hp
            obtain ⟨e, he, hb, heq⟩ := behind1_spec ho hp.2
            exact (hW.h2 p.1 (by rw [← heq]; exact hdep e he hb)).2 p hp.1 rfl
          have hstp := allB_spec hst (zsOf st (mOf ops j A)) (zsOf_fst _)
          have hents : nuEnts (zsOf st (mOf ops j A)) = entsOf st (mOf ops j A) := ents_all hex
          have hperm : (η ++ entsOf st A).Perm ((η ++ nuEnts (zsOf st (mOf ops j A))) ++ entsOf st (mNot ops j A)) := by
            rw [hents, List.append_assoc]
            exact (entsOf_split j A).append_left _
          have hH1 := hh.perm hperm
          have hx1 := hx.perm hperm
          have hzs : ∀ z ∈ zsOf st (mOf ops j A), ∃ p ∈ A, behind1 ops p.1 j = true ∧ z.1 = p.2 ∧ st p.1 = some z.2 := fun z hz => by
            simp only [zsOf, List.mem_map] at hz
            obtain ⟨p, hp, rfl⟩ := hz
            have := hex p hp
            simp only [mOf, List.mem_filter] at hp
            refine ⟨p, hp.1, hp.2, rfl, ?_⟩
            cases hs : st p.1 with
            | none => exact absurd hs this
            | some b => rfl
          generalize zsOf st (mOf ops j A) = zs at hstp hperm hH1 hx1 hzs hents
          have hcnt : m = n + cnt st (mNot ops j A) := by
            have h1 := cnt_split (ops := ops) (st := st) j A
            rw [cnt_zero hex] at h1
            omega
          have hs1 : SlOk w (Al F ((η ++ nuEnts zs) ++ entsOf st (mNot ops j A))) N a (ups η.length zs s) := by
            rw [← Al_perm hperm]
            refine ⟨hs.1, fun t x ht => ?_⟩
            simp only [ups] at ht
            split at ht
            · rename_i y hl
              cases ht
              have : look (revs η.length zs ++ []) t = some x := by simpa using hl
              rcases look_revs this with ⟨z, hz, k, rfl, rfl⟩ | h
              · obtain ⟨p, hp, _, he, hsp⟩ := hzs z hz
                obtain ⟨_, _, _, _, hlt, _⟩ := hA.ok p hp
                rw [he]
                exact ⟨hlt, by simp only [Rel]; exact hptr p hp _ hsp⟩
              · simp [look] at h
            · exact hs.2 t x ht
          have hne : ∀ p ∈ A, j ≠ p.1 := fun p hp he => by
            have := hW.h6 p hp
            rw [← he, hjl] at this; cases this
          have hsub : ∀ p ∈ mNot ops j A, p ∈ A := fun p hp => (List.mem_filter.1 hp).1
          have hW' : WlOk (mNot ops j A) (listed.setIfInBounds j true) (wl.setIfInBounds j true) st := by
            have hjne : ∀ {i : Nat} {l : Array Bool}, (l.setIfInBounds j true).getD i true = false → j ≠ i := fun hi he => by subst he; rw [getD_set_self] at hi; cases hi
            refine ⟨fun i hi => ?_, fun i hi => ?_, fun i hi => ?_, fun i hi hall => ?_, fun p hp hsn => ?_, fun p hp => ?_, fun p hp => ?_⟩
            · have hji := hjne hi
              rw [getD_set_ne true hji] at hi ⊢
              rcases hW.h1 i hi with h1 | ⟨p, hp, rfl, h2⟩
              · exact .inl h1
              · refine .inr ⟨p, ?_, rfl, h2⟩
                simp only [mNot, List.mem_filter, Bool.not_eq_true']
                refine ⟨hp, ?_⟩
                cases hb : behind1 ops p.1 j with
                | false => rfl
                | true => exact absurd h2 (hex p (by simp only [mOf, List.mem_filter]; exact ⟨hp, hb⟩))
            · by_cases hji : j = i
              · subst hji
                exact ⟨getD_set_selfF hjl, fun p hp he => absurd he.symm (hne p (hsub p hp))⟩
              · rw [getD_set_ne false hji] at hi ⊢
                obtain ⟨h1, h2⟩ := hW.h2 i hi
                exact ⟨h1, fun p hp he => h2 p (hsub p hp) he⟩
            · have hji := hjne hi
              rw [getD_set_ne true hji] at hi ⊢
              exact hW.h3 i hi
            · by_cases hji : j = i
              · subst hji
                exact getD_set_selfF hju
              · rw [getD_set_ne false hji] at hi ⊢
                refine hW.h4 i hi fun p hp he hsn => ?_
                cases hb : behind1 ops p.1 j with
                | false => exact hall p (by simp only [mNot, List.mem_filter, Bool.not_eq_true']; exact ⟨hp, hb⟩) he hsn
                | true => exact hex p (by simp only [mOf, List.mem_filter]; exact ⟨hp, hb⟩) (by rw [he]; exact hsn)
            · rw [getD_set_ne true (hne p (hsub p hp))]; exact hW.h5 p (hsub p hp) hsn
            · rw [getD_set_ne true (hne p (hsub p hp))]; exact hW.h6 p (hsub p hp)
            · rw [getD_set_ne false (hne p (hsub p hp))]; exact hW.h7 p (hsub p hp)
          have hA' : ∀ x : AV, AlsOk C N ops (mNot ops j A) (setS (ups η.length zs s) o.dst (some x)) := fun x => by
            refine ⟨fun p hp => hA.ok p (hsub p hp), (List.filter_sublist.map _).nodup hA.nd, fun p hp => hA.dst p (hsub p hp), fun p hp => ?_⟩
            have hd : o.dst ≠ some p.2.1 := hA.dst p (hsub p hp) j o ho (hne p (hsub p hp))
            rw [setS_other fun d hd' he => hd (by rw [hd', he])]
            simp only [ups]
            cases hl : look (revs η.length zs) p.2.1 with
            | none => exact hA.sl p (hsub p hp)
            | some y =>
              exfalso
              have : look (revs η.length zs ++ []) p.2.1 = some y := by simpa using hl
              rcases look_revs this with ⟨z, hz, k, h1, _⟩ | h
              · obtain ⟨q, hq, hb, he, _⟩ := hzs z hz
                obtain ⟨oq, hoq, _, hdq, _⟩ := hA.ok q hq
                have hqp : q.1 ≠ p.1 := fun e => by
                  have := (List.mem_filter.1 hp).2
                  rw [← e, hb] at this; cases this
                exact hA.dst p (hsub p hp) q.1 oq hoq hqp (by rw [hdq, ← he, h1])
              · simp [look] at h
          have hptr' : ∀ {v : Value}, ∀ p ∈ mNot ops j A, ∀ b, st p.1 = some b → (a.put o.dst v).tmps.getD p.2.1 undef = .pointer (some ⟨b, 0, none⟩) := fun {v} p hp b hb => by
            have hd : o.dst ≠ some p.2.1 := hA.dst p (hsub p hp) j o ho (hne p (hsub p hp))
            rw [getD_put_other fun d hd' he => hd (by rw [hd', he])]
            exact hptr p (hsub p hp) b hb
          obtain ⟨hdst, hst2⟩ := hstp
          have put : ∀ {x : AV} {v : Value} {w' : World} {η' : List Ent}, Rel w' (Al F (η' ++ entsOf st (mNot ops j A))) x v → Ext ((η ++ nuEnts zs) ++ entsOf st (mNot ops j A)) w (η' ++ entsOf st (mNot ops j A)) w' → SlOk w' (Al F (η' ++ entsOf st (mNot ops j A))) N (a.put o.dst v) (setS (ups η.length zs s) o.dst (some x)) := by
            intro x v w' η' hv hext
            refine ⟨by rw [put_size]; exact hs1.1, fun t y hy => ?_⟩
            by_cases htd : o.dst = some t
            · have htN := dstB_spec hdst t htd
              rw [htd] at hy ⊢
              simp only [setS, if_true, Option.some.injEq] at hy
              subst hy
              exact ⟨htN, by rw [getD_put_same (by rw [hs1.1]; exact htN)]; exact hv⟩
            · have hne : ∀ d, o.dst = some d → t ≠ d := fun d hd' he => htd (by rw [hd', he])
              rw [setS_other hne] at hy
              obtain ⟨h1, h2⟩ := hs1.2 t y hy
              exact ⟨h1, by rw [getD_put_other hne]; exact h2.keep hext.keeps⟩
          rcases hst2 with ⟨hw, R, hE, h1, h2⟩ | ⟨hw, h1⟩
          · rw [if_pos (wantedA_spec hs1 hw)]
            refine .inl (hE (fun b => F b ∨ b ∈ ids (entsOf st (mNot ops j A))) w a hs1.1 hdf hH1.front (fun t _ y hy => by rw [Al_front]; exact hs1.2 t y hy) _ _ ?_ ?_)
            · intro v w' x η' hR hv hH' hext
              obtain ⟨g1, g2⟩ := HOk.back hH1 hH' hext
              rw [Al_front] at hv
              exact ih n (mNot ops j A) _ _ _ _ η' st hcnt (h1 x η' hR) (hA' x) hW' F w0 η0 _ w' (put hv g2) hptr' g1 (by rw [put_df]; exact hdf) (hx1.trans g2)
            · intro v w' x η' hR hv hH' hext
              obtain ⟨g1, g2⟩ := HOk.back hH1 hH' hext
              rw [Al_front] at hv
              have hk := Keeps.sub (w := w') (F := F) (η := η' ++ entsOf st (mNot ops j A)) (η' := η') fun b hb => by rw [ids_append]; exact List.mem_append_left _ hb
              exact ⟨.pan x, [], η', hQp x η' (h2 x η' hR), ⟨v, rfl, hv.keep hk⟩, ⟨⟨hs1.1, fun t x hx => by simp [AE.sl, look] at hx⟩, g1.drop, hdf⟩, (hx1.trans g2).drop⟩
          · rw [if_neg (by rw [wantedA_spec hs1 hw]; simp)]
            exact ih n (mNot ops j A) _ _ _ _ (η ++ nuEnts zs) st hcnt h1 (hA' _) hW' F w0 η0 _ w (put (x := .v undef) (v := undef) (by simp only [Rel]) (Ext.refl _ w)) hptr' hH1 (by rw [put_df]; exact hdf) hx1
      · -- a fresh box
        subst hpj
        obtain ⟨o', ho', hg, hd, hlt, hna, hN⟩ := hA.ok p hp
        rw [ho] at ho'; cases ho'
        rw [if_pos (by simp [Region.wanted, hg])]
        refine .inl (hN (fun _ => none) (η ++ entsOf st A) F w a hs.1 hdf hh (fun t _ y hy => by cases hy) _ _ fun vs e hv => ?_)
        obtain ⟨hp1, hp2⟩ := ents_set (b := w.heap.size) hp hA.nd hsn
        have hperm : ((η ++ entsOf st A) ++ [Ent.box w.heap.size p.2.2]).Perm (η ++ entsOf (setSt st p.1 w.heap.size) A) := by
          rw [List.append_assoc]
          exact (hp1.symm).append_left _
        have hext := ext_alloc w (.cells vs.toArray e) (η ++ entsOf st A) (.box w.heap.size p.2.2) (by simp [Ent.ids])
        have hkeep := hext.keeps (F := F)
        refine ih n A listed (wl.setIfInBounds p.1 true) pend s η (setSt st p.1 w.heap.size) (by omega) h hA ?_ F w0 η0 _ _ ?_ ?_ ?_ (by rw [put_df]; exact hdf) ((hx.trans hext).perm hperm)
        · refine ⟨fun i hi => ?_, fun i hi => ?_, fun i hi => ?_, fun i hi hall => ?_, fun q hq hsq => ?_, hW.h6, hW.h7⟩
          · have hji : p.1 ≠ i := fun he => by subst he; rw [getD_set_self] at hi; cases hi
            rw [getD_set_ne true hji] at hi
            rcases hW.h1 i hi with h1 | ⟨q, hq, rfl, h2⟩
            · exact .inl h1
            · exact .inr ⟨q, hq, rfl, by simp only [setSt, Ne.symm hji, if_false]; exact h2⟩
          · by_cases hji : p.1 = i
            · subst hji
              exact ⟨hW.h7 p hp, fun q hq he => by simp [setSt]⟩
            · rw [getD_set_ne false hji] at hi
              obtain ⟨h1, h2⟩ := hW.h2 i hi
              exact ⟨h1, fun q hq he => by simp only [setSt, Ne.symm hji, if_false]; exact h2 q hq he⟩
          · have hji : p.1 ≠ i := fun he => by
              subst he
              have := hW.h6 p hp
              rw [hi] at this; cases this
            rw [getD_set_ne true hji]; exact hW.h3 i hi
          · by_cases hji : p.1 = i
            · subst hji; exact getD_set_selfF hju
            · rw [getD_set_ne false hji]
              refine hW.h4 i hi fun q hq he hsq => hall q hq he ?_
              simp only [setSt, Ne.symm hji, if_false]; exact hsq
          · have hji : p.1 ≠ q.1 := fun he => by rw [← he] at hsq; simp [setSt] at hsq
            rw [getD_set_ne true hji]
            refine hW.h5 q hq ?_
            simpa only [setSt, Ne.symm hji, if_false] using hsq
        · rw [← Al_perm hperm]
          refine ⟨by rw [put_size]; exact hs.1, fun t x hx => ?_⟩
          have htd : t ≠ p.2.1 := fun he => by rw [he, hA.sl p hp] at hx; cases hx
          obtain ⟨h1, h2⟩ := hs.2 t x hx
          refine ⟨h1, ?_⟩
          rw [getD_put_other fun d hd' he => htd (by rw [he]; rw [hd] at hd'; cases hd'; rfl)]
          exact h2.keep hkeep
        · intro q hq b hb
          by_cases hqp : q.1 = p.1
          · have := nodup_inj hA.nd hq hp hqp
            subst this
            simp only [setSt, if_true, Option.some.injEq] at hb
            subst hb
            rw [hd]
            exact getD_put_same (by rw [hs.1]; exact hlt)
          · simp only [setSt, hqp, if_false] at hb
            have hdq : o.dst ≠ some q.2.1 := hA.dst q hq p.1 o ho (Ne.symm hqp)
            rw [getD_put_other fun d hd' he => hdq (by rw [hd', he])]
            exact hptr q hq b hb
        · refine HOk.perm hperm ?_
          refine hh.push (by simp) (fun b hb => alloc_later w _ b hb) (by simp [Ent.ids]) (by simp [Ent.ids]) ?_
          exact ⟨e, vs, alloc_new w _, hv.keep hkeep⟩
end
def alsA (T : Tab) (ops : Array Oper) (N : Nat) : List Nat → Option Als
  | [] => some []
  | i :: r => match ops[i]?, alsA T ops N r with
    | some ⟨some d, .alloc t, _, _, after, none⟩, some A => match tget T t with
      | some ⟨_, _, _, z⟩ => match Nat.blt d N && after.toList.all fun e => !Region.binds .any e with
        | true => some ((i, (d, z.map .v)) :: A)
        | false => none
      | none => none
    | _, _ => none
def alP (ops : Array Oper) : List Nat → List (Nat × Nat)
  | [] => []
  | i :: r => match ops[i]? with
    | some o => match o.dst with
      | some d => (i, d) :: alP ops r
      | none => alP ops r
    | none => alP ops r
theorem alsA_ok {E : Env} {ops : Array Oper} {N : Nat} : ∀ {al : List Nat} {A : Als}, alsA E.T ops N al = some A → (∀ p ∈ A, AlOk E.toCx N ops p) ∧ A.map (·.1) = al ∧ alP ops al = A.map fun p => (p.1, p.2.1)
  | [], A, h => by simp only [alsA, Option.some.injEq] at h; subst h; simp [alP]
  | i :: r, A, h => by
    simp only [alsA] at h
    split at h
    · rename_i d t ty pos after A' ho hr
      split at h
      · rename_i td sz by' z ht
        split at h
        · rename_i hB
          simp only [Option.some.injEq] at h; subst h
          simp only [Bool.and_eq_true, Nat.blt_eq, List.all_eq_true, Bool.not_eq_true'] at hB
          obtain ⟨g1, g2, g3⟩ := alsA_ok hr
          refine ⟨fun p hp => ?_, by simp [g2], by simp [alP, ho, g3]⟩
          rcases List.mem_cons.1 hp with rfl | hp
          · refine ⟨_, ho, rfl, rfl, hB.1, fun e he => ?_, fun s η => OpN.alloc rfl ht⟩
            exact hB.2 e (by simpa using he)
          · exact g1 p hp
        · cases h
      · cases h
    · cases h
def orderT (ops : Array Oper) (pre : List Nat) (tl : List (Nat × TK)) (al : List Nat) : Bool :=
  Region.noSelect ops && lexD ops pre (Array.replicate ops.size false) && tailF ops (pickT1 ops tl) (listedBy al (listedBy pre (Array.replicate ops.size false))) [] (alP ops al) && Nat.beq (pre.length + ((pickT1 ops tl).length + al.length)) ops.size &&
    nodupB al && (al.all fun i => !pre.contains i && (List.range ops.size).all fun j => Nat.beq j i || match ops[i]?, ops[j]? with
      | some oi, some oj => (match oi.dst with
        | some d => dstNe oj.dst d
        | none => true)
      | _, _ => true)
def hide (A : Als) (s : Sl) : Sl := fun t => match (A.map (·.2.1)).contains t with
  | true => none
  | false => s t
theorem hide_some {A : Als} {s : Sl} {t : Nat} {x : AV} (h : hide A s t = some x) : s t = some x := by
  unfold hide at h
  split at h
  · cases h
  · exact h
theorem listedBy_getD : ∀ (l : List Nat) (q : Array Bool) (i : Nat) (d : Bool), (listedBy l q).getD i d = if i ∈ l ∧ i < q.size then true else q.getD i d
  | [], q, i, d => by simp [listedBy]
  | j :: l, q, i, d => by
    have ih := listedBy_getD l (q.setIfInBounds j true) i d
    simp only [listedBy, List.foldl_cons] at ih ⊢
    rw [ih]
    simp only [Array.size_setIfInBounds, List.mem_cons]
    by_cases hj : j = i
    · subst hj
      by_cases hlt : j < q.size
      · simp [hlt]
      · simp [hlt, Array.getElem?_eq_none (Nat.le_of_not_lt hlt)]
    · have hij : i ≠ j := Ne.symm hj
      rw [getD_set_ne d hj]
      simp only [hij, false_or]
theorem entsOf_none : ∀ A : Als, entsOf (fun _ => none) A = [] ∧ cnt (fun _ => none) A = A.length
  | [] => ⟨rfl, rfl⟩
  | p :: A => by
    obtain ⟨h1, h2⟩ := entsOf_none A
    simp only [entsOf, cnt, h1, h2, List.append_nil, List.length_cons]
    exact ⟨trivial, by omega⟩
theorem AWP.regionT {E : Env} {N : Nat} {ops : Array Oper} {η : List Ent} {Q : AQ} {σ : Sg} {id : Nat} (pre : List Nat) (tl : List (Nat × TK)) (al : List Nat) (A : Als) (hm : E.P.follows .mixedOrders = true) (hA : alsA E.T ops N al = some A) (hB : orderT ops pre tl al = true) (hl : (pickOps ops pre).length = pre.length)
    (h : aLex E.toCx N η ops (fun st => ∃ σ', (∀ t x, look σ' t = some x → st.1 t = some x) ∧ allB st.2 fun zs => tLex E.toCx N ops (fun s η' => ∃ σ1, (∀ t x, look σ1 t = some x → s t = some x) ∧ Q .norm σ1 η') (fun x η' => Q (.pan x) [] η') (pickT1 ops tl) A [] (hide A (look (revs η.length zs ++ σ'))) (η ++ nuEnts zs)) (pickOps ops pre) (look σ, [])) :
    AWP E.toCx N (.region id ops true) Q σ η := fun F w0 η0 a w hs hx => by
  simp only [orderT, Bool.and_eq_true] at hB
  obtain ⟨⟨⟨⟨⟨_, hlex⟩, htl⟩, hsz⟩, hnd⟩, hal⟩ := hB
  have hsz := Nat.eq_of_beq_eq_true hsz
  obtain ⟨a1, a2, a3⟩ := alsA_ok hA
  rw [a3] at htl
  have hrep : ∀ (n : Nat) (i : Nat) (d : Bool), (Array.replicate n false).getD i d = if i < n then false else d := fun n i d => by
    by_cases hi : i < n <;> simp [hi]
  have hmem : ∀ p ∈ A, p.1 ∈ al ∧ p.1 ∉ pre ∧ p.1 < ops.size := fun p hp => by
    have h1 : p.1 ∈ al := by rw [← a2]; exact List.mem_map.2 ⟨p, hp, rfl⟩
    simp only [List.all_eq_true, Bool.and_eq_true, Bool.not_eq_true'] at hal
    obtain ⟨o, ho, _⟩ := a1 p hp
    exact ⟨h1, by simpa using (hal p.1 h1).1, (Array.getElem?_eq_some_iff.1 ho).1⟩
  have halm : ∀ i ∈ al, ∃ p ∈ A, p.1 = i := fun i hi => by rw [← a2] at hi; obtain ⟨p, hp, he⟩ := List.mem_map.1 hi; exact ⟨p, hp, he⟩
  refine wp_mono (Q := CQ E.G N F w η Q) ?_ (fun e a w' ⟨e0, σ2, η2, g1, g2, g3, g4⟩ => ⟨e0, σ2, η2, g1, g2, g3, hx.trans g4⟩)
  refine wp_region_any hm ?_
  have hcut : aLex E.toCx N η ops (fun st => Cut E.toCx N ops η (fun F w1 => CQ E.G N F w1 η Q) ((pickT1 ops tl).length + al.length) (listedBy pre (Array.replicate ops.size false)) st) (pickOps ops pre) (look σ, []) := by
    refine aLex_mono (fun st ⟨σ', h1, h2⟩ => ?_) h
    intro F w1 w a zs hd
    have hb := allB_spec h2 zs hd.eq
    have hT := aTl_lex _ _ _ _ [] _ _ (fun p hp => pickT1_get hp) (fun p hp => by cases hp) htl hb
    obtain ⟨e1, e2⟩ := entsOf_none A
    have hlen : A.length = al.length := by rw [← a2]; simp
    have hsl : SlOk w (Al F ((η ++ nuEnts zs) ++ entsOf (fun _ => none) A)) N a (hide A (look (revs η.length zs ++ σ'))) := by
      rw [e1, List.append_nil]
      refine ⟨hd.size, fun t x hx => ?_⟩
      rcases look_revs (hide_some hx) with ⟨z, hz, k, rfl, rfl⟩ | hx
      · obtain ⟨g1, g2⟩ := hd.nu z hz
        exact ⟨g1, by simp only [Rel]; exact g2⟩
      · exact hd.sl t x (h1 t x hx)
    refine aTl_sound (Q := Q) (fun _ _ h => h) (fun _ _ h => h) _ _ A _ (listedBy pre (Array.replicate ops.size false)) _ _ _ (fun _ => none) (by rw [e2, hlen]) hT ⟨a1, by rw [a2]; exact nodupB_spec hnd, fun p hp j oj hoj hne => ?_, fun p hp => ?_⟩ ?_ F w1 η a w hsl (fun p hp b hb => by cases hb) (by rw [e1, List.append_nil]; exact hd.hp) hd.df ⟨hd.cls.1, hd.cls.2.1, hd.cls.2.2.1, hd.cls.2.2.2.1, fun b hb _ => hd.cls.2.2.2.2 b hb, fun b hb => ?_⟩
    · obtain ⟨oi, hoi, _, hdi, _⟩ := a1 p hp
      simp only [List.all_eq_true, Bool.and_eq_true] at hal
      have := (hal p.1 (hmem p hp).1).2 j (List.mem_range.2 (Array.getElem?_eq_some_iff.1 hoj).1)
      simp only [hoi, hoj, hdi, Bool.or_eq_true] at this
      rcases this with h | h
      · exact absurd (Nat.eq_of_beq_eq_true h) hne
      · exact dstNe_spec h
    · have : (A.map (·.2.1)).contains p.2.1 = true := by rw [List.contains_iff_mem]; exact List.mem_map.2 ⟨p, hp, rfl⟩
      simp only [hide, this]
    · have hsize : (listedBy pre (Array.replicate ops.size false)).size = ops.size := by
        have : ∀ (l : List Nat) (q : Array Bool), (listedBy l q).size = q.size := by
          intro l
          induction l with
          | nil => intro q; rfl
          | cons j l ih => intro q; simp only [listedBy, List.foldl_cons] at ih ⊢; rw [ih]; simp
        rw [this]; simp
      refine ⟨fun i hi => ?_, fun i hi => ?_, fun i hi => ?_, fun i hi hall => ?_, fun p hp _ => ?_, fun p hp => ?_, fun p hp => ?_⟩
      · by_cases hia : i ∈ al
        · exact .inr ((halm i hia).imp fun p hp => ⟨hp.1, hp.2, rfl⟩)
        · left; rw [listedBy_getD, if_neg (fun h => hia h.1)]; exact hi
      · refine ⟨by rw [listedBy_getD, hi]; simp, fun p hp he => ?_⟩
        exfalso
        rw [listedBy_getD] at hi
        split at hi
        · rename_i h; exact (hmem p hp).2.1 (by rw [he]; exact h.1)
        · rw [hrep] at hi; split at hi <;> cases hi
      · rw [listedBy_getD] at hi
        split at hi
        · cases hi
        · exact hi
      · rw [listedBy_getD] at hi
        split at hi
        · rename_i h
          obtain ⟨p, hp, he⟩ := halm i h.1
          exact absurd rfl (hall p hp he)
        · exact hi
      · rw [listedBy_getD, if_neg (fun h => (hmem p hp).2.1 h.1), hrep, if_pos (hmem p hp).2.2]
      · rw [listedBy_getD, if_pos ⟨(hmem p hp).1, by rw [hsize]; exact (hmem p hp).2.2⟩]
      · rw [listedBy_getD, if_pos ⟨(hmem p hp).1, by rw [hsize]; exact (hmem p hp).2.2⟩]
    · rw [e1, List.append_nil, ids_append, List.mem_append] at hb
      rcases hb with hb | hb
      · exact .inl hb
      · obtain ⟨x, hx, hb⟩ := List.mem_flatMap.1 hb
        obtain ⟨z, hz, rfl⟩ := List.mem_map.1 hx
        simp only [Ent.ids, List.mem_singleton] at hb
        subst hb
        exact .inr (hd.new z hz)
  have hany := any_sound _ _ _ (aAny_lex pre _ _ closed0 hlex hl hcut)
  rw [hsz] at hany
  have hc : Cls w { w with drawn := w.drawn + 1 } := ⟨rfl, rfl, rfl, Nat.le_refl _, fun _ _ => rfl⟩
  have hd : DOk E.G N F η w { w with drawn := w.drawn + 1 } a (look σ, []) [] :=
    ⟨hs.sg.1, hs.df, rfl, by simpa [nuEnts] using hs.hp.later hc.2.2.2, fun t x hx => by
      obtain ⟨h1, h2⟩ := hs.sg.2 t x hx
      refine ⟨h1, ?_⟩
      simp only [nuEnts, List.map_nil, List.append_nil]
      exact h2.keep (hc.ext (η := η)).keeps, by simp, hc, by simp⟩
  exact hany F w _ a [] hd
end Go.Bw
