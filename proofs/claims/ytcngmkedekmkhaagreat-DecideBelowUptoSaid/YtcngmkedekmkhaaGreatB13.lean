/-
  Own work. Regions whose order is open, their tail: effects in their order, values that float, boxes that nobody has asked for yet.
-/
import Derived.Test.YtcngmkedekmkhaaGreatB12
noncomputable section
namespace Go.Bw
open Go
def behind1 (ops : Array Oper) (i j : Nat) : Bool := match ops[j]? with
  | some o => o.after.toList.any fun e => Region.binds .any e && e.on == i
  | none => false
def Val (C : Cx) (N : Nat) (ops : Array Oper) (o : Oper) (s : Sl) (η : List Ent) (y : AV) : Prop := (wantedA ops o s = some true ∧ OpP C N o s η y) ∨ (wantedA ops o s = some false ∧ y = .v undef)
abbrev Pend := List (Nat × Oper × AV)
def keepP (ops : Array Oper) (j : Nat) (pend : Pend) : Pend := pend.filter fun p => !behind1 ops p.1 j
def PendOk (C : Cx) (N : Nat) (ops : Array Oper) (pend : Pend) (s : Sl) (η : List Ent) : Prop := ∀ p ∈ pend, Val C N ops p.2.1 s η p.2.2
abbrev Als := List (Nat × (Nat × List AV))
def mOf (ops : Array Oper) (j : Nat) (A : Als) : Als := A.filter fun p => behind1 ops p.1 j
def mNot (ops : Array Oper) (j : Nat) (A : Als) : Als := A.filter fun p => !behind1 ops p.1 j
def nus (A : Als) : Nu := A.map (·.2)
def ups (n : Nat) (zs : List ((Nat × List AV) × Nat)) (s : Sl) : Sl := fun t => match look (revs n zs) t with
  | some x => some x
  | none => s t
def StpT (C : Cx) (N : Nat) (ops : Array Oper) (o : Oper) (s : Sl) (η : List Ent) (nx : Sl → List Ent → Prop) (Qp : AV → List Ent → Prop) : Prop :=
  dstB N o.dst = true ∧ ((wantedA ops o s = some true ∧ ∃ R, EffR C N o s η R ∧ (∀ x η', R (.ret x) η' → nx (setS s o.dst (some x)) η') ∧ ∀ x η', R (.pan x) η' → Qp x η') ∨
    (wantedA ops o s = some false ∧ nx (setS s o.dst (some (.v undef))) η))
def aTl (C : Cx) (N : Nat) (ops : Array Oper) (Qn : Sl → List Ent → Prop) (Qp : AV → List Ent → Prop) : Nat → Als → Array Bool → Pend → Sl → List Ent → Prop
  | 0, _, listed, pend, s, η => PendOk C N ops pend s η ∧ Region.ready .any ops listed = [] ∧ Qn s η
  | n + 1, A, listed, pend, s, η => PendOk C N ops pend s η ∧ (Region.ready .any ops listed = [] → Qn s η) ∧ ∀ j ∈ Region.ready .any ops listed, ∃ o, ops[j]? = some o ∧
      allB (nus (mOf ops j A)) fun zs => StpT C N ops o (ups η.length zs s) (η ++ nuEnts zs) (aTl C N ops Qn Qp n (mNot ops j A) (listed.setIfInBounds j true) (keepP ops j pend)) Qp
section
variable {C : Cx} {N : Nat} {ops : Array Oper} {Qn : Sl → List Ent → Prop} {Qp : AV → List Ent → Prop}
theorem Val.congr {o : Oper} {s s' : Sl} {η : List Ent} {y : AV} (h : Val C N ops o s η y) (he : ∀ t ∈ o.looksAt ops, s' t = s t) : Val C N ops o s' η y :=
  h.imp (fun ⟨h1, h2⟩ => ⟨by rw [wantedA_congr he]; exact h1, h2.congr fun t ht => he t (tmpsOf_looks ht)⟩) fun ⟨h1, h2⟩ => ⟨by rw [wantedA_congr he]; exact h1, h2⟩
theorem StpT.mono {o : Oper} {s : Sl} {η : List Ent} {nx nx' : Sl → List Ent → Prop} (h : StpT C N ops o s η nx Qp) (hn : ∀ s η, nx s η → nx' s η) : StpT C N ops o s η nx' Qp :=
  ⟨h.1, h.2.imp (fun ⟨h1, R, h2, h3, h4⟩ => ⟨h1, R, h2, fun x η' hR => hn _ _ (h3 x η' hR), h4⟩) fun ⟨h1, h2⟩ => ⟨h1, hn _ _ h2⟩⟩
theorem allB_intro : ∀ {ν : Nu} {P : List ((Nat × List AV) × Nat) → Prop}, (∀ zs, zs.map (·.1) = ν → P zs) → allB ν P
  | [], _, h => h [] rfl
  | p :: ν, P, h => fun b => allB_intro fun zs hz => h ((p, b) :: zs) (by simp [hz])
theorem allB_imp {ν : Nu} {P P' : List ((Nat × List AV) × Nat) → Prop} (h : allB ν P) (hi : ∀ zs, zs.map (·.1) = ν → P zs → P' zs) : allB ν P' := allB_intro fun zs hz => hi zs hz (allB_spec h zs hz)
theorem ups_nil (n : Nat) (s : Sl) : ups n [] s = s := rfl
theorem nuEnts_nil : nuEnts [] = [] := rfl
theorem allB_none {A : Als} {i : Nat} (hm : mOf ops i A = []) {n : Nat} {s : Sl} {η : List Ent} {P : Sl → List Ent → Prop} (h : P s η) : allB (nus (mOf ops i A)) fun zs => P (ups n zs s) (η ++ nuEnts zs) := by
  rw [hm]
  show P (ups n [] s) (η ++ nuEnts [])
  rw [ups_nil, nuEnts_nil, List.append_nil]
  exact h
theorem mNot_all {A : Als} {i : Nat} (hm : mOf ops i A = []) : mNot ops i A = A := by
  simp only [mOf, List.filter_eq_nil_iff, Bool.not_eq_true] at hm
  simp only [mNot, List.filter_eq_self]
  intro p hp; rw [hm p hp]; rfl
theorem mOf_sub {A : Als} {i j : Nat} (hm : mOf ops i A = []) : mOf ops i (mNot ops j A) = [] := by
  simp only [mOf, mNot, List.filter_eq_nil_iff] at hm ⊢
  intro p hp
  exact hm p (List.mem_filter.1 hp).1
theorem aTl_sub : ∀ {n : Nat} {A : Als} {listed : Array Bool} {pend pend' : Pend} {s : Sl} {η : List Ent}, (∀ p ∈ pend', p ∈ pend) → aTl C N ops Qn Qp n A listed pend s η → aTl C N ops Qn Qp n A listed pend' s η
  | 0, _, _, _, _, _, _, hs, h => ⟨fun p hp => h.1 p (hs p hp), h.2⟩
  | n + 1, _, _, _, _, _, _, hs, h => ⟨fun p hp => h.1 p (hs p hp), h.2.1, fun j hj => by
    obtain ⟨o, ho, hst⟩ := h.2.2 j hj
    refine ⟨o, ho, allB_imp hst fun zs _ hst => hst.mono fun s η => aTl_sub fun p hp => ?_⟩
    simp only [keepP, List.mem_filter] at hp ⊢
    exact ⟨hs p hp.1, hp.2⟩⟩
theorem aTl_pend {n : Nat} {A : Als} {listed : Array Bool} {pend : Pend} {s : Sl} {η : List Ent} (h : aTl C N ops Qn Qp n A listed pend s η) : PendOk C N ops pend s η := by
  cases n with
  | zero => exact h.1
  | succ n => exact h.1
theorem Val.step {o : Oper} {s : Sl} {η : List Ent} {y : AV} (hd : dstB N o.dst = true) (h : Val C N ops o s η y) {nx : Sl → List Ent → Prop} (k : nx (setS s o.dst (some y)) η) : StpT C N ops o s η nx Qp := by
  refine ⟨hd, h.imp (fun ⟨h1, h2⟩ => ⟨h1, _, EffR.ofP h2, ?_, fun x η' h => by cases h.1⟩) fun ⟨h1, h2⟩ => ⟨h1, by subst h2; exact k⟩⟩
  rintro x η' ⟨h1, rfl⟩
  cases h1
  exact k
theorem ups_set {n : Nat} {zs : List ((Nat × List AV) × Nat)} {s : Sl} {dst : Option Nat} {y : Option AV} (hd : ∀ z ∈ zs, dst ≠ some z.1.1) : ups n zs (setS s dst y) = setS (ups n zs s) dst y := by
  funext t
  cases dst with
  | none => rfl
  | some d =>
    simp only [ups, setS]
    by_cases ht : t = d
    · subst ht
      simp only [if_true]
      cases hl : look (revs n zs) t with
      | none => rfl
      | some x =>
        have : look (revs n zs ++ []) t = some x := by simpa using hl
        rcases look_revs this with ⟨z, hz, k, h1, _⟩ | h
        · exact absurd (by rw [h1]) (hd z hz)
        · simp [look] at h
    · simp only [ht, if_false]
def pendF (stable : Bool) (p : Nat × Oper × AV) (pend : Pend) : Pend := match stable with
  | true => pend
  | false => p :: pend
theorem aTl_first {i : Nat} {oi : Oper} {y : AV} (stable : Bool) (hi : ops[i]? = some oi) (hown : ∀ d, oi.dst = some d → d ∉ oi.looksAt ops) (hdi : dstB N oi.dst = true) :
    ∀ (n : Nat) (A : Als) (listed : Array Bool) (pend : Pend) (s : Sl) (η : List Ent),
      (∀ j oj, ops[j]? = some oj → j ≠ i → listed.getD j true = false → (∀ e ∈ oj.after, Region.binds .any e = true → e.on ≠ i) → oi.apart ops oj = true) →
      (∀ p ∈ pend, ∀ d, oi.dst = some d → d ∉ p.2.1.looksAt ops) → PendOk C N ops pend s η → mOf ops i A = [] → (∀ p ∈ A, oi.dst ≠ some p.2.1 ∧ p.2.1 ∉ oi.looksAt ops) →
      i ∈ Region.ready .any ops listed → Val C N ops oi s η y → (stable = true → ∀ η', Val C N ops oi s η' y) →
      aTl C N ops Qn Qp n A (listed.setIfInBounds i true) (pendF stable (i, oi, y) pend) (setS s oi.dst (some y)) η → aTl C N ops Qn Qp (n + 1) A listed pend s η := by
  intro n
  have same : ∀ (n : Nat) (A : Als) (listed : Array Bool) (pend : Pend) (s : Sl) (η : List Ent), mOf ops i A = [] → Val C N ops oi s η y → aTl C N ops Qn Qp n A (listed.setIfInBounds i true) (pendF stable (i, oi, y) pend) (setS s oi.dst (some y)) η →
      allB (nus (mOf ops i A)) fun zs => StpT C N ops oi (ups η.length zs s) (η ++ nuEnts zs) (aTl C N ops Qn Qp n (mNot ops i A) (listed.setIfInBounds i true) (keepP ops i pend)) Qp := by
    intro n A listed pend s η hm hv H
    refine allB_none (P := fun s η => StpT C N ops oi s η (aTl C N ops Qn Qp n (mNot ops i A) (listed.setIfInBounds i true) (keepP ops i pend)) Qp) hm ?_
    rw [mNot_all hm]
    refine hv.step hdi (aTl_sub (fun p hp => ?_) H)
    simp only [keepP, List.mem_filter] at hp
    cases stable with
    | true => exact hp.1
    | false => exact List.mem_cons_of_mem _ hp.1
  induction n with
  | zero =>
    intro A listed pend s η hfree hpd hpo hm hAd hr hv hstb H
    refine ⟨hpo, fun h => (by rw [h] at hr; cases hr), fun j hj => ?_⟩
    by_cases hji : j = i
    · subst hji
      exact ⟨oi, hi, same 0 A listed pend s η hm hv H⟩
    · exfalso
      have := ready_mono hj hji
      rw [H.2.1] at this
      cases this
  | succ n ih =>
    intro A listed pend s η hfree hpd hpo hm hAd hr hv hstb H
    refine ⟨hpo, fun h => (by rw [h] at hr; cases hr), fun j hj => ?_⟩
    by_cases hji : j = i
    · subst hji
      exact ⟨oi, hi, same (n + 1) A listed pend s η hm hv H⟩
    · obtain ⟨oj, hoj, hst⟩ := H.2.2 j (ready_mono hj hji)
      obtain ⟨hjun, oj', hoj', hall⟩ := mem_ready.1 hj
      rw [hoj] at hoj'; cases hoj'
      have hnot : ∀ e ∈ oj.after, Region.binds .any e = true → e.on ≠ i := fun e he hb heq => by
        have h1 := hall e he hb
        have h0 := (mem_ready.1 hr).1
        rw [heq] at h1
        rcases Nat.lt_or_ge i listed.size with h' | h'
        · simp [h'] at h0 h1; rw [h0] at h1; cases h1
        · simp [Array.getElem?_eq_none h'] at h1
      have hb1 : behind1 ops i j = false := by
        unfold behind1
        rw [hoj]
        simp only [List.any_eq_false, Bool.not_eq_true, Bool.and_eq_false_iff]
        intro q hq
        cases hb : Region.binds .any q with
        | false => exact .inl rfl
        | true => exact .inr (by simpa using hnot _ (by simpa using hq) hb)
      obtain ⟨a1, a2, a3⟩ := Oper.apart_spec (hfree j oj hoj hji hjun hnot)
      refine ⟨oj, hoj, allB_imp hst fun zs hz hst => ?_⟩
      have hzA : ∀ z ∈ zs, ∃ p ∈ A, p.2.1 = z.1.1 := fun z hzm => by
        have : z.1 ∈ nus (mOf ops j A) := by rw [← hz]; exact List.mem_map.2 ⟨z, hzm, rfl⟩
        simp only [nus, mOf, List.mem_map, List.mem_filter] at this
        obtain ⟨p, hp, he⟩ := this
        exact ⟨p, hp.1, by rw [he]⟩
      have hzd : ∀ z ∈ zs, oi.dst ≠ some z.1.1 := fun z hzm => by
        obtain ⟨p, hp, he⟩ := hzA z hzm; rw [← he]; exact (hAd p hp).1
      rw [ups_set hzd] at hst
      have hui : ∀ t ∈ oi.looksAt ops, ups η.length zs s t = s t := fun t ht => by
        simp only [ups]
        cases hl : look (revs η.length zs) t with
        | none => rfl
        | some x =>
          have : look (revs η.length zs ++ []) t = some x := by simpa using hl
          rcases look_revs this with ⟨z, hzm, k, h1, _⟩ | h
          · obtain ⟨p, hp, he⟩ := hzA z hzm
            exact absurd (by rw [he, ← h1]; exact ht) (hAd p hp).2
          · simp [look] at h
      have hvst : stable = true → ∀ η', Val C N ops oi (ups η.length zs s) η' y := fun hs η' => (hstb hs η').congr hui
      generalize ups η.length zs s = s1 at hst hvst ⊢
      generalize η ++ nuEnts zs = η1 at hst ⊢
      have hs1 : ∀ t ∈ oj.looksAt ops, s1 t = setS s1 oi.dst (some y) t := fun t ht => (setS_other fun d hd he => a1 d hd (he ▸ ht)).symm
      have hnext : ∀ x η', aTl C N ops Qn Qp n (mNot ops j A) ((listed.setIfInBounds i true).setIfInBounds j true) (keepP ops j (pendF stable (i, oi, y) pend)) (setS (setS s1 oi.dst (some y)) oj.dst (some x)) η' →
          aTl C N ops Qn Qp (n + 1) (mNot ops j A) (listed.setIfInBounds j true) (keepP ops j pend) (setS s1 oj.dst (some x)) η' := by
        intro x η' hk
        have hkp : keepP ops j (pendF stable (i, oi, y) pend) = pendF stable (i, oi, y) (keepP ops j pend) := by
          cases stable with
          | true => rfl
          | false => simp [keepP, pendF, hb1]
        rw [hkp] at hk
        have hpo' := aTl_pend hk
        have hcongr : ∀ (o : Oper), (∀ d, oi.dst = some d → d ∉ o.looksAt ops) → ∀ t ∈ o.looksAt ops, setS s1 oj.dst (some x) t = setS (setS s1 oi.dst (some y)) oj.dst (some x) t := by
          intro o ho t ht
          cases hdj : oj.dst with
          | none => exact (setS_other fun d hd he => ho d hd (he ▸ ht)).symm
          | some e =>
            simp only [setS]
            split
            · rfl
            · exact (setS_other fun d hd he => ho d hd (he ▸ ht)).symm
        have hstab2 : stable = true → ∀ η', Val C N ops oi (setS s1 oj.dst (some x)) η' y := fun hs η' => (hvst hs η').congr fun t ht => setS_other fun d hd he => a3 d hd (he ▸ ht)
        refine ih _ _ _ _ _ ?_ (fun p hp => hpd p (by simp only [keepP, List.mem_filter] at hp; exact hp.1)) (fun p hp => ?_) (mOf_sub hm) (fun p hp => hAd p (List.mem_filter.1 hp).1) (ready_mono hr (Ne.symm hji)) ?_ hstab2 ?_
        · intro k ok hk' hki hun hno
          refine hfree k ok hk' hki ?_ hno
          by_cases hjk : j = k
          · subst hjk; exact hjun
          · rw [getD_set_ne true hjk] at hun; exact hun
        · refine (hpo' p ?_).congr (hcongr p.2.1 (hpd p (by simp only [keepP, List.mem_filter] at hp; exact hp.1)))
          cases stable with
          | true => exact hp
          | false => exact List.mem_cons_of_mem _ hp
        · cases hsb : stable with
          | true => exact hstab2 hsb η'
          | false =>
            subst hsb
            exact (hpo' (i, oi, y) (by simp [pendF])).congr (hcongr oi hown)
        · rw [Array.setIfInBounds_comm _ _ hji, ← setS_comm s1 (some y) (some x) a2]
          exact hk
      refine ⟨hst.1, ?_⟩
      rcases hst.2 with ⟨h1, R, h2, h3, h4⟩ | ⟨h1, h2⟩
      · refine .inl ⟨by rw [wantedA_congr hs1]; exact h1, R, h2.congr fun t ht => hs1 t (tmpsOf_looks ht), fun x η' hR => hnext x η' (h3 x η' hR), h4⟩
      · exact .inr ⟨by rw [wantedA_congr hs1]; exact h1, hnext _ _ h2⟩
inductive TK where
  | one
  | fl
  | two
def tLex (C : Cx) (N : Nat) (ops : Array Oper) (Qn : Sl → List Ent → Prop) (Qp : AV → List Ent → Prop) : List (Nat × Oper × TK) → Als → Pend → Sl → List Ent → Prop
  | [], _, pend, s, η => PendOk C N ops pend s η ∧ Qn s η
  | (i, o, .fl) :: r, A, pend, s, η => PendOk C N ops pend s η ∧ dstB N o.dst = true ∧ ∃ y, (Val C N ops o s η y ∧ tLex C N ops Qn Qp r A ((i, o, y) :: pend) (setS s o.dst (some y)) η) ∨ ((∀ η', Val C N ops o s η' y) ∧ tLex C N ops Qn Qp r A pend (setS s o.dst (some y)) η)
  | (i, o, .one) :: r, A, pend, s, η => PendOk C N ops pend s η ∧ allB (nus (mOf ops i A)) fun zs => StpT C N ops o (ups η.length zs s) (η ++ nuEnts zs) (tLex C N ops Qn Qp r (mNot ops i A) (keepP ops i pend)) Qp
  | [(_, _, .two)], _, _, _, _ => False
  | (i, o, .two) :: (j, o', _) :: r, A, pend, s, η => PendOk C N ops pend s η ∧ StpT C N ops o s η (fun s1 η1 => PendOk C N ops (keepP ops i pend) s1 η1 ∧ StpT C N ops o' s1 η1 (tLex C N ops Qn Qp r A (keepP ops j (keepP ops i pend))) Qp) Qp ∧
      StpT C N ops o' s η (fun s1 η1 => PendOk C N ops (keepP ops j pend) s1 η1 ∧ StpT C N ops o s1 η1 (tLex C N ops Qn Qp r A (keepP ops j (keepP ops i pend))) Qp) Qp
def disjB (ops : Array Oper) (dst : Option Nat) (o : Oper) : Bool := match dst with
  | none => true
  | some d => !(o.looksAt ops).contains d
def dstNe (dst : Option Nat) (d : Nat) : Bool := match dst with
  | none => true
  | some e => !Nat.beq e d
def tailF (ops : Array Oper) : List (Nat × Oper × TK) → Array Bool → List (Nat × Oper) → List (Nat × Nat) → Bool
  | [], listed, _, _ => (Region.ready .any ops listed).isEmpty
  | (i, o, .fl) :: r, listed, pi, al => (match ops[i]? with
      | some _ => true
      | none => false) && (Region.ready .any ops listed).contains i && Region.free .any ops listed i && disjB ops o.dst o && (pi.all fun p => disjB ops o.dst p.2) && (al.all fun a => !behind1 ops a.1 i && dstNe o.dst a.2 && !(o.looksAt ops).contains a.2) && tailF ops r (listed.setIfInBounds i true) ((i, o) :: pi) al
  | (i, _, .one) :: r, listed, pi, al => decide (Region.ready .any ops listed = [i]) && tailF ops r (listed.setIfInBounds i true) (pi.filter fun p => !behind1 ops p.1 i) (al.filter fun a => !behind1 ops a.1 i)
  | [(_, _, .two)], _, _, _ => false
  | (i, _, .two) :: (j, _, _) :: r, listed, pi, al => decide (i ≠ j) && (Region.ready .any ops listed).all (fun k => Nat.beq k i || Nat.beq k j) && (Region.ready .any ops listed).contains i && decide (Region.ready .any ops (listed.setIfInBounds i true) = [j]) && decide (Region.ready .any ops (listed.setIfInBounds j true) = [i]) &&
      (al.all fun a => !behind1 ops a.1 i && !behind1 ops a.1 j) && tailF ops r ((listed.setIfInBounds i true).setIfInBounds j true) ((pi.filter fun p => !behind1 ops p.1 i).filter fun p => !behind1 ops p.1 j) al
def pickT1 (ops : Array Oper) : List (Nat × TK) → List (Nat × Oper × TK)
  | [] => []
  | (i, b) :: r => match ops[i]? with
    | some o => (i, o, b) :: pickT1 ops r
    | none => pickT1 ops r
theorem pickT1_get : ∀ {l : List (Nat × TK)} {p : Nat × Oper × TK}, p ∈ pickT1 ops l → ops[p.1]? = some p.2.1
  | [], _, h => by simp [pickT1] at h
  | (i, b) :: r, p, h => by
    simp only [pickT1] at h
    split at h
    · rename_i o ho
      rcases List.mem_cons.1 h with rfl | h
      · exact ho
      · exact pickT1_get h
    · exact pickT1_get h
theorem dstNe_spec {dst : Option Nat} {d : Nat} (h : dstNe dst d = true) : dst ≠ some d := by
  intro e; subst e; simp [dstNe] at h
theorem mOf_none {A : Als} {i : Nat} (h : ∀ p ∈ A, behind1 ops p.1 i = false) : mOf ops i A = [] := by
  simp only [mOf, List.filter_eq_nil_iff]
  intro p hp; rw [h p hp]; simp
theorem aTl_lex : ∀ (l : List (Nat × Oper × TK)) (A : Als) (listed : Array Bool) (pend : Pend) (pi : List (Nat × Oper)) (s : Sl) (η : List Ent), (∀ p ∈ l, ops[p.1]? = some p.2.1) → (∀ p ∈ pend, (p.1, p.2.1) ∈ pi) → tailF ops l listed pi (A.map fun p => (p.1, p.2.1)) = true →
    tLex C N ops Qn Qp l A pend s η → aTl C N ops Qn Qp l.length A listed pend s η
  | [], A, listed, pend, pi, s, η, _, _, hB, h => ⟨h.1, by simpa [tailF] using hB, h.2⟩
  | (i, o, .fl) :: r, A, listed, pend, pi, s, η, hg, hpi, hB, h => by
    simp only [tailF, Bool.and_eq_true] at hB
    obtain ⟨⟨⟨⟨⟨⟨_, h1⟩, h2⟩, h3⟩, h4⟩, h6⟩, h5⟩ := hB
    have hi := hg (i, o, .fl) (by simp)
    simp only at hi
    obtain ⟨hpo, hd, y, hk⟩ := h
    have hdis : ∀ (o' : Oper), disjB ops o.dst o' = true → ∀ d, o.dst = some d → d ∉ o'.looksAt ops := by
      intro o' ho' d hd
      simp only [disjB, hd] at ho'
      simpa using ho'
    simp only [List.all_eq_true, List.mem_map, Bool.and_eq_true, Bool.not_eq_true'] at h6
    have hm : mOf ops i A = [] := mOf_none fun p hp => (h6 (p.1, p.2.1) ⟨p, hp, rfl⟩).1.1
    have hAd : ∀ p ∈ A, o.dst ≠ some p.2.1 ∧ p.2.1 ∉ o.looksAt ops := fun p hp => by
      have := h6 (p.1, p.2.1) ⟨p, hp, rfl⟩
      exact ⟨dstNe_spec this.1.2, by simpa using this.2⟩
    have hpd : ∀ p ∈ pend, ∀ d, o.dst = some d → d ∉ p.2.1.looksAt ops := fun p hp => by
      refine hdis p.2.1 ?_
      simp only [List.all_eq_true] at h4
      exact h4 (p.1, p.2.1) (hpi p hp)
    have hfr : ∀ j oj, ops[j]? = some oj → j ≠ i → listed.getD j true = false → (∀ e ∈ oj.after, Region.binds .any e = true → e.on ≠ i) → o.apart ops oj = true := fun j oj hj hne hun hno => Region.free_spec hi h2 j oj hj hne hun hno
    rcases hk with ⟨hv, hk⟩ | ⟨hv, hk⟩
    · refine aTl_first false hi (hdis o h3) hd r.length A listed pend s η hfr hpd hpo hm hAd (by simpa using h1) hv (fun e => by cases e) ?_
      refine aTl_lex r A _ _ ((i, o) :: pi) _ _ (fun p hp => hg p (by simp [hp])) (fun p hp => ?_) h5 hk
      rcases List.mem_cons.1 hp with rfl | hp
      · simp
      · exact List.mem_cons_of_mem _ (hpi p hp)
    · refine aTl_first true hi (hdis o h3) hd r.length A listed pend s η hfr hpd hpo hm hAd (by simpa using h1) (hv η) (fun _ => hv) ?_
      exact aTl_lex r A _ _ ((i, o) :: pi) _ _ (fun p hp => hg p (by simp [hp])) (fun p hp => List.mem_cons_of_mem _ (hpi p hp)) h5 hk
  | (i, o, .one) :: r, A, listed, pend, pi, s, η, hg, hpi, hB, h => by
    simp only [tailF, Bool.and_eq_true, decide_eq_true_eq] at hB
    refine ⟨h.1, fun h0 => (by rw [h0] at hB; cases hB.1), fun j hj => ?_⟩
    rw [hB.1, List.mem_singleton] at hj
    subst hj
    have hi := hg (j, o, .one) (by simp)
    refine ⟨o, hi, allB_imp h.2 fun zs _ hst => hst.mono fun s' η' hk => ?_⟩
    refine aTl_lex r _ _ _ (pi.filter fun p => !behind1 ops p.1 j) _ _ (fun p hp => hg p (by simp [hp])) (fun p hp => ?_) ?_ hk
    · simp only [keepP, List.mem_filter] at hp ⊢
      exact ⟨hpi p hp.1, hp.2⟩
    · have : (mNot ops j A).map (fun p => (p.1, p.2.1)) = (A.map fun p => (p.1, p.2.1)).filter fun p => !behind1 ops p.1 j := by
        simp [mNot, List.filter_map, Function.comp_def]
      rw [this]; exact hB.2
  | [(_, _, .two)], _, _, _, _, _, _, _, _, hB, _ => by simp [tailF] at hB
  | (i, o, .two) :: (j, o', x) :: r, A, listed, pend, pi, s, η, hg, hpi, hB, h => by
    simp only [tailF, Bool.and_eq_true, decide_eq_true_eq] at hB
    obtain ⟨⟨⟨⟨⟨⟨hne, hall⟩, hin⟩, hj⟩, hi⟩, hal⟩, hr⟩ := hB
    have gi := hg (i, o, .two) (by simp)
    have gj := hg (j, o', x) (by simp)
    simp only at gi gj
    simp only [List.all_eq_true, List.mem_map, Bool.and_eq_true, Bool.not_eq_true'] at hal
    have hmi : mOf ops i A = [] := mOf_none fun p hp => (hal (p.1, p.2.1) ⟨p, hp, rfl⟩).1
    have hmj : mOf ops j A = [] := mOf_none fun p hp => (hal (p.1, p.2.1) ⟨p, hp, rfl⟩).2
    obtain ⟨hpo, h1, h2⟩ := h
    have fin : ∀ s' η', tLex C N ops Qn Qp r A (keepP ops j (keepP ops i pend)) s' η' → aTl C N ops Qn Qp r.length A ((listed.setIfInBounds i true).setIfInBounds j true) (keepP ops j (keepP ops i pend)) s' η' := fun s' η' hk => by
      refine aTl_lex r A _ _ ((pi.filter fun p => !behind1 ops p.1 i).filter fun p => !behind1 ops p.1 j) _ _ (fun p hp => hg p (by simp [hp])) (fun p hp => ?_) hr hk
      simp only [keepP, List.mem_filter] at hp ⊢
      exact ⟨⟨hpi p hp.1.1, hp.1.2⟩, hp.2⟩
    have hcomm : keepP ops i (keepP ops j pend) = keepP ops j (keepP ops i pend) := by
      simp only [keepP, List.filter_filter, Bool.and_comm]
    refine ⟨hpo, fun h0 => (by rw [h0] at hin; simp at hin), fun k hk => ?_⟩
    simp only [List.all_eq_true, Bool.or_eq_true] at hall
    rcases hall k hk with hk' | hk'
    · have hk' := Nat.eq_of_beq_eq_true hk'
      subst hk'
      refine ⟨o, gi, allB_none (P := fun s η => StpT C N ops o s η (aTl C N ops Qn Qp (r.length + 1) (mNot ops k A) (listed.setIfInBounds k true) (keepP ops k pend)) Qp) hmi ?_⟩
      rw [mNot_all hmi]
      refine h1.mono fun s1 η1 hs1 => ⟨hs1.1, fun h0 => (by rw [h0] at hj; cases hj), fun q hq => ?_⟩
      rw [hj, List.mem_singleton] at hq
      subst hq
      refine ⟨o', gj, allB_none (P := fun s η => StpT C N ops o' s η (aTl C N ops Qn Qp r.length (mNot ops q A) ((listed.setIfInBounds k true).setIfInBounds q true) (keepP ops q (keepP ops k pend))) Qp) hmj ?_⟩
      rw [mNot_all hmj]
      exact hs1.2.mono fin
    · have hk' := Nat.eq_of_beq_eq_true hk'
      subst hk'
      refine ⟨o', gj, allB_none (P := fun s η => StpT C N ops o' s η (aTl C N ops Qn Qp (r.length + 1) (mNot ops k A) (listed.setIfInBounds k true) (keepP ops k pend)) Qp) hmj ?_⟩
      rw [mNot_all hmj]
      refine h2.mono fun s1 η1 hs1 => ⟨hs1.1, fun h0 => (by rw [h0] at hi; cases hi), fun q hq => ?_⟩
      rw [hi, List.mem_singleton] at hq
      subst hq
      refine ⟨o, gi, allB_none (P := fun s η => StpT C N ops o s η (aTl C N ops Qn Qp r.length (mNot ops q A) ((listed.setIfInBounds k true).setIfInBounds q true) (keepP ops q (keepP ops k pend))) Qp) hmi ?_⟩
      rw [mNot_all hmi]
      refine hs1.2.mono fun s' η' hk' => ?_
      rw [hcomm, Array.setIfInBounds_comm _ _ (Ne.symm hne)]
      exact fin s' η' hk'
end
end Go.Bw
