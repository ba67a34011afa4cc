/-
  Own work. The program logic, ninth part: regions whose order is open. First come operations that yield values and make memory (told of in one order, carried out in any), then a tail in a fixed order, but for values that float.
-/
import Derived.Test.YtcngmkedekmkhaaGreatB8
import Derived.Deep.Quiet
noncomputable section
namespace Go.Bw
open Go
def tmpsOf (o : Oper) : List Nat := o.op.operands.toList.filterMap fun | .tmp t => some t | _ => none
def upd (s : Sl) (dst : Option Nat) (x : AV) : Sl := match dst with
  | none => s
  | some d => fun t => if t = d then some x else s t
def Cls (w : World) (w' : World) : Prop := w'.os = w.os ∧ w'.tape = w.tape ∧ w'.output = w.output ∧ Later w w'
theorem Cls.refl (w : World) : Cls w w := ⟨rfl, rfl, rfl, Later.refl w⟩
theorem Cls.ext {w w' : World} {η : List Ent} (h : Cls w w') : Ext η w η w' := ⟨h.1, h.2.1, h.2.2.1, h.2.2.2.1, fun b hb _ => h.2.2.2.2 b hb, fun _ hb => .inl hb⟩
theorem Cls.trans {w w' w'' : World} (h : Cls w w') (g : Cls w' w'') : Cls w w'' :=
  ⟨g.1.trans h.1, g.2.1.trans h.2.1, g.2.2.1.trans h.2.2.1, Nat.le_trans h.2.2.2.1 g.2.2.2.1, fun b hb => (g.2.2.2.2 b (Nat.lt_of_lt_of_le hb h.2.2.2.1)).trans (h.2.2.2.2 b hb)⟩
def OpdOk (w : World) (A : Nat → Prop) (N : Nat) (a : Act) (o : Oper) (s : Sl) : Prop := ∀ t ∈ tmpsOf o, ∀ y, s t = some y → t < N ∧ Rel w A y (a.tmps.getD t undef)
def OpP (C : Cx) (N : Nat) (o : Oper) (s : Sl) (η : List Ent) (x : AV) : Prop :=
  ∀ F w (a : Act), a.tmps.size = N → a.defers = [] → HOk C.G w F η → OpdOk w (Al F η) N a o s → ∀ (K : Act → World → Prop) (Q : Exit → Act → World → Prop),
    (∀ v w', Rel w' (Al F η) x v → Cls w w' → K (a.put o.dst v) w') → o.wp C.P a w K Q
def OpN (C : Cx) (N : Nat) (o : Oper) (s : Sl) (η : List Ent) (cells : List AV) : Prop :=
  ∀ F w (a : Act), a.tmps.size = N → a.defers = [] → HOk C.G w F η → OpdOk w (Al F η) N a o s → ∀ (K : Act → World → Prop) (Q : Exit → Act → World → Prop),
    (∀ vs e, RelL w (Al F η) cells vs → K (a.put o.dst (.pointer (some ⟨w.heap.size, 0, none⟩))) (w.alloc (.cells (List.toArray vs) e))) → o.wp C.P a w K Q
section
variable {C : Cx} {N : Nat} {o : Oper} {s s' : Sl} {η η' : List Ent} {x : AV} {R : AV → List Ent → Prop}
theorem OpdOk.congr {w : World} {A : Nat → Prop} {a : Act} (h : OpdOk w A N a o s') (he : ∀ t ∈ tmpsOf o, s' t = s t) : OpdOk w A N a o s := fun t ht y hy => h t ht y (by rw [he t ht]; exact hy)
theorem OpP.congr (h : OpP C N o s η x) (he : ∀ t ∈ tmpsOf o, s' t = s t) : OpP C N o s' η x := fun F w a h1 h2 h3 h4 => h F w a h1 h2 h3 (h4.congr he)
theorem OpN.congr {cells : List AV} (h : OpN C N o s η cells) (he : ∀ t ∈ tmpsOf o, s' t = s t) : OpN C N o s' η cells := fun F w a h1 h2 h3 h4 => h F w a h1 h2 h3 (h4.congr he)
theorem HOk.later {G : Gl} {w w' : World} {F : Nat → Prop} {η : List Ent} (h : HOk G w F η) (hl : Later w w') : HOk G w' F η := by
  have hk : Keeps w (Al F η) w' (Al F η) := ⟨hl.1, fun b hb ha => ⟨ha, hl.2 b hb⟩⟩
  exact ⟨fun x hx => (h.ents x hx).keep hk (fun b hb => hl.2 b ((h.ents x hx).lt b hb)), h.nodup, h.free, fun b hb => Nat.lt_of_lt_of_le (h.bound b hb) hl.1, h.glob.keep hk⟩
end
def wantedA (ops : Array Oper) (o : Oper) (s : Sl) : Option Bool := match o.guard with
  | none => some true
  | some (j, want) => match (ops[j]?).bind (·.dst) with
    | none => some false
    | some d => match s d with
      | some (.v (.bool b)) => some (b == want)
      | some (.v (.tuple _)) => some false
      | _ => none
abbrev DSt := Sl × List (Nat × List AV)
abbrev Nu := List (Nat × List AV)
def nuEnts (zs : List ((Nat × List AV) × Nat)) : List Ent := zs.map fun z => .box z.2 z.1.2
structure DOk (G : Gl) (N : Nat) (F : Nat → Prop) (η : List Ent) (w0 w : World) (a : Act) (st : DSt) (zs : List ((Nat × List AV) × Nat)) : Prop where
  size : a.tmps.size = N
  df : a.defers = []
  eq : zs.map (·.1) = st.2
  hp : HOk G w F (η ++ nuEnts zs)
  sl : ∀ t x, st.1 t = some x → t < N ∧ Rel w (Al F (η ++ nuEnts zs)) x (a.tmps.getD t undef)
  nu : ∀ z ∈ zs, z.1.1 < N ∧ a.tmps.getD z.1.1 undef = .pointer (some ⟨z.2, 0, none⟩)
  cls : Cls w0 w
  new : ∀ z ∈ zs, w0.heap.size ≤ z.2
theorem perm_map_back {α β : Type} (f : α → β) {ν ν' : List β} (h : ν.Perm ν') : ∀ zs : List α, zs.map f = ν → ∃ zs', zs.Perm zs' ∧ zs'.map f = ν' := by
  induction h with
  | nil => intro zs h; exact ⟨zs, .refl _, h⟩
  | cons x _ ih =>
    intro zs h
    cases zs with
    | nil => cases h
    | cons z zs =>
      simp only [List.map_cons, List.cons.injEq] at h
      obtain ⟨zs', h1, h2⟩ := ih zs h.2
      exact ⟨z :: zs', h1.cons z, by simp [h.1, h2]⟩
  | swap x y l =>
    intro zs h
    match zs, h with
    | z1 :: z2 :: zs, h =>
      simp only [List.map_cons, List.cons.injEq] at h
      exact ⟨z2 :: z1 :: zs, .swap _ _ _, by simp [h.1, h.2.1, h.2.2]⟩
  | trans _ _ ih1 ih2 =>
    intro zs h
    obtain ⟨z1, h1, h2⟩ := ih1 zs h
    obtain ⟨z2, h3, h4⟩ := ih2 z1 h2
    exact ⟨z2, h1.trans h3, h4⟩
theorem ids_perm {l r : List Ent} (h : l.Perm r) : (ids l).Perm (ids r) := h.flatMap_right _
theorem Al_perm {F : Nat → Prop} {l r : List Ent} (h : l.Perm r) : Al F l = Al F r := funext fun b => propext (by unfold Al; rw [(ids_perm h).mem_iff])
theorem HOk.perm {G : Gl} {w : World} {F : Nat → Prop} {l r : List Ent} (hp : l.Perm r) (h : HOk G w F l) : HOk G w F r :=
  ⟨fun x hx => by rw [← Al_perm hp]; exact h.ents x (hp.mem_iff.2 hx), (ids_perm hp).nodup_iff.1 h.nodup, fun b hb => h.free b ((ids_perm hp).mem_iff.2 hb), h.bound, by rw [← Al_perm hp]; exact h.glob⟩
theorem DOk.perm {G : Gl} {N : Nat} {F : Nat → Prop} {η : List Ent} {w0 w : World} {a : Act} {s : Sl} {ν ν' : Nu} {zs : List ((Nat × List AV) × Nat)} (h : DOk G N F η w0 w a (s, ν) zs) (hp : ν.Perm ν') :
    ∃ zs', DOk G N F η w0 w a (s, ν') zs' := by
  obtain ⟨zs', h1, h2⟩ := perm_map_back (·.1) hp zs h.eq
  have he : (η ++ nuEnts zs).Perm (η ++ nuEnts zs') := (h1.map _).append_left η
  exact ⟨zs', h.size, h.df, h2, h.hp.perm he, fun t x hx => by rw [← Al_perm he]; exact h.sl t x hx, fun z hz => h.nu z (h1.mem_iff.2 hz), h.cls, fun z hz => h.new z (h1.mem_iff.2 hz)⟩
def fwd (i : Nat) : List Oper → List Bool → List Bool
  | [], m => m
  | o :: r, m => fwd i r (m ++ [o.after.any fun e => Region.binds .any e && (Nat.beq e.on i || m.getD e.on false)])
def reach (ops : Array Oper) (_ : Nat) (i j : Nat) : Bool := (fwd i ops.toList []).getD j false
def Closed (ops : Array Oper) (listed : Array Bool) : Prop := ∀ j o, ops[j]? = some o → listed.getD j false = true → ∀ e ∈ o.after, Region.binds .any e = true → listed.getD e.on false = true
theorem getD_ge {l : List Bool} {j : Nat} (h : l.length ≤ j) : l.getD j false = false := by simp [List.getD, List.getElem?_eq_none h]
theorem fwd_listed {ops : Array Oper} {listed : Array Bool} (hc : Closed ops listed) {i : Nat} : ∀ (l : List Oper) (m : List Bool) (pre : List Oper), ops.toList = pre ++ l → m.length = pre.length →
    (∀ j, m.getD j false = true → ∀ o, ops[j]? = some o → (∀ e ∈ o.after, Region.binds .any e = true → listed.getD e.on false = true) → listed.getD i false = true) →
    ∀ j, (fwd i l m).getD j false = true → ∀ o, ops[j]? = some o → (∀ e ∈ o.after, Region.binds .any e = true → listed.getD e.on false = true) → listed.getD i false = true
  | [], _, _, _, _, h => h
  | x :: l, m, pre, hops, hlen, h => by
    refine fwd_listed hc l _ (pre ++ [x]) (by simp [hops]) (by simp [hlen]) fun j hj o ho he => ?_
    rcases Nat.lt_trichotomy j m.length with hlt | heq | hgt
    · exact h j (by simpa [List.getD, List.getElem?_append_left hlt] using hj) o ho he
    · subst heq
      have hx : ops[m.length]? = some x := by
        rw [← Array.getElem?_toList, hops, hlen]
        simp
      rw [hx] at ho; cases ho
      have hj : (x.after.any fun e => Region.binds .any e && (Nat.beq e.on i || m.getD e.on false)) = true := by
        simpa using hj
      obtain ⟨e, hem, hb⟩ := Array.any_eq_true'.1 hj
      simp only [Bool.and_eq_true, Bool.or_eq_true] at hb
      obtain ⟨hb, hb2⟩ := hb
      have hl := he e hem hb
      rcases hb2 with hb2 | hb2
      · rw [← Nat.eq_of_beq_eq_true hb2]; exact hl
      · have hlt : e.on < m.length := by
          rcases Nat.lt_or_ge e.on m.length with h1 | h1
          · exact h1
          · rw [getD_ge h1] at hb2; cases hb2
        have hs : e.on < ops.size := by
          rw [← Array.length_toList, hops, List.length_append]; omega
        exact h e.on hb2 ops[e.on] (by simp [hs]) fun e' he' hb' => hc e.on ops[e.on] (by simp [hs]) hl e' he' hb'
    · rw [getD_ge (by simp; omega)] at hj; cases hj
theorem reach_listed {ops : Array Oper} {listed : Array Bool} (hc : Closed ops listed) (n i j : Nat) (h : reach ops n i j = true) (hj : ∀ o, ops[j]? = some o → ∀ e ∈ o.after, Region.binds .any e = true → listed.getD e.on false = true) : listed.getD i false = true := by
  unfold reach at h
  cases ho : ops[j]? with
  | none =>
    have hlen : ∀ (l : List Oper) (m : List Bool), (fwd i l m).length = m.length + l.length := by
      intro l
      induction l with
      | nil => intro m; simp [fwd]
      | cons x l ih => intro m; simp [fwd, ih]; omega
    have hge : ops.size ≤ j := by simpa using ho
    rw [getD_ge (by rw [hlen]; simp; omega)] at h
    cases h
  | some o => exact fwd_listed hc ops.toList [] [] rfl rfl (fun j hj => by simp at hj) j h o ho (hj o ho)
theorem Closed.set {ops : Array Oper} {listed : Array Bool} {i : Nat} (hc : Closed ops listed) (hr : i ∈ Region.ready .any ops listed) : Closed ops (listed.setIfInBounds i true) := by
  intro j o ho hl e he hb
  by_cases hji : j = i
  · subst hji
    obtain ⟨_, o', ho', hall⟩ := mem_ready.1 hr
    rw [ho] at ho'; cases ho'
    exact getD_set_true (hall e he hb)
  · rw [getD_set_ne false (Ne.symm hji)] at hl
    exact getD_set_true (hc j o ho hl e he hb)
def pickOps (ops : Array Oper) : List Nat → List Oper
  | [] => []
  | i :: r => match ops[i]? with
    | some o => o :: pickOps ops r
    | none => pickOps ops r
section
variable {P : Program} {ops : Array Oper} {Q : Exit → Act → World → Prop}
end
def Cut (C : Cx) (N : Nat) (ops : Array Oper) (η : List Ent) (Q' : (Nat → Prop) → World → Exit → Act → World → Prop) (fuel : Nat) (listed : Array Bool) (st : DSt) : Prop :=
  ∀ F w0 w a zs, DOk C.G N F η w0 w a st zs → wpAny C.P .any ops (Q' F w0) fuel listed a w
def setS (s : Sl) (dst : Option Nat) (x : Option AV) : Sl := match dst with
  | none => s
  | some d => fun t => if t = d then x else s t
def Stp (C : Cx) (N : Nat) (η : List Ent) (ops : Array Oper) (o : Oper) (s : Sl) (x : Option AV) (δ : Nu) : Prop :=
  dstB N o.dst = true ∧ ((wantedA ops o s = some true ∧ ((∃ y, OpP C N o s η y ∧ x = some y ∧ δ = []) ∨ ∃ d cells, o.dst = some d ∧ OpN C N o s η cells ∧ x = none ∧ δ = [(d, cells)])) ∨
    (wantedA ops o s = some false ∧ x = some (.v undef) ∧ δ = []))
def fresh (o : Oper) (ν : Nu) : Prop := ∀ d, o.dst = some d → ∀ p ∈ ν, p.1 ≠ d
def aAny (C : Cx) (N : Nat) (η : List Ent) (ops : Array Oper) (Q' : (Nat → Prop) → World → Exit → Act → World → Prop) (m : Nat) : Nat → Array Bool → DSt → Prop
  | 0, listed, st => Cut C N ops η Q' m listed st
  | n + 1, listed, st => Region.ready .any ops listed ≠ [] ∧ ∀ i ∈ Region.ready .any ops listed, ∃ o x δ, ops[i]? = some o ∧ fresh o st.2 ∧ Stp C N η ops o st.1 x δ ∧
      aAny C N η ops Q' m n (listed.setIfInBounds i true) (setS st.1 o.dst x, st.2 ++ δ)
section
variable {C : Cx} {N : Nat} {η : List Ent} {ops : Array Oper} {Q' : (Nat → Prop) → World → Exit → Act → World → Prop} {m : Nat}
theorem setS_other {s : Sl} {dst : Option Nat} {x : Option AV} {t : Nat} (h : ∀ d, dst = some d → t ≠ d) : setS s dst x t = s t := by
  cases dst with
  | none => rfl
  | some d => simp [setS, h d rfl]
theorem setS_comm (s : Sl) {x y : Option Nat} (u v : Option AV) (h : ∀ d, x = some d → y ≠ some d) : setS (setS s x u) y v = setS (setS s y v) x u := by
  cases x with
  | none => rfl
  | some d =>
    cases y with
    | none => rfl
    | some e =>
      have hne : e ≠ d := fun he => h d rfl (by rw [he])
      funext t
      simp only [setS]
      by_cases h1 : t = e
      · subst h1; simp [hne]
      · by_cases h2 : t = d
        · subst h2; simp [h1]
        · simp [h1, h2]
theorem tmpsOf_looks {o : Oper} {t : Nat} (h : t ∈ tmpsOf o) : t ∈ o.looksAt ops := List.mem_append_left _ h
theorem wantedA_congr {o : Oper} {s s' : Sl} (h : ∀ t ∈ o.looksAt ops, s' t = s t) : wantedA ops o s' = wantedA ops o s := by
  unfold wantedA
  cases hg : o.guard with
  | none => rfl
  | some p =>
    obtain ⟨j, want⟩ := p
    simp only
    cases hj : (ops[j]?).bind (·.dst) with
    | none => rfl
    | some d =>
      have hd : d ∈ o.looksAt ops := List.mem_append_right _ (by simp only [hg, hj]; simp)
      simp only [h d hd]
theorem Stp.congr {o : Oper} {s s' : Sl} {x : Option AV} {δ : Nu} (h : Stp C N η ops o s x δ) (he : ∀ t ∈ o.looksAt ops, s' t = s t) : Stp C N η ops o s' x δ := by
  refine ⟨h.1, ?_⟩
  rw [wantedA_congr he]
  have ht : ∀ t ∈ tmpsOf o, s' t = s t := fun t ht => he t (tmpsOf_looks ht)
  exact h.2.imp (fun ⟨h1, h2⟩ => ⟨h1, h2.imp (fun ⟨x, g1, g2⟩ => ⟨x, g1.congr ht, g2⟩) fun ⟨d, cs, g0, g1, g2⟩ => ⟨d, cs, g0, g1.congr ht, g2⟩⟩) id
theorem Stp.fst {o : Oper} {s : Sl} {x : Option AV} {δ : Nu} (h : Stp C N η ops o s x δ) : ∀ p ∈ δ, o.dst = some p.1 := by
  rcases h.2 with ⟨_, ⟨y, _, _, rfl⟩ | ⟨d, cs, h0, _, _, rfl⟩⟩ | ⟨_, _, rfl⟩
  · simp
  · simpa using h0
  · simp
theorem aAny_perm : ∀ (n : Nat) (listed : Array Bool) (s : Sl) (ν ν' : Nu), ν.Perm ν' → aAny C N η ops Q' m n listed (s, ν) → aAny C N η ops Q' m n listed (s, ν')
  | 0, listed, s, ν, ν', hp, h => fun F w0 w a zs hd => by
    obtain ⟨zs', hd'⟩ := hd.perm hp.symm
    exact h F w0 w a zs' hd'
  | n + 1, listed, s, ν, ν', hp, h => ⟨h.1, fun i hi => by
    obtain ⟨o, x, δ, h1, h2, h3, h4⟩ := h.2 i hi
    exact ⟨o, x, δ, h1, fun d hd p hpm => h2 d hd p (hp.mem_iff.2 hpm), h3, aAny_perm n _ _ _ _ (hp.append_right δ) h4⟩⟩
theorem aAny_first {i : Nat} {oi : Oper} {R : Nat} (hi : ops[i]? = some oi) :
    ∀ (n : Nat) (listed : Array Bool) (pre : List Nat) (st : DSt) (x : Option AV) (δ : Nu), pre.length = n + 1 → pre.Nodup → i ∈ pre → Closed ops listed →
      (∀ j oj, ops[j]? = some oj → j ≠ i → listed.getD j true = false → reach ops R i j = false → oi.apart ops oj = true ∧ j ∈ pre) →
      i ∈ Region.ready .any ops listed → fresh oi st.2 → Stp C N η ops oi st.1 x δ → aAny C N η ops Q' m n (listed.setIfInBounds i true) (setS st.1 oi.dst x, st.2 ++ δ) →
      aAny C N η ops Q' m (n + 1) listed st := by
  intro n
  induction n with
  | zero =>
    intro listed pre st x δ hl hnd hip hc hfree hr hf hs H
    refine ⟨fun h => (by rw [h] at hr; cases hr), fun j hj => ?_⟩
    by_cases hji : j = i
    · subst hji; exact ⟨oi, x, δ, hi, hf, hs, H⟩
    · exfalso
      obtain ⟨hjun, oj, hoj, hall⟩ := mem_ready.1 hj
      have hnr : reach ops R i j = false := by
        cases hre : reach ops R i j with
        | false => rfl
        | true =>
          have h1 := reach_listed hc R i j hre fun o ho e he hb => by rw [hoj] at ho; cases ho; exact hall e he hb
          have h0 := (mem_ready.1 hr).1
          rcases Nat.lt_or_ge i listed.size with h' | h'
          · simp [h'] at h0 h1; rw [h0] at h1; cases h1
          · simp [Array.getElem?_eq_none h'] at h1
      have hjp := (hfree j oj hoj hji hjun hnr).2
      match pre, hl, hip, hjp with
      | [p], _, hip, hjp => simp at hip hjp; exact hji (hjp.trans hip.symm)
  | succ n ih =>
    intro listed pre st x δ hl hnd hip hc hfree hr hf hs H
    refine ⟨fun h => (by rw [h] at hr; cases hr), fun j hj => ?_⟩
    by_cases hji : j = i
    · subst hji; exact ⟨oi, x, δ, hi, hf, hs, H⟩
    · obtain ⟨oj, y, ε, hoj, hfj, hsj, Hj⟩ := H.2 j (ready_mono hj hji)
      obtain ⟨hjun, oj', hoj', hall⟩ := mem_ready.1 hj
      rw [hoj] at hoj'; cases hoj'
      have hnr : reach ops R i j = false := by
        cases hre : reach ops R i j with
        | false => rfl
        | true =>
          have h1 := reach_listed hc R i j hre fun o ho e he hb => by rw [hoj] at ho; cases ho; exact hall e he hb
          have h0 := (mem_ready.1 hr).1
          rcases Nat.lt_or_ge i listed.size with h' | h'
          · simp [h'] at h0 h1; rw [h0] at h1; cases h1
          · simp [Array.getElem?_eq_none h'] at h1
      obtain ⟨hap, hjp⟩ := hfree j oj hoj hji hjun hnr
      obtain ⟨a1, a2, a3⟩ := Oper.apart_spec hap
      have hsj' : Stp C N η ops oj st.1 y ε := hsj.congr fun t ht => (setS_other fun d hd he => a1 d hd (he ▸ ht)).symm
      have hsi' : Stp C N η ops oi (setS st.1 oj.dst y) x δ := hs.congr fun t ht => setS_other fun d hd he => a3 d hd (he ▸ ht)
      refine ⟨oj, y, ε, hoj, fun d hd p hp => hfj d hd p (List.mem_append_left _ hp), hsj', ?_⟩
      refine ih (listed.setIfInBounds j true) (pre.erase j) (setS st.1 oj.dst y, st.2 ++ ε) x δ (by rw [List.length_erase_of_mem hjp, hl]; rfl) (hnd.erase j) ((List.mem_erase_of_ne (Ne.symm hji)).2 hip) (hc.set hj) ?_ (ready_mono hr (Ne.symm hji)) ?_ hsi' ?_
      · intro k ok hk hki hun hno
        have hjk : j ≠ k := by
          intro hjk; subst hjk
          have : j < listed.size := by
            rcases Nat.lt_or_ge j listed.size with h' | h'
            · exact h'
            · simp [Array.getElem?_eq_none h'] at hjun
          simp [this] at hun
        rw [getD_set_ne true hjk] at hun
        obtain ⟨g1, g2⟩ := hfree k ok hk hki hun hno
        exact ⟨g1, (List.mem_erase_of_ne (Ne.symm hjk)).2 g2⟩
      · intro d hd p hp
        rcases List.mem_append.1 hp with hp | hp
        · exact hf d hd p hp
        · have := hsj.fst p hp
          intro he
          exact a2 d hd (by rw [this, he])
      · rw [Array.setIfInBounds_comm _ _ hji, ← setS_comm _ x y a2]
        refine aAny_perm n _ _ _ _ ?_ Hj
        rw [List.append_assoc, List.append_assoc]
        exact (List.perm_append_comm).append_left _
theorem wantedA_spec {w : World} {A : Nat → Prop} {a : Act} {s : Sl} (h : SlOk w A N a s) {o : Oper} {b : Bool} (hw : wantedA ops o s = some b) : Region.wanted o (yielded ops a.tmps) = b := by
  unfold wantedA at hw
  unfold Region.wanted
  cases hg : o.guard with
  | none => simp only [hg] at hw ⊢; simpa using hw
  | some p =>
    obtain ⟨j, want⟩ := p
    simp only [hg] at hw ⊢
    cases hj : (ops[j]?).bind (·.dst) with
    | none => simp only [hj] at hw; simp only [Option.some.injEq] at hw; subst hw; simp [yielded, hj]
    | some d =>
      simp only [hj] at hw
      have hget : ∀ u, (∃ x, s d = some x ∧ Rel w A x u ∧ a.tmps.getD d undef = u) → a.tmps[d]? = some u := by
        rintro u ⟨x, h1, _, h3⟩
        have := (h.2 d x h1).1
        rw [← h.1] at this
        rw [Array.getD_eq_getD_getElem?] at h3
        simp [this] at h3 ⊢
        exact h3
      split at hw
      · rename_i bb hs
        simp only [Option.some.injEq] at hw; subst hw
        have h1 := (h.2 d _ hs).2
        simp only [Rel] at h1
        have := hget (.bool bb) ⟨_, hs, by simp only [Rel], h1⟩
        simp only [yielded, hj, Option.bind_some, this]
        cases bb <;> cases want <;> rfl
      · rename_i tt hs
        simp only [Option.some.injEq] at hw; subst hw
        have h1 := (h.2 d _ hs).2
        simp only [Rel] at h1
        have := hget (.tuple tt) ⟨_, hs, by simp only [Rel], h1⟩
        simp [yielded, hj, this]
      · cases hw
theorem Al_front {F : Nat → Prop} {η ν : List Ent} : Al (fun b => F b ∨ b ∈ ids ν) η = Al F (η ++ ν) :=
  funext fun b => propext (by simp only [Al, ids_append, List.mem_append]; constructor <;> (rintro ⟨h1, h2⟩; simp_all))
theorem HOk.front {G : Gl} {w : World} {F : Nat → Prop} {η ν : List Ent} (h : HOk G w F (η ++ ν)) : HOk G w (fun b => F b ∨ b ∈ ids ν) η := by
  have hA : Al (fun b => F b ∨ b ∈ ids ν) η = Al F (η ++ ν) := Al_front
  have hnd := h.nodup
  rw [ids_append, List.nodup_append] at hnd
  refine ⟨fun x hx => by rw [hA]; exact h.ents x (by simp [hx]), hnd.1, fun b hb => ?_, fun b hb => ?_, by rw [hA]; exact h.glob⟩
  · rintro (h1 | h1)
    · exact h.free b (by simp [ids_append, hb]) h1
    · exact hnd.2.2 b hb b h1 rfl
  · rcases hb with hb | hb
    · exact h.bound b hb
    · exact h.lt b (by simp [ids_append, hb])
theorem getD_put_same {a : Act} {d : Nat} {v : Value} (h : d < a.tmps.size) : (a.put (some d) v).tmps.getD d undef = v := getD_set_same _ _ _ h
theorem getD_put_other {a : Act} {dst : Option Nat} {t : Nat} {v : Value} (h : ∀ d, dst = some d → t ≠ d) : (a.put dst v).tmps.getD t undef = a.tmps.getD t undef := by
  cases dst with
  | none => rfl
  | some d => exact getD_set_other _ _ _ _ (Ne.symm (h d rfl))
theorem put_size {a : Act} {dst : Option Nat} {v : Value} : (a.put dst v).tmps.size = a.tmps.size := by cases dst <;> simp [Act.put]
theorem put_df {a : Act} {dst : Option Nat} {v : Value} : (a.put dst v).defers = a.defers := by cases dst <;> rfl
theorem DOk.stepP {G : Gl} {F : Nat → Prop} {w0 w w' : World} {a : Act} {st : DSt} {zs : List ((Nat × List AV) × Nat)} (h : DOk G N F η w0 w a st zs) {o : Oper} (hd : dstB N o.dst = true) (hf : fresh o st.2) {x : AV} {v : Value}
    (hv : Rel w' (Al F (η ++ nuEnts zs)) x v) (hc : Cls w w') : DOk G N F η w0 w' (a.put o.dst v) (setS st.1 o.dst (some x), st.2 ++ []) zs := by
  have hk := (hc.ext (η := η ++ nuEnts zs)).keeps (F := F)
  refine ⟨by rw [put_size]; exact h.size, by rw [put_df]; exact h.df, by simpa using h.eq, h.hp.later hc.2.2.2, fun t y hy => ?_, fun z hz => ?_, h.cls.trans hc, h.new⟩
  · by_cases htd : o.dst = some t
    · have htN := dstB_spec hd t htd
      rw [htd] at hy ⊢
      simp only [setS, if_true, Option.some.injEq] at hy
      subst hy
      exact ⟨htN, by rw [getD_put_same (by rw [h.size]; exact htN)]; exact hv⟩
    · have hne : ∀ d, o.dst = some d → t ≠ d := fun d hd' he => htd (by rw [hd', he])
      have hy' : setS st.1 o.dst (some x) t = some y := hy
      rw [setS_other hne] at hy'
      obtain ⟨h1, h2⟩ := h.sl t y hy'
      exact ⟨h1, by rw [getD_put_other hne]; exact h2.keep hk⟩
  · obtain ⟨h1, h2⟩ := h.nu z hz
    refine ⟨h1, ?_⟩
    rw [getD_put_other]
    · exact h2
    · intro d hd' he
      exact hf d hd' z.1 (by rw [← h.eq]; exact List.mem_map.2 ⟨z, hz, rfl⟩) he
theorem DOk.stepN {G : Gl} {F : Nat → Prop} {w0 w : World} {a : Act} {st : DSt} {zs : List ((Nat × List AV) × Nat)} (h : DOk G N F η w0 w a st zs) {o : Oper} {d : Nat} (hd : o.dst = some d) (hdN : d < N) (hf : fresh o st.2) {cells : List AV} {vs : List Value} {e : TypeId}
    (hv : RelL w (Al F (η ++ nuEnts zs)) cells vs) : DOk G N F η w0 (w.alloc (.cells (List.toArray vs) e)) (a.put o.dst (.pointer (some ⟨w.heap.size, 0, none⟩))) (setS st.1 o.dst none, st.2 ++ [(d, cells)]) (zs ++ [((d, cells), w.heap.size)]) := by
  have hc : Cls w (w.alloc (.cells vs.toArray e)) := ⟨rfl, rfl, rfl, by simp, fun b hb => alloc_later w _ b hb⟩
  have hents : nuEnts (zs ++ [((d, cells), w.heap.size)]) = nuEnts zs ++ [.box w.heap.size cells] := by simp [nuEnts]
  have hext := ext_alloc w (.cells vs.toArray e) (η ++ nuEnts zs) (.box w.heap.size cells) (by simp [Ent.ids])
  have hkeep := hext.keeps (F := F)
  rw [List.append_assoc, ← hents] at hkeep
  refine ⟨by rw [put_size]; exact h.size, by rw [put_df]; exact h.df, by simp [h.eq], ?_, fun t y hy => ?_, fun z hz => ?_, h.cls.trans hc, fun z hz => ?_⟩
  · rw [hents, ← List.append_assoc]
    refine h.hp.push (by simp) (fun b hb => alloc_later w _ b hb) (by simp [Ent.ids]) (by simp [Ent.ids]) ?_
    exact ⟨e, vs, alloc_new w _, by rw [List.append_assoc, ← hents]; exact hv.keep hkeep⟩
  · by_cases htd : t = d
    · subst htd
      rw [hd] at hy
      simp [setS] at hy
    · have hne : ∀ d', o.dst = some d' → t ≠ d' := fun d' hd' he => htd (by rw [hd] at hd'; cases hd'; exact he)
      have hy' : setS st.1 o.dst none t = some y := hy
      rw [setS_other hne] at hy'
      obtain ⟨h1, h2⟩ := h.sl t y hy'
      exact ⟨h1, by rw [getD_put_other hne]; exact h2.keep hkeep⟩
  · rcases List.mem_append.1 hz with hz | hz
    · obtain ⟨h1, h2⟩ := h.nu z hz
      refine ⟨h1, ?_⟩
      rw [getD_put_other]
      · exact h2
      · intro d' hd' he
        exact hf d' hd' z.1 (by rw [← h.eq]; exact List.mem_map.2 ⟨z, hz, rfl⟩) he
    · simp only [List.mem_singleton] at hz
      subst hz
      rw [hd]
      exact ⟨hdN, getD_put_same (by rw [h.size]; exact hdN)⟩
  · rcases List.mem_append.1 hz with hz | hz
    · exact h.new z hz
    · simp only [List.mem_singleton] at hz
      subst hz
      exact h.cls.2.2.2.1
theorem any_sound : ∀ (n : Nat) (listed : Array Bool) (st : DSt), aAny C N η ops Q' m n listed st → Cut C N ops η Q' (n + m) listed st
  | 0, listed, st, h => by rw [Nat.zero_add]; exact h
  | n + 1, listed, st, h => fun F w0 w a zs hd => by
    rw [show n + 1 + m = (n + m) + 1 by omega]
    refine ⟨fun h0 => absurd h0 h.1, fun i hi => ?_⟩
    obtain ⟨o, x, δ, ho, hf, hs, hn⟩ := h.2 i hi
    have ih := any_sound n _ _ hn F w0
    have hsl : SlOk w (Al F (η ++ nuEnts zs)) N a st.1 := ⟨hd.size, hd.sl⟩
    have hopd : OpdOk w (Al (fun b => F b ∨ b ∈ ids (nuEnts zs)) η) N a o st.1 := fun t _ y hy => by rw [Al_front]; exact hd.sl t y hy
    unfold wpOp
    simp only [ho]
    obtain ⟨hdst, hs⟩ := hs
    rcases hs with ⟨hw, hs⟩ | ⟨hw, rfl, rfl⟩
    · rw [if_pos (wantedA_spec hsl hw)]
      refine .inl ?_
      rcases hs with ⟨y, hp, rfl, rfl⟩ | ⟨d, cells, hdd, hp, rfl, rfl⟩
      · refine hp _ w a hd.size hd.df hd.hp.front hopd _ _ fun v w' hv hc => ?_
        rw [Al_front] at hv
        exact ih w' _ zs (hd.stepP hdst hf hv hc)
      · refine hp _ w a hd.size hd.df hd.hp.front hopd _ _ fun vs e hv => ?_
        rw [Al_front] at hv
        exact ih _ _ _ (hd.stepN hdd (dstB_spec hdst d hdd) hf hv)
    · rw [if_neg (by rw [wantedA_spec hsl hw]; simp)]
      exact ih w _ zs (hd.stepP hdst hf (by simp only [Rel]) (Cls.refl w))
end
def aLex (C : Cx) (N : Nat) (η : List Ent) (ops : Array Oper) (Qe : DSt → Prop) : List Oper → DSt → Prop
  | [], st => Qe st
  | o :: rest, st => fresh o st.2 ∧ ∃ x δ, Stp C N η ops o st.1 x δ ∧ aLex C N η ops Qe rest (setS st.1 o.dst x, st.2 ++ δ)
def freeD (ops : Array Oper) (pre : List Nat) (listed : Array Bool) (i : Nat) : Bool :=
  match ops[i]? with
  | none => false
  | some oi => (List.range ops.size).all fun j => j == i || listed.getD j true || (match ops[j]? with
      | some oj => oi.apart ops oj && pre.contains j
      | none => true) || reach ops 3 i j
def nodupB : List Nat → Bool
  | [] => true
  | x :: r => !r.contains x && nodupB r
def lexD (ops : Array Oper) : List Nat → Array Bool → Bool
  | [], _ => true
  | i :: rest, listed => (Region.ready .any ops listed).contains i && freeD ops (i :: rest) listed i && nodupB (i :: rest) && lexD ops rest (listed.setIfInBounds i true)
def listedBy (l : List Nat) (listed : Array Bool) : Array Bool := l.foldl (fun q i => q.setIfInBounds i true) listed
section
variable {C : Cx} {N : Nat} {η : List Ent} {ops : Array Oper} {Q' : (Nat → Prop) → World → Exit → Act → World → Prop} {m : Nat}
theorem nodupB_spec : ∀ {l : List Nat}, nodupB l = true → l.Nodup
  | [], _ => by simp
  | x :: r, h => by
    simp only [nodupB, Bool.and_eq_true, Bool.not_eq_true'] at h
    rw [List.nodup_cons]
    exact ⟨(fun hx => by have := List.contains_iff_mem.2 hx; rw [h.1] at this; cases this), nodupB_spec h.2⟩
theorem aAny_lex : ∀ (l : List Nat) (listed : Array Bool) (st : DSt), Closed ops listed → lexD ops l listed = true → (pickOps ops l).length = l.length →
    aLex C N η ops (fun st => Cut C N ops η Q' m (listedBy l listed) st) (pickOps ops l) st → aAny C N η ops Q' m l.length listed st
  | [], listed, st, _, _, _, h => h
  | i :: rest, listed, st, hc, hB, hl, h => by
    simp only [lexD, Bool.and_eq_true] at hB
    obtain ⟨⟨⟨hr, hf⟩, hnd⟩, hB⟩ := hB
    have hr' : i ∈ Region.ready .any ops listed := by simpa using hr
    cases ho : ops[i]? with
    | none => simp [freeD, ho] at hf
    | some o =>
      simp only [pickOps, ho, List.length_cons] at hl h
      obtain ⟨h1, x, δ, h2, h3⟩ := h
      refine aAny_first (R := 3) ho rest.length listed (i :: rest) st x δ (by simp) (nodupB_spec hnd) (by simp) hc ?_ hr' h1 h2 ?_
      · intro j oj hj hji hun hno
        simp only [freeD, ho, List.all_eq_true, List.mem_range] at hf
        have := hf j (Array.getElem?_eq_some_iff.1 hj).1
        simp only [hj, Bool.or_eq_true, beq_iff_eq, hji, false_or, hun, hno, Bool.false_eq_true, or_false, Bool.and_eq_true] at this
        exact ⟨this.1, by simpa using this.2⟩
      · exact aAny_lex rest _ _ (hc.set hr') hB (by omega) (by simpa [listedBy] using h3)
theorem closed0 : Closed ops (Array.replicate ops.size false) := by
  intro j o _ h
  simp [Array.getElem?_replicate] at h
  split at h <;> simp at h
theorem aLex_mono {Qe Qe' : DSt → Prop} (h : ∀ st, Qe st → Qe' st) : ∀ {l : List Oper} {st : DSt}, aLex C N η ops Qe l st → aLex C N η ops Qe' l st
  | [], _, hh => h _ hh
  | _ :: _, _, ⟨h1, x, δ, h2, h3⟩ => ⟨h1, x, δ, h2, aLex_mono h h3⟩
def revs (n : Nat) : List ((Nat × List AV) × Nat) → Sg
  | [] => []
  | z :: zs => (z.1.1, .own n z.2 0) :: revs (n + 1) zs
theorem look_revs {σ : Sg} : ∀ {zs : List ((Nat × List AV) × Nat)} {n t : Nat} {x : AV}, look (revs n zs ++ σ) t = some x → (∃ z ∈ zs, ∃ k, t = z.1.1 ∧ x = .own k z.2 0) ∨ look σ t = some x
  | [], _, _, _, h => .inr h
  | z :: zs, n, t, x, h => by
    simp only [revs, List.cons_append, look] at h
    cases hb : Nat.beq z.1.1 t with
    | true =>
      rw [hb] at h
      simp only [Option.some.injEq] at h
      exact .inl ⟨z, by simp, n, (Nat.eq_of_beq_eq_true hb).symm, h.symm⟩
    | false =>
      rw [hb] at h
      rcases look_revs h with ⟨z', h1, h2⟩ | h
      · exact .inl ⟨z', by simp [h1], h2⟩
      · exact .inr h
def allB : Nu → (List ((Nat × List AV) × Nat) → Prop) → Prop
  | [], P => P []
  | p :: ν, P => ∀ b : Nat, allB ν fun zs => P ((p, b) :: zs)
theorem allB_spec : ∀ {ν : Nu} {P : List ((Nat × List AV) × Nat) → Prop}, allB ν P → ∀ zs, zs.map (·.1) = ν → P zs
  | [], P, h, zs, hz => by
    cases zs with
    | nil => exact h
    | cons _ _ => simp at hz
  | p :: ν, P, h, zs, hz => by
    cases zs with
    | nil => simp at hz
    | cons z zs =>
      simp only [List.map_cons, List.cons.injEq] at hz
      obtain ⟨h1, h2⟩ := hz
      have := allB_spec (h z.2) zs h2
      obtain ⟨p', b⟩ := z
      simp only at h1
      subst h1
      exact this
end
end Go.Bw
