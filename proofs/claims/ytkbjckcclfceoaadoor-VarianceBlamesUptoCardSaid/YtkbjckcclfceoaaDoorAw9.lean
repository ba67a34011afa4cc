/-
  Own work. The program logic, ninth part: regions whose order is open and whose operations make memory that nobody writes later: one walk in the text's order serves every order.
-/
import Derived.Test.YtkbjckcclfceoaaDoorAw8
namespace Go.Aw
open Go

abbrev Sl := Nat → Option AV

def tmpsOf (o : Oper) : List Nat := o.op.operands.toList.filterMap fun | .tmp t => some t | _ => none

def upd (s : Sl) (dst : Option Nat) (x : AV) : Sl := match dst with
  | none => s
  | some d => fun t => if t = d then some x else s t

/-- What an operation yields, told of its operands alone; it changes no block that was there. -/
def OpF (C : Cx) (N : Nat) (η : List Ent) (o : Oper) (s : Sl) (x : AV) : Prop :=
  ∀ F w (a : Act), a.tmps.size = N → a.defers = [] → HOk C.G w F η → (∀ t ∈ tmpsOf o, ∀ y, s t = some y → t < N ∧ Rel w (Al F η) y (a.tmps.getD t undef)) →
    ∀ (K : Act → World → Prop) (Q : Exit → Act → World → Prop), (∀ v w', Cls w w' → Rel w' (Al F η) x v → K (a.put o.dst v) w') → o.wp C.P a w K Q

theorem OpF.congr {C : Cx} {N : Nat} {η : List Ent} {o : Oper} {s s' : Sl} {x : AV} (h : OpF C N η o s x) (he : ∀ t ∈ tmpsOf o, s' t = s t) : OpF C N η o s' x :=
  fun F w a h1 h2 h3 h4 K Q hK => h F w a h1 h2 h3 (fun t ht y hy => h4 t ht y (by rw [he t ht]; exact hy)) K Q hK

def wantedA (ops : Array Oper) (o : Oper) (s : Sl) : Option Bool := match o.guard with
  | none => some true
  | some (j, want) => match (ops[j]?).bind (·.dst) with
    | none => some false
    | some d => match s d with
      | some (.v (.bool b)) => some (b == want)
      | some (.v (.tuple _)) => some false
      | _ => none

def SlOk (w : World) (A : Nat → Prop) (N : Nat) (a : Act) (s : Sl) : Prop := a.tmps.size = N ∧ ∀ t x, s t = some x → t < N ∧ Rel w A x (a.tmps.getD t undef)

def aOp (C : Cx) (N : Nat) (η : List Ent) (ops : Array Oper) (i : Nat) (K : Sl → Prop) (s : Sl) : Prop := match ops[i]? with
  | none => K s
  | some o => dstB N o.dst = true ∧ match wantedA ops o s with
    | some true => ∃ x, OpF C N η o s x ∧ K (upd s o.dst x)
    | some false => K (upd s o.dst (.v undef))
    | none => False

def aLex (C : Cx) (N : Nat) (η : List Ent) (ops : Array Oper) (Q : Sl → Prop) : List Oper → Sl → Prop
  | [], s => Q s
  | o :: rest, s => dstB N o.dst = true ∧ match wantedA ops o s with
    | some true => ∃ x, OpF C N η o s x ∧ aLex C N η ops Q rest (upd s o.dst x)
    | some false => aLex C N η ops Q rest (upd s o.dst (.v undef))
    | none => False

def aAny (C : Cx) (N : Nat) (η : List Ent) (ops : Array Oper) (Q : Sl → Prop) : Nat → Array Bool → Sl → Prop
  | 0, listed, s => Region.ready .any ops listed = [] ∧ Q s
  | fuel + 1, listed, s => (Region.ready .any ops listed = [] → Q s) ∧ ∀ i ∈ Region.ready .any ops listed, aOp C N η ops i (aAny C N η ops Q fuel (listed.setIfInBounds i true)) s

section
variable {C : Cx} {N : Nat} {η : List Ent} {ops : Array Oper}

theorem aOp_mono {i : Nat} {K K' : Sl → Prop} {s : Sl} (h : ∀ s, K s → K' s) (hh : aOp C N η ops i K s) : aOp C N η ops i K' s := by
  unfold aOp at *
  split
  · rename_i ho; simp only [ho] at hh; exact h _ hh
  · rename_i o ho
    simp only [ho] at hh
    obtain ⟨hd, hh⟩ := hh
    refine ⟨hd, ?_⟩
    split at hh
    · obtain ⟨x, h1, h2⟩ := hh; exact ⟨x, h1, h _ h2⟩
    · exact h _ hh
    · exact hh

def YA (C : Cx) (N : Nat) (η : List Ent) (ops : Array Oper) (o : Oper) (x : AV) (s : Sl) : Prop :=
  dstB N o.dst = true ∧ ((wantedA ops o s = some true ∧ OpF C N η o s x) ∨ (wantedA ops o s = some false ∧ x = .v undef))

theorem YA.aOp {i : Nat} {o : Oper} {x : AV} {s : Sl} (hi : ops[i]? = some o) (hy : YA C N η ops o x s) {K : Sl → Prop} (h : K (upd s o.dst x)) : aOp C N η ops i K s := by
  unfold Go.Aw.aOp
  simp only [hi]
  refine ⟨hy.1, ?_⟩
  rcases hy.2 with ⟨hw, hf⟩ | ⟨hw, rfl⟩
  · simp only [hw]; exact ⟨x, hf, h⟩
  · simp only [hw]; exact h

theorem ya_of_aOp {i : Nat} {o : Oper} {s : Sl} {K : Sl → Prop} (hi : ops[i]? = some o) (h : aOp C N η ops i K s) : ∃ x, YA C N η ops o x s ∧ K (upd s o.dst x) := by
  unfold Go.Aw.aOp at h
  simp only [hi] at h
  obtain ⟨hd, h⟩ := h
  split at h
  · rename_i hw; obtain ⟨x, h1, h2⟩ := h; exact ⟨x, ⟨hd, .inl ⟨hw, h1⟩⟩, h2⟩
  · rename_i hw; exact ⟨_, ⟨hd, .inr ⟨hw, rfl⟩⟩, h⟩
  · exact h.elim

theorem upd_other {s : Sl} {dst : Option Nat} {x : AV} {t : Nat} (h : ∀ d, dst = some d → t ≠ d) : upd s dst x t = s t := by
  cases dst with
  | none => rfl
  | some d => simp [upd, h d rfl]

theorem tmpsOf_looks {o : Oper} {t : Nat} (h : t ∈ tmpsOf o) : t ∈ o.looksAt ops := List.mem_append_left _ h

theorem wantedA_upd {o : Oper} {s : Sl} {dst : Option Nat} {x : AV} (h : ∀ d, dst = some d → d ∉ o.looksAt ops) : wantedA ops o (upd s dst x) = wantedA ops o s := by
  unfold wantedA
  cases hg : o.guard with
  | none => rfl
  | some p =>
    obtain ⟨j, want⟩ := p
    simp only
    cases hj : (ops[j]?).bind (·.dst) with
    | none => rfl
    | some d =>
      have hd : d ∈ o.looksAt ops := List.mem_append_right _ (by simp only [hg, hj]; simp)
      simp only [upd_other (s := s) (x := x) (fun d' hd' he => h d' hd' (he ▸ hd))]

theorem YA.upd {o : Oper} {x y : AV} {s : Sl} {dst : Option Nat} (hy : YA C N η ops o x s) (h : ∀ d, dst = some d → d ∉ o.looksAt ops) : YA C N η ops o x (upd s dst y) := by
  refine ⟨hy.1, ?_⟩
  rw [wantedA_upd h]
  exact hy.2.imp (fun ⟨h1, h2⟩ => ⟨h1, h2.congr fun t ht => upd_other fun d hd he => h d hd (he ▸ tmpsOf_looks ht)⟩) id

theorem upd_comm (s : Sl) {x y : Option Nat} (u v : AV) (h : ∀ d, x = some d → y ≠ some d) : upd (upd s x u) y v = upd (upd s y v) x u := by
  cases x with
  | none => rfl
  | some d =>
    cases y with
    | none => rfl
    | some e =>
      have hne : e ≠ d := fun he => h d rfl (by rw [he])
      funext t
      simp only [Go.Aw.upd]
      by_cases h1 : t = e
      · subst h1; simp [hne]
      · by_cases h2 : t = d
        · subst h2; simp [h1]
        · simp [h1, h2]

theorem aOp_put {j : Nat} {oi oj : Oper} {v : AV} (hj : ops[j]? = some oj) (hap : oi.apart ops oj = true) {K : Sl → Prop} {s : Sl} (hy : YA C N η ops oi v s) (h : aOp C N η ops j K (upd s oi.dst v)) :
    aOp C N η ops j (fun s' => YA C N η ops oi v s' ∧ K (upd s' oi.dst v)) s := by
  obtain ⟨h1, h2, h3⟩ := Oper.apart_spec hap
  obtain ⟨x, hx, hK⟩ := ya_of_aOp hj h
  have hx' : YA C N η ops oj x s := by
    refine ⟨hx.1, ?_⟩
    have hw := wantedA_upd (ops := ops) (o := oj) (s := s) (dst := oi.dst) (x := v) h1
    rcases hx.2 with ⟨g1, g2⟩ | ⟨g1, g2⟩
    · exact .inl ⟨hw ▸ g1, g2.congr fun t ht => (upd_other fun d hd he => h1 d hd (he ▸ tmpsOf_looks ht)).symm⟩
    · exact .inr ⟨hw ▸ g1, g2⟩
  exact hx'.aOp hj ⟨hy.upd h3, by rw [← upd_comm s v x h2]; exact hK⟩

theorem aAny_first {Q : Sl → Prop} {i : Nat} {oi : Oper} {v : AV} (hi : ops[i]? = some oi) :
    ∀ (fuel : Nat) (listed : Array Bool) (s : Sl),
      (∀ j oj, ops[j]? = some oj → j ≠ i → listed.getD j true = false → (∀ e ∈ oj.after, Region.binds .any e = true → e.on ≠ i) → oi.apart ops oj = true) →
      i ∈ Region.ready .any ops listed → YA C N η ops oi v s →
      aAny C N η ops Q fuel (listed.setIfInBounds i true) (upd s oi.dst v) → aAny C N η ops Q (fuel + 1) listed s := by
  intro fuel
  induction fuel with
  | zero =>
    intro listed s _ hr hy H
    refine ⟨fun h => (by rw [h] at hr; cases hr), fun j hj => ?_⟩
    by_cases hji : j = i
    · subst hji; exact hy.aOp hi H
    · have := ready_mono hj hji
      rw [H.1] at this
      cases this
  | succ fuel ih =>
    intro listed s hfree hr hy H
    refine ⟨fun h => (by rw [h] at hr; cases hr), fun j hj => ?_⟩
    by_cases hji : j = i
    · subst hji; exact hy.aOp hi H
    · have h1 := H.2 j (ready_mono hj hji)
      obtain ⟨hjun, oj, hoj, hall⟩ := mem_ready.1 hj
      have hnot : ∀ e ∈ oj.after, Region.binds .any e = true → e.on ≠ i := fun e he hb heq => by
        have h1 := hall e he hb
        have h0 := (mem_ready.1 hr).1
        rw [heq] at h1
        rcases Nat.lt_or_ge i listed.size with h' | h'
        · simp [h'] at h0 h1; rw [h0] at h1; cases h1
        · simp [Array.getElem?_eq_none h'] at h1
      have h2 := aOp_put hoj (hfree j oj hoj hji hjun hnot) hy h1
      have hfree' : ∀ k ok, ops[k]? = some ok → k ≠ i → (listed.setIfInBounds j true).getD k true = false →
          (∀ e ∈ ok.after, Region.binds .any e = true → e.on ≠ i) → oi.apart ops ok = true := fun k ok hk hki hun hno => by
        refine hfree k ok hk hki ?_ hno
        by_cases hjk : j = k
        · subst hjk; exact hjun
        · rw [getD_set_ne true hjk] at hun; exact hun
      refine aOp_mono (fun s' h3 => ih (listed.setIfInBounds j true) s' hfree' (ready_mono hr (Ne.symm hji)) h3.1 ?_) h2
      rw [Array.setIfInBounds_comm _ _ hji]
      exact h3.2

theorem aAny_lex {Q : Sl → Prop} : ∀ (l : List Oper) (k : Nat) (listed : Array Bool) (s : Sl), (∀ j, l[j]? = ops[k + j]?) →
    Region.lexFrom .any ops l.length k listed = true → aLex C N η ops Q l s → aAny C N η ops Q l.length listed s
  | [], _, _, _, _, hB, h => ⟨by simpa [Region.lexFrom] using hB, h⟩
  | o :: l, k, listed, s, hl, hB, h => by
    have h0 : ops[k]? = some o := by simpa using (hl 0).symm
    simp only [List.length_cons, Region.lexFrom, Bool.and_eq_true] at hB
    obtain ⟨⟨hr, hf⟩, hB'⟩ := hB
    have hst : aOp C N η ops k (aLex C N η ops Q l) s := by unfold aOp; simp only [h0]; exact h
    obtain ⟨x, hy, hK⟩ := ya_of_aOp h0 hst
    exact aAny_first h0 l.length listed s (Region.free_spec h0 hf) (by simpa using hr) hy
      (aAny_lex l (k + 1) _ _ (fun j => by have := hl (j + 1); simpa [Nat.add_assoc, Nat.add_comm 1 j] using this) hB' hK)

theorem SlOk.later {w w' : World} {F : Nat → Prop} {a : Act} {s : Sl} (h : SlOk w (Al F η) N a s) (hc : Cls w w') : SlOk w' (Al F η) N a s :=
  ⟨h.1, fun t x hx => ⟨(h.2 t x hx).1, (h.2 t x hx).2.keep (hc.ext (η := η)).keeps⟩⟩

theorem SlOk.put {w : World} {A : Nat → Prop} {a : Act} {s : Sl} (h : SlOk w A N a s) {dst : Option Nat} (hd : dstB N dst = true) {x : AV} {v : Value} (hx : Rel w A x v) : SlOk w A N (a.put dst v) (upd s dst x) := by
  cases dst with
  | none => exact h
  | some d =>
    have hdN := dstB_spec hd d rfl
    refine ⟨by simp [Act.put, h.1], fun t y hy => ?_⟩
    simp only [upd] at hy
    by_cases htd : t = d
    · subst htd
      rw [if_pos rfl] at hy
      cases hy
      exact ⟨hdN, by simp only [Act.put]; rw [getD_set_same _ _ _ (by rw [h.1]; exact hdN)]; exact hx⟩
    · rw [if_neg htd] at hy
      refine ⟨(h.2 t y hy).1, ?_⟩
      simp only [Act.put]
      rw [getD_set_other _ _ _ _ (Ne.symm htd)]
      exact (h.2 t y hy).2

theorem wantedA_spec {w : World} {A : Nat → Prop} {a : Act} {s : Sl} (h : SlOk w A N a s) {o : Oper} {b : Bool} (hw : wantedA ops o s = some b) : Region.wanted o (yielded ops a.tmps) = b := by
  unfold wantedA at hw
  unfold Region.wanted
  cases hg : o.guard with
  | none => simp only [hg] at hw ⊢; simpa using hw
  | some p =>
    obtain ⟨j, want⟩ := p
    simp only [hg] at hw ⊢
    cases hj : (ops[j]?).bind (·.dst) with
    | none => simp only [hj] at hw; simp only [Option.some.injEq] at hw; subst hw; simp [yielded, hj]
    | some d =>
      simp only [hj] at hw
      have hget : ∀ u, (∃ x, s d = some x ∧ Rel w A x u ∧ a.tmps.getD d undef = u) → a.tmps[d]? = some u := by
        rintro u ⟨x, h1, _, h3⟩
        have := (h.2 d x h1).1
        rw [← h.1] at this
        rw [Array.getD_eq_getD_getElem?] at h3
        simp [this] at h3 ⊢
        exact h3
      split at hw
      · rename_i bb hs
        simp only [Option.some.injEq] at hw; subst hw
        have h1 := (h.2 d _ hs).2
        simp only [Rel] at h1
        have := hget (.bool bb) ⟨_, hs, by simp only [Rel], h1⟩
        simp only [yielded, hj, Option.bind_some, this]
        cases bb <;> cases want <;> rfl
      · rename_i tt hs
        simp only [Option.some.injEq] at hw; subst hw
        have h1 := (h.2 d _ hs).2
        simp only [Rel] at h1
        have := hget (.tuple tt) ⟨_, hs, by simp only [Rel], h1⟩
        simp [yielded, hj, this]
      · cases hw

theorem wpAny_of_aAny {Q : Sl → Prop} {F : Nat → Prop} {Q' : Exit → Act → World → Prop} {w0 : World} (hQ : ∀ s a w, Q s → SlOk w (Al F η) N a s → Cls w0 w → a.defers = [] → Q' .normal a w) :
    ∀ (fuel : Nat) (listed : Array Bool) (s : Sl) (a : Act) (w : World), HOk C.G w F η → SlOk w (Al F η) N a s → a.defers = [] → Cls w0 w → aAny C N η ops Q fuel listed s → wpAny C.P .any ops Q' fuel listed a w
  | 0, _, s, a, w, _, h2, h3, h4, h => ⟨h.1, hQ s a w h.2 h2 h4 h3⟩
  | fuel + 1, listed, s, a, w, h1, h2, h3, h4, h => by
    refine ⟨fun h0 => hQ s a w (h.1 h0) h2 h4 h3, fun i hi => ?_⟩
    have := h.2 i hi
    unfold aOp at this
    unfold wpOp
    split
    · rename_i ho; simp only [ho] at this; exact wpAny_of_aAny hQ fuel _ s a w h1 h2 h3 h4 this
    · rename_i o ho
      simp only [ho] at this
      obtain ⟨hd, this⟩ := this
      split at this
      · rename_i hw
        rw [if_pos (wantedA_spec h2 hw)]
        obtain ⟨x, hf, hK⟩ := this
        refine .inl (hf F w a h2.1 h3 h1 (fun t _ y hy => h2.2 t y hy) _ _ fun v w' hc hv => ?_)
        have h4' : Cls w0 w' := ⟨hc.1.trans h4.1, hc.2.1.trans h4.2.1, hc.2.2.1.trans h4.2.2.1, Nat.le_trans h4.2.2.2.1 hc.2.2.2.1, fun b hb => (hc.2.2.2.2 b (Nat.lt_of_lt_of_le hb h4.2.2.2.1)).trans (h4.2.2.2.2 b hb)⟩
        exact wpAny_of_aAny hQ fuel _ _ _ w' (h1.later hc.2.2.2) ((h2.later hc).put hd hv) (by cases o.dst <;> exact h3) h4' hK
      · rename_i hw
        rw [if_neg (by rw [wantedA_spec h2 hw]; simp)]
        exact wpAny_of_aAny hQ fuel _ _ _ w h1 (h2.put hd (by simp only [Rel])) (by cases o.dst <;> exact h3) h4 this
      · exact this.elim

/-! ### The walk over such a region -/

def ALx (C : Cx) (N : Nat) (ops : Array Oper) (rest : List Oper) (Q : Sg → Prop) (σ : Sg) (η : List Ent) : Prop :=
  aLex C N η ops (fun s => ∃ σ', (∀ t x, look σ' t = some x → s t = some x) ∧ Q σ') rest (look σ)

theorem AWP.regionR {Q : AQ} {σ : Sg} {id : Nat} {l : List Oper} (hm : C.P.follows .mixedOrders = true) (hB : Region.lexB .any l.toArray = true) (h : ALx C N l.toArray l (fun σ' => Q .norm σ' η) σ η) : AWP C N (.region id l.toArray true) Q σ η :=
  fun F w0 η0 a w hs hx => by
    simp only [Region.lexB, Bool.and_eq_true] at hB
    refine wp_region_any hm ?_
    have hc : Cls w { w with drawn := w.drawn + 1 } := ⟨rfl, rfl, rfl, Nat.le_refl _, fun _ _ => rfl⟩
    have := aAny_lex (C := C) (N := N) (η := η) l 0 (Array.replicate l.toArray.size false) (look σ) (by simp) (by simpa using hB.2) h
    refine wpAny_of_aAny (C := C) (η := η) (F := F) (w0 := w) ?_ _ _ (look σ) a _ (hs.hp.later hc.2.2.2) (SlOk.later ⟨hs.sg.1, hs.sg.2⟩ hc) hs.df hc (by simpa using this)
    rintro s a' w' ⟨σ', h1, h2⟩ h3 h4 h5
    exact ⟨.norm, σ', η, h2, rfl, ⟨⟨h3.1, fun t x hx => h3.2 t x (h1 t x hx)⟩, hs.hp.later h4.2.2.2, h5⟩, hx.trans h4.ext⟩

variable {QS : Sg → Prop} {σ : Sg} {rest : List Oper}

theorem look_cons (d : Nat) (x : AV) (σ : Sg) : look ((d, x) :: σ) = upd (look σ) (some d) x := by
  funext t
  simp only [look, upd]
  by_cases h : t = d
  · subst h; rw [Nat.beq_refl]; simp
  · have : Nat.beq d t = false := by cases hb : Nat.beq d t with
      | false => rfl
      | true => exact absurd (Nat.eq_of_beq_eq_true hb).symm h
    rw [this, if_neg h]

theorem ALx.id (h : ALx C N ops rest QS σ η) : ALx C N ops rest QS σ η := h
theorem ALx.nil (h : QS σ) : ALx C N ops [] QS σ η := ⟨σ, fun _ _ h => h, h⟩

theorem ALx.opF {o : Oper} {x : AV} {d : Nat} (hg : o.guard = none) (hd : o.dst = some d) (hn : Nat.blt d N = true) (h : OpF C N η o (look σ) x) (k : ALx C N ops rest QS ((d, x) :: σ) η) : ALx C N ops (o :: rest) QS σ η := by
  unfold ALx at *
  refine ⟨by rw [hd]; exact hn, ?_⟩
  have hw : wantedA ops o (look σ) = some true := by simp [wantedA, hg]
  simp only [hw]
  exact ⟨x, h, by rw [hd, ← look_cons]; exact k⟩

/-- The entries of these slots alone. -/
def restr (ts : List Nat) : Sg → Sg
  | [] => []
  | (k, x) :: r => match ts.any (Nat.beq k) with
    | true => (k, x) :: restr ts r
    | false => restr ts r

theorem look_restr {ts : List Nat} : ∀ {σ : Sg} {t : Nat} {x : AV}, look (restr ts σ) t = some x → t ∈ ts ∧ look σ t = some x
  | [], _, _, h => by simp [restr, look] at h
  | (k, y) :: r, t, x, h => by
    simp only [restr] at h
    cases hk : ts.any (Nat.beq k) with
    | true =>
      rw [hk] at h
      simp only [look] at h ⊢
      cases hb : Nat.beq k t with
      | true =>
        rw [hb] at h
        obtain ⟨z, hz, hz'⟩ := List.any_eq_true.1 hk
        rw [← Nat.eq_of_beq_eq_true hz', Nat.eq_of_beq_eq_true hb] at hz
        exact ⟨hz, h⟩
      | false => rw [hb] at h; exact look_restr h
    | false =>
      rw [hk] at h
      obtain ⟨h1, h2⟩ := look_restr h
      refine ⟨h1, ?_⟩
      simp only [look]
      cases hb : Nat.beq k t with
      | true =>
        have := Nat.eq_of_beq_eq_true hb
        subst this
        have : ts.any (Nat.beq k) = true := List.any_eq_true.2 ⟨k, h1, Nat.beq_refl k⟩
        rw [this] at hk; cases hk
      | false => exact h2

theorem St.restr {F : Nat → Prop} {w : World} {a : Act} {o : Oper} (h1 : a.tmps.size = N) (h2 : a.defers = []) (h3 : HOk C.G w F η) (h4 : ∀ t ∈ tmpsOf o, ∀ y, look σ t = some y → t < N ∧ Rel w (Al F η) y (a.tmps.getD t undef)) : St C.G N w F a (restr (tmpsOf o) σ) η :=
  ⟨⟨h1, fun t x hx => let ⟨g1, g2⟩ := look_restr hx; h4 t g1 x g2⟩, h3, h2⟩

theorem OpF.of_opS {o : Oper} {x : AV} (h : OpS C N o (restr (tmpsOf o) σ) η x) : OpF C N η o (look σ) x := fun F w a h1 h2 h3 h4 K Q hK => by
  obtain ⟨v, h5, h6⟩ := h F a w (St.restr h1 h2 h3 h4)
  unfold Oper.wp
  rw [h6 w (Later.refl w), Oper.upon_value]
  exact hK v w (Cls.refl w) h5

theorem OpF.pure {f : Operand} {args : List Operand} {g : FuncId} {xs : List AV} {res : AV} {tys : Array TypeId} {dst : Option Nat} {ty : TypeId} {pos : String} {after : Array Edge} {gd : Option (Nat × Bool)} (h : Pure C g xs res)
    (hc : callee (restr (tmpsOf ⟨dst, .call { callee := .value f, args := args.toArray, argTypes := tys }, ty, pos, after, gd⟩) σ) f args = some (g, xs)) :
    OpF C N η ⟨dst, .call { callee := .value f, args := args.toArray, argTypes := tys }, ty, pos, after, gd⟩ (look σ) res := fun F w a h1 h2 h3 h4 K Q hK => by
  have hs := St.restr (C := C) h1 h2 h3 h4
  obtain ⟨vs, g1, g2⟩ := callee_run (P := C.P) hs.sg hc (tys := tys) (dst := dst) (ty := ty) (pos := pos) (after := after) (gd := gd) h.1
  unfold Oper.wp
  rw [g2 w, Oper.upon_enter]
  have hA' : Al (fun b => F b ∨ b ∈ ids η) [] = Al F η := funext fun b => propext (by simp [Al, ids])
  have hH : HOk C.G w (fun b => F b ∨ b ∈ ids η) [] := ⟨by simp, by simp [ids], by simp [ids], fun b hb => hb.elim (h3.bound b) (h3.lt b), by rw [hA']; exact h3.glob⟩
  refine (h.2 _ w vs hH (by rw [hA']; exact g1)).mono ?_
  rintro e w' ⟨r, η', ⟨rfl, rfl⟩, ⟨v, rfl, hv⟩, hh, hx⟩
  rw [hA'] at hv
  exact hK v w' ⟨hx.os, hx.tape, hx.output, hx.size, fun b hb => hx.block b hb (by simp [ids])⟩ hv
end

section
variable {E : Env} {N : Nat} {η : List Ent} {ops : Array Oper} {QS : Sg → Prop} {σ : Sg} {rest : List Oper}

theorem ALx.pure {f : Operand} {args : List Operand} {g : FuncId} {xs : List AV} {res : AV} {tys : Array TypeId} {d : Nat} {ty : TypeId} {pos : String} {after : Array Edge} (h : Pure E.toCx g xs res)
    (hc : callee (restr (tmpsOf ⟨some d, .call { callee := .value f, args := args.toArray, argTypes := tys }, ty, pos, after, none⟩) σ) f args = some (g, xs)) (hn : Nat.blt d N = true)
    (k : ALx E.toCx N ops rest QS ((d, res) :: σ) η) : ALx E.toCx N ops (⟨some d, .call { callee := .value f, args := args.toArray, argTypes := tys }, ty, pos, after, none⟩ :: rest) QS σ η :=
  ALx.opF rfl rfl hn (OpF.pure h hc) k

theorem ALx.op {x : AV} {d : Nat} {op : Op} {ty : TypeId} {pos : String} {after : Array Edge} (h : aop E.T (restr (tmpsOf ⟨some d, op, ty, pos, after, none⟩) σ) op = some x) (hn : Nat.blt d N = true) (k : ALx E.toCx N ops rest QS ((d, x) :: σ) η) :
    ALx E.toCx N ops (⟨some d, op, ty, pos, after, none⟩ :: rest) QS σ η := ALx.opF rfl rfl hn (OpF.of_opS (opS_op h)) k

theorem ALx.load (i : Nat) {d : Nat} {t : TypeId} {p : Operand} {ty : TypeId} {pos : String} {after : Array Edge} {b off : Nat} {cs : List AV} {x : AV} (hp : ev (restr (tmpsOf ⟨some d, .load t p, ty, pos, after, none⟩) σ) p = some (.v (.pointer (some ⟨b, off, none⟩)))) (hi : nth η i = some (.box b cs))
    (hl : loadA E.T t cs off = some x) (hn : Nat.blt d N = true) (k : ALx E.toCx N ops rest QS ((d, x) :: σ) η) : ALx E.toCx N ops (⟨some d, .load t p, ty, pos, after, none⟩ :: rest) QS σ η :=
  ALx.opF rfl rfl hn (OpF.of_opS (opS_load rfl i hp hi hl)) k

theorem ALx.idx (j : Nat) {d : Nat} {t : TypeId} {x ix : Operand} {ty : TypeId} {pos : String} {after : Array Edge} {e k sz by' : Nat} {z : List Value} {rows : List (List AV)} {r : List AV} {kd : IntKind} {n : Int} (hr : rows[j]? = some r) (hx : ev (restr (tmpsOf ⟨some d, .indexAddr t x ix, ty, pos, after, none⟩) σ) x = some (.sl k rows))
    (hix : ev (restr (tmpsOf ⟨some d, .indexAddr t x ix, ty, pos, after, none⟩) σ) ix = some (.v (.int kd n)))
    (hj : n = (j : Int)) (ht : tget E.T t = some ⟨.slice e k, sz, by', z⟩) (hn : Nat.blt d N = true) (kk : ALx E.toCx N ops rest QS ((d, .ip r) :: σ) η) : ALx E.toCx N ops (⟨some d, .indexAddr t x ix, ty, pos, after, none⟩ :: rest) QS σ η :=
  ALx.opF rfl rfl hn (OpF.of_opS (opS_idx rfl j ht hx hix hj hr)) kk

theorem ALx.loadAll {d : Nat} {t : TypeId} {p : Operand} {ty : TypeId} {pos : String} {after : Array Edge} {cs : List AV} {dd : TD} {k b : Nat} {z : List Value} (hl : cs.length = k) (hp : ev (restr (tmpsOf ⟨some d, .load t p, ty, pos, after, none⟩) σ) p = some (.ip cs)) (ht : tget E.T t = some ⟨dd, k, b, z⟩) (hd : dd.agg = true)
    (hn : Nat.blt d N = true) (kk : ALx E.toCx N ops rest QS ((d, .agg cs) :: σ) η) : ALx E.toCx N ops (⟨some d, .load t p, ty, pos, after, none⟩ :: rest) QS σ η :=
  ALx.opF rfl rfl hn (OpF.of_opS (opS_loadAll rfl hp ht hd hl)) kk

theorem ALx.len {d : Nat} {t : TypeId} {x : Operand} {ty : TypeId} {pos : String} {after : Array Edge} {y : AV} {n : Int} (hx : ev (restr (tmpsOf ⟨some d, .call { callee := .builtin .len, args := #[x], argTypes := #[t] }, ty, pos, after, none⟩) σ) x = some y) (hl : lenA E.T t y = some n) (hn : Nat.blt d N = true)
    (k : ALx E.toCx N ops rest QS ((d, .v (.int .i64 n)) :: σ) η) : ALx E.toCx N ops (⟨some d, .call { callee := .builtin .len, args := #[x], argTypes := #[t] }, ty, pos, after, none⟩ :: rest) QS σ η :=
  ALx.opF rfl rfl hn (OpF.of_opS (opS_len rfl hx hl)) k

/-- A slice literal that nobody writes. -/
theorem ALx.lit {d : Nat} {t : TypeId} {n : Nat} {parts : Array (Nat × Operand)} {ty : TypeId} {pos : String} {after : Array Edge} {e k sz by' sz' by'' : Nat} {z z' : List Value} {td' : TD} {cells : List AV}
    (ht : tget E.T t = some ⟨.slice e k, sz, by', z⟩) (hte : tget E.T e = some ⟨td', sz', by'', z'⟩) (hf : fillG k (restr (tmpsOf ⟨some d, .buildSlice t n parts, ty, pos, after, none⟩) σ) (reps n (z'.map .v)) parts.toList = some cells) (hb : Nat.ble (n * k) 16777216 = true) (hk : Nat.ble 1 k = true) (hd : Nat.blt d N = true)
    (kk : ALx E.toCx N ops rest QS ((d, .sl k (chunk n k cells)) :: σ) η) : ALx E.toCx N ops (⟨some d, .buildSlice t n parts, ty, pos, after, none⟩ :: rest) QS σ η :=
  ALx.opF rfl rfl hd (fun F w a h1 h2 h3 h4 K Q hK => by
    have hs := St.restr (C := E.toCx) h1 h2 h3 h4
    obtain ⟨us, g1, g2, g3⟩ := lit_core (E := E) (d := some d) (ty := ty) (pos := pos) (after := after) (gd := none) ht hte hf hb hk hs
    have hb := Nat.le_of_ble_eq_true hb
    have hk := Nat.le_of_ble_eq_true hk
    have hc : Cls w (w.alloc (.cells us e)) := ⟨rfl, rfl, rfl, by simp, fun b hb => alloc_later w _ b hb⟩
    unfold Oper.wp
    rw [g1, Oper.upon_value]
    refine hK _ _ hc ?_
    simp only [Rel]
    have hnk : n ≤ n * k := Nat.le_mul_of_pos_right n hk
    refine .inr ⟨w.heap.size, 0, n, us.toList, by rw [chunk_length], ⟨by simp, ?_, ?_⟩, by rw [chunk_length]; exact Nat.le_refl _, by simp only [maxLen]; omega, g2.keep (hc.ext (η := η)).keeps, fun j u hj => ?_⟩
    · intro hF; have := h3.bound _ hF; omega
    · intro hm; have := h3.lt _ hm; omega
    · have h0 : (w.alloc (.cells us e)).heap[w.heap.size]? = some (.cells us.toList.toArray e (0, 0)) := by simpa using alloc_new w (.cells us e)
      rw [Nat.zero_add]; exact cell_of_heap h0 j u hj) kk
end
end Go.Aw
