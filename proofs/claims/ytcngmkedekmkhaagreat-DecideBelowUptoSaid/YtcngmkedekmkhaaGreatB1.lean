/-
  Own work. The base of a program logic over the kit's wp calculus, second making: abstract values, what they say of a world, and that they stay true while other blocks change.
-/
import Derived.WalkKit
noncomputable section
namespace Go.Bw
open Go
inductive AV where
  | v (x : Value)
  | sl (k : Nat) (rows : List (List AV))
  | agg (xs : List AV)
  | tup (xs : List AV)
  | ip (cells : List AV)
  | own (tag b off : Nat)
  | os (tag : Nat) (a : Option Addr) (n c : Nat)
  | oe (tag : Nat) (v : Value) (n : Nat)
  | om (tag r : Nat)
  | fn (f : FuncId) (fs caps : List AV)
  | ifc (t : TypeId) (x : AV)
mutual
def Rel (w : World) (A : Nat → Prop) : AV → Value → Prop
  | .v x, y => y = x
  | .sl k rows, y => (rows = [] ∧ ∃ a cap, y = .slice a 0 cap) ∨ ∃ b o cap vs, y = .slice (some ⟨b, o, none⟩) rows.length cap ∧ (b < w.heap.size ∧ A b) ∧ rows.length ≤ cap ∧ cap ≤ maxLen ∧
      RelRows w A k rows vs ∧ ∀ j u, vs[j]? = some u → w.cell? ⟨b, o + j, none⟩ = some u
  | .agg xs, y => ∃ vs : List Value, y = .agg vs.toArray ∧ RelL w A xs vs
  | .tup xs, y => ∃ vs : List Value, y = .tuple vs.toArray ∧ RelL w A xs vs
  | .ip cs, y => ∃ b o vs, y = .pointer (some ⟨b, o, none⟩) ∧ (b < w.heap.size ∧ A b) ∧ RelL w A cs vs ∧ ∀ j u, vs[j]? = some u → w.cell? ⟨b, o + j, none⟩ = some u
  | .own _ b off, y => y = .pointer (some ⟨b, off, none⟩)
  | .os _ a n c, y => y = .slice a n c
  | .oe _ v n, y => ∃ b len cap, v = .slice (some ⟨b, 0, none⟩) len cap ∧ y = .pointer (some ⟨b, n, none⟩)
  | .om _ r, y => y = .map (some r)
  | .fn f fs cs, y => ∃ us vs : List Value, y = .func (.func f) us.toArray vs.toArray ∧ RelL w A fs us ∧ RelL w A cs vs
  | .ifc t x, y => ∃ u, y = .iface t u ∧ Rel w A x u
def RelL (w : World) (A : Nat → Prop) : List AV → List Value → Prop
  | [], vs => vs = []
  | x :: xs, vs => ∃ v r, vs = v :: r ∧ Rel w A x v ∧ RelL w A xs r
def RelRows (w : World) (A : Nat → Prop) (k : Nat) : List (List AV) → List Value → Prop
  | [], vs => vs = []
  | r :: rs, vs => ∃ v1 v2, vs = v1 ++ v2 ∧ r.length = k ∧ RelL w A r v1 ∧ RelRows w A k rs v2
end
def Keeps (w : World) (A : Nat → Prop) (w' : World) (A' : Nat → Prop) : Prop :=
  w.heap.size ≤ w'.heap.size ∧ ∀ b, b < w.heap.size → A b → A' b ∧ w'.heap[b]? = w.heap[b]?
theorem Keeps.refl (w : World) (A : Nat → Prop) : Keeps w A w A := ⟨Nat.le_refl _, fun _ _ h => ⟨h, rfl⟩⟩
theorem lt_of_cell {w : World} {b o : Nat} {u : Value} (h : w.cell? ⟨b, o, none⟩ = some u) : b < w.heap.size := World.block_lt_of_cell? w ⟨b, o, none⟩ h
section
variable {w w' : World} {A A' : Nat → Prop}
theorem RelL.length : ∀ {xs : List AV} {vs : List Value}, RelL w A xs vs → vs.length = xs.length
  | [], _, h => by simp only [RelL] at h; simp [h]
  | _ :: _, _, h => by simp only [RelL] at h; obtain ⟨v, r, rfl, _, h⟩ := h; simp [RelL.length h]
theorem RelRows.length {k : Nat} : ∀ {xs : List (List AV)} {vs : List Value}, RelRows w A k xs vs → vs.length = xs.length * k
  | [], _, h => by simp only [RelRows] at h; simp [h]
  | _ :: _, _, h => by
    simp only [RelRows] at h; obtain ⟨v, r, rfl, hk, h1, h⟩ := h
    simp [RelRows.length h, RelL.length h1, hk, Nat.add_mul, Nat.add_comm]
mutual
theorem Rel.keep (h : Keeps w A w' A') : ∀ {x : AV} {v : Value}, Rel w A x v → Rel w' A' x v
  | .v _, _, h1 => by simp only [Rel] at h1 ⊢; exact h1
  | .sl k rows, v, h1 => by
    simp only [Rel] at h1 ⊢
    rcases h1 with h1 | ⟨b, o, cap, vs, h1, h2, h3, h4, h5, h6⟩
    · exact .inl h1
    · obtain ⟨ha, he⟩ := h.2 b h2.1 h2.2
      exact .inr ⟨b, o, cap, vs, h1, ⟨Nat.lt_of_lt_of_le h2.1 h.1, ha⟩, h3, h4, RelRows.keep h h5, fun j u hu => (World.cell?_of_block he).trans (h6 j u hu)⟩
  | .agg xs, _, h1 => by simp only [Rel] at h1 ⊢; obtain ⟨vs, e, h2⟩ := h1; exact ⟨vs, e, RelL.keep h h2⟩
  | .tup xs, _, h1 => by simp only [Rel] at h1 ⊢; obtain ⟨vs, e, h2⟩ := h1; exact ⟨vs, e, RelL.keep h h2⟩
  | .ip cs, _, h1 => by
    simp only [Rel] at h1 ⊢
    obtain ⟨b, o, vs, h1, h2, h5, h6⟩ := h1
    obtain ⟨ha, he⟩ := h.2 b h2.1 h2.2
    exact ⟨b, o, vs, h1, ⟨Nat.lt_of_lt_of_le h2.1 h.1, ha⟩, RelL.keep h h5, fun j u hu => (World.cell?_of_block he).trans (h6 j u hu)⟩
  | .own _ _ _, _, h1 => by simp only [Rel] at h1 ⊢; exact h1
  | .os _ _ _ _, _, h1 => by simp only [Rel] at h1 ⊢; exact h1
  | .oe _ _ _, _, h1 => by simp only [Rel] at h1 ⊢; exact h1
  | .om _ _, _, h1 => by simp only [Rel] at h1 ⊢; exact h1
  | .fn f fs cs, _, h1 => by simp only [Rel] at h1 ⊢; obtain ⟨us, vs, e, h2, h3⟩ := h1; exact ⟨us, vs, e, RelL.keep h h2, RelL.keep h h3⟩
  | .ifc t x, _, h1 => by simp only [Rel] at h1 ⊢; obtain ⟨vs, e, h2⟩ := h1; exact ⟨vs, e, Rel.keep h h2⟩
theorem RelL.keep (h : Keeps w A w' A') : ∀ {x : List AV} {v : List Value}, RelL w A x v → RelL w' A' x v
  | [], _, h1 => by simp only [RelL] at h1 ⊢; exact h1
  | _ :: _, _, h1 => by simp only [RelL] at h1 ⊢; obtain ⟨v, r, e, h2, h3⟩ := h1; exact ⟨v, r, e, Rel.keep h h2, RelL.keep h h3⟩
theorem RelRows.keep (h : Keeps w A w' A') : ∀ {k : Nat} {x : List (List AV)} {v : List Value}, RelRows w A k x v → RelRows w' A' k x v
  | _, [], _, h1 => by simp only [RelRows] at h1 ⊢; exact h1
  | _, _ :: _, _, h1 => by simp only [RelRows] at h1 ⊢; obtain ⟨v, r, e, hk, h2, h3⟩ := h1; exact ⟨v, r, e, hk, RelL.keep h h2, RelRows.keep h h3⟩
end
theorem Keeps.trans {w'' : World} {A'' : Nat → Prop} (h : Keeps w A w' A') (g : Keeps w' A' w'' A'') : Keeps w A w'' A'' :=
  ⟨Nat.le_trans h.1 g.1, fun b hb ha => let ⟨h1, h2⟩ := h.2 b hb ha; let ⟨g1, g2⟩ := g.2 b (Nat.lt_of_lt_of_le hb h.1) h1; ⟨g1, g2.trans h2⟩⟩
end
inductive Ent where
  | box (b : Nat) (cells : List AV)
  | row (v : Value) (e : TypeId) (k : Nat) (rows : List (List AV))
  | map (r : Nat) (es : List (Value × AV))
  | fact (x : AV) (v : Value)
  | gone
def Ent.ids : Ent → List Nat
  | .box b _ => [b]
  | .row v _ _ _ => v.ownBlock.toList
  | .map r _ => [r]
  | .fact _ _ => []
  | .gone => []
def RelM (w : World) (A : Nat → Prop) : List (Value × AV) → List MapEntry → Prop
  | [], l => l = []
  | x :: xs, l => ∃ e r, l = e :: r ∧ e.key = x.1 ∧ Rel w A x.2 e.val ∧ RelM w A xs r
def ids (η : List Ent) : List Nat := η.flatMap Ent.ids
def Ent.ok (w : World) (A : Nat → Prop) : Ent → Prop
  | .box b cells => ∃ e vs, w.heap[b]? = some (.cells (List.toArray vs) e (0, 0)) ∧ RelL w A cells vs
  | .row v e k rows => ∃ vs, RelRows w A k rows vs ∧ w.ownsRow 0 e k v rows.length vs
  | .map r es => ∃ a clock, w.heap[r]? = some (.map (List.toArray a) clock) ∧ RelM w A es a ∧ (a.map (·.born)).Nodup ∧ ∀ x ∈ a, x.born < clock
  | .fact x v => Rel w A x v
  | .gone => True
def Al (F : Nat → Prop) (η : List Ent) (b : Nat) : Prop := ¬ F b ∧ b ∉ ids η
abbrev Gl := List (Nat × List Value)
def GOk (G : Gl) (w : World) (A : Nat → Prop) : Prop := ∀ p ∈ G, A p.1 ∧ ∃ e fz, w.heap[p.1]? = some (.cells p.2.toArray e fz)
structure HOk (G : Gl) (w : World) (F : Nat → Prop) (η : List Ent) : Prop where
  ents : ∀ x ∈ η, x.ok w (Al F η)
  nodup : (ids η).Nodup
  free : ∀ b ∈ ids η, ¬ F b
  bound : ∀ b, F b → b < w.heap.size
  glob : GOk G w (Al F η)
structure Ext (η : List Ent) (w : World) (η' : List Ent) (w' : World) : Prop where
  os : w'.os = w.os
  tape : w'.tape = w.tape
  output : w'.output = w.output
  size : w.heap.size ≤ w'.heap.size
  block : ∀ b, b < w.heap.size → b ∉ ids η → w'.heap[b]? = w.heap[b]?
  new : ∀ b ∈ ids η', b ∈ ids η ∨ w.heap.size ≤ b
theorem Ext.refl (η : List Ent) (w : World) : Ext η w η w := ⟨rfl, rfl, rfl, Nat.le_refl _, fun _ _ _ => rfl, fun _ h => .inl h⟩
theorem Ext.trans {η η' η'' : List Ent} {w w' w'' : World} (h : Ext η w η' w') (g : Ext η' w' η'' w'') : Ext η w η'' w'' where
  os := g.os.trans h.os
  tape := g.tape.trans h.tape
  output := g.output.trans h.output
  size := Nat.le_trans h.size g.size
  block := fun b hb hn => (g.block b (Nat.lt_of_lt_of_le hb h.size) (fun hm => (h.new b hm).elim hn (fun hle => absurd hb (Nat.not_lt.2 hle)))).trans (h.block b hb hn)
  new := fun b hb => (g.new b hb).elim (fun hm => h.new b hm) (fun hle => .inr (Nat.le_trans h.size hle))
theorem Ext.keeps {η η' : List Ent} {w w' : World} {F : Nat → Prop} (h : Ext η w η' w') : Keeps w (Al F η) w' (Al F η') :=
  ⟨h.size, fun b hb ha => ⟨⟨ha.1, fun hm => (h.new b hm).elim ha.2 (fun hle => absurd hb (Nat.not_lt.2 hle))⟩, h.block b hb ha.2⟩⟩
theorem GOk.keep {G : Gl} {w w' : World} {A A' : Nat → Prop} (h : GOk G w A) (hk : Keeps w A w' A') : GOk G w' A' := fun p hp => by
  obtain ⟨ha, e, fz, hh⟩ := h p hp
  have hlt : p.1 < w.heap.size := (Array.getElem?_eq_some_iff.1 hh).1
  obtain ⟨h1, h2⟩ := hk.2 p.1 hlt ha
  exact ⟨h1, e, fz, h2.trans hh⟩
theorem RelM.keep {w w' : World} {A A' : Nat → Prop} (h : Keeps w A w' A') : ∀ {es : List (Value × AV)} {l : List MapEntry}, RelM w A es l → RelM w' A' es l
  | [], _, h1 => by simp only [RelM] at h1 ⊢; exact h1
  | _ :: _, _, h1 => by simp only [RelM] at h1 ⊢; obtain ⟨v, r, e, h2, h3, h4⟩ := h1; exact ⟨v, r, e, h2, Rel.keep h h3, RelM.keep h h4⟩
theorem Ent.ok.lt {w : World} {A : Nat → Prop} {x : Ent} (h : x.ok w A) : ∀ b ∈ x.ids, b < w.heap.size := by
  intro b hb
  cases x with
  | map c es => simp [Ent.ids] at hb; subst hb; obtain ⟨e, vs, h1, _⟩ := h; exact (Array.getElem?_eq_some_iff.1 h1).1
  | fact x v => simp [Ent.ids] at hb
  | gone => simp [Ent.ids] at hb
  | box c cells => simp [Ent.ids] at hb; subst hb; obtain ⟨e, vs, h1, _⟩ := h; exact (Array.getElem?_eq_some_iff.1 h1).1
  | row v e k rows => obtain ⟨vs, h1, h2⟩ := h; exact (h2.lt b (by simpa [Ent.ids] using hb)).2
theorem HOk.lt {G : Gl} {w : World} {F : Nat → Prop} {η : List Ent} (h : HOk G w F η) : ∀ b ∈ ids η, b < w.heap.size := by
  intro b hb
  obtain ⟨x, hx, hb⟩ := List.mem_flatMap.1 hb
  exact (h.ents x hx).lt b hb
theorem Ent.ok.keep {w w' : World} {A A' : Nat → Prop} {x : Ent} (h : x.ok w A) (hk : Keeps w A w' A') (hb : ∀ b ∈ x.ids, w'.heap[b]? = w.heap[b]?) : x.ok w' A' := by
  cases x with
  | map c es => obtain ⟨e, vs, h1, h2, h3⟩ := h; exact ⟨e, vs, (hb c (by simp [Ent.ids])).trans h1, RelM.keep hk h2, h3⟩
  | fact x v => exact Rel.keep hk h
  | gone => trivial
  | box c cells => obtain ⟨e, vs, h1, h2⟩ := h; exact ⟨e, vs, (hb c (by simp [Ent.ids])).trans h1, RelL.keep hk h2⟩
  | row v e k rows =>
    obtain ⟨vs, h1, h2, h3⟩ := h
    refine ⟨vs, RelRows.keep hk h1, h2, ?_⟩
    rcases h3 with h3 | ⟨g, cap, cur, hv, hg, hh, r⟩
    · exact .inl h3
    · exact .inr ⟨g, cap, cur, hv, hg, (hb g (by simp [Ent.ids, hv, Value.ownBlock])).trans hh, r⟩
theorem ids_append (l r : List Ent) : ids (l ++ r) = ids l ++ ids r := by simp [ids]
theorem ids_cons (x : Ent) (r : List Ent) : ids (x :: r) = x.ids ++ ids r := by simp [ids]
theorem HOk.upd {G : Gl} {w w' : World} {F : Nat → Prop} {l r : List Ent} {x x' : Ent} (h : HOk G w F (l ++ x :: r)) (hsz : w.heap.size ≤ w'.heap.size)
    (hw : ∀ b, b < w.heap.size → b ∉ x.ids → w'.heap[b]? = w.heap[b]?) (hi : ∀ b ∈ x'.ids, b ∈ x.ids ∨ w.heap.size ≤ b) (hn : x'.ids.Nodup) (hx : x'.ok w' (Al F (l ++ x' :: r))) : HOk G w' F (l ++ x' :: r) := by
  have hlt := h.lt
  have hnd := h.nodup
  have hfr := h.free
  simp only [ids_append, ids_cons, List.mem_append] at hlt hfr
  simp only [ids_append, ids_cons, List.nodup_append, List.mem_append] at hnd
  have hk : Keeps w (Al F (l ++ x :: r)) w' (Al F (l ++ x' :: r)) := by
    refine ⟨hsz, fun b hb ha => ?_⟩
    simp only [Al, ids_append, ids_cons, List.mem_append, not_or] at ha ⊢
    refine ⟨⟨ha.1, ha.2.1, fun hm => ?_, ha.2.2.2⟩, hw b hb ha.2.2.1⟩
    rcases hi b hm with h1 | h1
    · exact ha.2.2.1 h1
    · omega
  have hoth : ∀ y, y ∈ l ∨ y ∈ r → y.ok w' (Al F (l ++ x' :: r)) := by
    intro y hy
    have hok := h.ents y (by rcases hy with hy | hy <;> simp [hy])
    refine hok.keep hk fun b hb => hw b (hok.lt b hb) fun hbx => ?_
    rcases hy with hy | hy
    · exact hnd.2.2 b (by exact List.mem_flatMap.2 ⟨y, hy, hb⟩) b (.inl hbx) rfl
    · exact hnd.2.1.2.2 b hbx b (List.mem_flatMap.2 ⟨y, hy, hb⟩) rfl
  refine ⟨fun y hy => ?_, ?_, fun b hb => ?_, fun b hb => Nat.lt_of_lt_of_le (h.bound b hb) hsz, h.glob.keep hk⟩
  · simp only [List.mem_append, List.mem_cons] at hy
    rcases hy with hy | rfl | hy
    · exact hoth y (.inl hy)
    · exact hx
    · exact hoth y (.inr hy)
  · simp only [ids_append, ids_cons, List.nodup_append, List.mem_append]
    refine ⟨hnd.1, ⟨hn, hnd.2.1.2.1, fun a ha b hb hab => ?_⟩, fun a ha b hb hab => ?_⟩
    · subst hab
      rcases hi a ha with h1 | h1
      · exact hnd.2.1.2.2 a h1 a hb rfl
      · have := hlt a (.inr (.inr hb)); omega
    · subst hab
      rcases hb with hb | hb
      · rcases hi a hb with h1 | h1
        · exact hnd.2.2 a ha a (.inl h1) rfl
        · have := hlt a (.inl ha); omega
      · exact hnd.2.2 a ha a (.inr hb) rfl
  · simp only [ids_append, ids_cons, List.mem_append] at hb
    rcases hb with hb | hb | hb
    · exact hfr b (.inl hb)
    · rcases hi b hb with h1 | h1
      · exact hfr b (.inr (.inl h1))
      · intro hF; have := h.bound b hF; omega
    · exact hfr b (.inr (.inr hb))
theorem HOk.push {G : Gl} {w w' : World} {F : Nat → Prop} {η : List Ent} {x : Ent} (h : HOk G w F η) (hsz : w.heap.size ≤ w'.heap.size)
    (hw : ∀ b, b < w.heap.size → w'.heap[b]? = w.heap[b]?) (hi : ∀ b ∈ x.ids, w.heap.size ≤ b) (hn : x.ids.Nodup) (hx : x.ok w' (Al F (η ++ [x]))) : HOk G w' F (η ++ [x]) := by
  have hk : Keeps w (Al F η) w' (Al F (η ++ [x])) := by
    refine ⟨hsz, fun b hb ha => ?_⟩
    simp only [Al, ids_append, ids_cons, List.mem_append, not_or] at ha ⊢
    exact ⟨⟨ha.1, ha.2, fun hm => by have := hi b hm; omega, by simp [ids]⟩, hw b hb⟩
  refine ⟨fun y hy => ?_, ?_, fun b hb => ?_, fun b hb => Nat.lt_of_lt_of_le (h.bound b hb) hsz, h.glob.keep hk⟩
  · simp only [List.mem_append, List.mem_cons, List.not_mem_nil, or_false] at hy
    rcases hy with hy | rfl
    · exact (h.ents y hy).keep hk fun b hb => hw b ((h.ents y hy).lt b hb)
    · exact hx
  · simp only [ids_append, ids_cons, List.nodup_append, List.mem_append]
    refine ⟨h.nodup, ⟨hn, by simp [ids], fun a _ b hb => by simp [ids] at hb⟩, fun a ha b hb hab => ?_⟩
    subst hab
    rcases hb with hb | hb
    · have h1 := h.lt a ha; have h2 := hi a hb; omega
    · simp [ids] at hb
  · simp only [ids_append, ids_cons, List.mem_append] at hb
    rcases hb with hb | hb | hb
    · exact h.free b hb
    · intro hF; have h1 := h.bound b hF; have h2 := hi b hb; omega
    · simp [ids] at hb
abbrev Sg := List (Nat × AV)
def look : Sg → Nat → Option AV
  | [], _ => none
  | (k, x) :: r, t => match Nat.beq k t with
    | true => some x
    | false => look r t
abbrev Sl := Nat → Option AV
abbrev SlOk (w : World) (A : Nat → Prop) (N : Nat) (a : Act) (s : Sl) : Prop :=
  a.tmps.size = N ∧ ∀ t x, s t = some x → t < N ∧ Rel w A x (a.tmps.getD t undef)
abbrev SgOk (w : World) (A : Nat → Prop) (N : Nat) (a : Act) (σ : Sg) : Prop := SlOk w A N a (look σ)
theorem SgOk.keep {w w' : World} {A A' : Nat → Prop} {N : Nat} {a : Act} {σ : Sg} (h : SgOk w A N a σ) (hk : Keeps w A w' A') : SgOk w' A' N a σ :=
  ⟨h.1, fun t x hx => ⟨(h.2 t x hx).1, Rel.keep hk (h.2 t x hx).2⟩⟩
theorem getD_set_same (tmps : Array Value) (d : Nat) (v : Value) (h : d < tmps.size) : (tmps.setIfInBounds d v).getD d undef = v := by
  simp [Array.getD, h]
theorem getD_set_other (tmps : Array Value) (d t : Nat) (v : Value) (h : d ≠ t) : (tmps.setIfInBounds d v).getD t undef = tmps.getD t undef := by
  simp only [Array.getD_eq_getD_getElem?, Array.getElem?_setIfInBounds, h, if_false]
def putS (dst : Option Nat) (x : AV) (σ : Sg) : Sg :=
  match dst with
  | some d => (d, x) :: σ
  | none => σ
theorem SgOk.put {w : World} {A : Nat → Prop} {N : Nat} {a : Act} {σ : Sg} (h : SgOk w A N a σ) (dst : Option Nat) (hd : ∀ d, dst = some d → d < N) {x : AV} {v : Value} (hx : Rel w A x v) :
    SgOk w A N (a.put dst v) (putS dst x σ) := by
  cases dst with
  | none => exact h
  | some d =>
    refine ⟨by simp [Act.put, h.1], fun t y hy => ?_⟩
    simp only [putS, look] at hy
    by_cases hdt : d = t
    · subst hdt
      have : Nat.beq d d = true := Nat.beq_refl d
      rw [this] at hy
      simp only [Option.some.injEq] at hy
      subst hy
      refine ⟨hd d rfl, ?_⟩
      simp only [Act.put]
      rw [getD_set_same _ _ _ (by rw [h.1]; exact hd d rfl)]
      exact hx
    · have : Nat.beq d t = false := by cases hb : Nat.beq d t with
        | false => rfl
        | true => exact absurd (Nat.eq_of_beq_eq_true hb) hdt
      rw [this] at hy
      simp only at hy
      obtain ⟨h1, h2⟩ := h.2 t y hy
      refine ⟨h1, ?_⟩
      simp only [Act.put]
      rw [getD_set_other _ _ _ _ hdt]
      exact h2
structure St (G : Gl) (N : Nat) (w : World) (F : Nat → Prop) (a : Act) (σ : Sg) (η : List Ent) : Prop where
  sg : SgOk w (Al F η) N a σ
  hp : HOk G w F η
  df : a.defers = []
inductive AE where
  | norm
  | exit (id : Nat)
  | ret
  | pan (x : AV)
def AE.rel (w : World) (A : Nat → Prop) : AE → Exit → Prop
  | .norm, e => e = .normal
  | .exit i, e => e = .exit i
  | .ret, e => e = .ret
  | .pan x, e => ∃ v, e = .panic [{ v, recovered := false }] ∧ Rel w A x v
abbrev AQ := AE → Sg → List Ent → Prop
def AE.sl (e : AE) (σ : Sg) : Sg := match e with
  | .pan _ => []
  | _ => σ
def CQ (G : Gl) (N : Nat) (F : Nat → Prop) (w0 : World) (η0 : List Ent) (Q : AQ) (e : Exit) (a : Act) (w : World) : Prop :=
  ∃ e0 σ η, Q e0 (e0.sl σ) η ∧ AE.rel w (Al F η) e0 e ∧ St G N w F a (e0.sl σ) η ∧ Ext η0 w0 η w
structure Cx where
  P : Program
  G : Gl
def AWP (C : Cx) (N : Nat) (c : Code) (Q : AQ) (σ : Sg) (η : List Ent) : Prop :=
  ∀ F w0 η0 a w, St C.G N w F a σ η → Ext η0 w0 η w → c.wp C.P (CQ C.G N F w0 η0 Q) a w
abbrev AE.then (next : Sg → List Ent → Prop) (Q : AQ) : AQ := fun e σ η => match e with
  | .norm => next σ η
  | .exit i => Q (.exit i) σ η
  | .ret => Q .ret σ η
  | .pan x => Q (.pan x) σ η
abbrev AE.inBlock (id : Nat) (Q : AQ) : AQ := fun e σ η => match e with
  | .norm => Q .norm σ η
  | .exit i => match Nat.beq i id with
    | true => Q .norm σ η
    | false => Q (.exit i) σ η
  | .ret => Q .ret σ η
  | .pan x => Q (.pan x) σ η
section
variable {C : Cx} {N : Nat} {Q : AQ} {σ : Sg} {η : List Ent}
theorem CQ.intro {G : Gl} {F : Nat → Prop} {w0 : World} {η0 : List Ent} {e : Exit} {a : Act} {w : World} (e0 : AE) (hr : AE.rel w (Al F η) e0 e) (hQ : Q e0 (e0.sl σ) η) (hs : St G N w F a (e0.sl σ) η) (hx : Ext η0 w0 η w) : CQ G N F w0 η0 Q e a w :=
  ⟨e0, σ, η, hQ, hr, hs, hx⟩
theorem AWP.skip (h : Q .norm σ η) : AWP C N .skip Q σ η := fun _ _ _ _ _ hs hx => wp_skip (CQ.intro .norm rfl h hs hx)
theorem AWP.exit {id : Nat} (h : Q (.exit id) σ η) : AWP C N (.exit id) Q σ η := fun _ _ _ _ _ hs hx => wp_exit (CQ.intro (.exit id) rfl h hs hx)
theorem AWP.ret (h : Q .ret σ η) : AWP C N .ret Q σ η := fun _ _ _ _ _ hs hx => wp_ret (CQ.intro .ret rfl h hs hx)
theorem AWP.label {l : Nat} (h : Q .norm σ η) : AWP C N (.label l) Q σ η := fun _ _ _ _ _ hs hx => wp_label (CQ.intro .norm rfl h hs hx)
theorem AWP.mono {c : Code} {Q' : AQ} (h : AWP C N c Q σ η) (hq : ∀ e σ η, Q e σ η → Q' e σ η) : AWP C N c Q' σ η := fun F w0 η0 a w hs hx =>
  wp_mono (h F w0 η0 a w hs hx) fun _ _ _ ⟨e0, σ', η', h1, h2⟩ => ⟨e0, σ', η', hq _ _ _ h1, h2⟩
theorem AWP.seq {x y : Code} (h : AWP C N x (AE.then (AWP C N y Q) Q) σ η) : AWP C N (.seq x y) Q σ η := fun F w0 η0 a w hs hx => by
  refine wp_seq (wp_mono (h F w0 η0 a w hs hx) ?_)
  rintro e a' w' ⟨e0, σ', η', h1, h2, h3, h4⟩
  cases e0 with
  | norm => simp only [AE.rel] at h2; subst h2; exact h1 F w0 η0 a' w' h3 h4
  | exit i => simp only [AE.rel] at h2; subst h2; exact ⟨.exit i, σ', η', h1, rfl, h3, h4⟩
  | ret => simp only [AE.rel] at h2; subst h2; exact ⟨.ret, σ', η', h1, rfl, h3, h4⟩
  | pan x => obtain ⟨v, rfl, h2⟩ := h2; exact ⟨.pan x, σ', η', h1, ⟨v, rfl, h2⟩, h3, h4⟩
theorem AWP.block {id : Nat} {c : Code} (h : AWP C N c (AE.inBlock id Q) σ η) : AWP C N (.block id c) Q σ η := fun F w0 η0 a w hs hx => by
  refine wp_block (wp_mono (h F w0 η0 a w hs hx) ?_)
  rintro e a' w' ⟨e0, σ', η', h1, h2, h3, h4⟩
  cases e0 with
  | norm => simp only [AE.rel] at h2; subst h2; exact ⟨.norm, σ', η', h1, rfl, h3, h4⟩
  | exit i =>
    simp only [AE.rel] at h2; subst h2
    simp only [Exit.inBlock]
    by_cases hi : i = id
    · subst hi
      simp only [AE.inBlock, Nat.beq_refl] at h1
      rw [if_pos rfl]
      exact ⟨.norm, σ', η', h1, rfl, h3, h4⟩
    · rw [if_neg hi]
      have : Nat.beq i id = false := by cases hb : Nat.beq i id with
        | false => rfl
        | true => exact absurd (Nat.eq_of_beq_eq_true hb) hi
      simp only [AE.inBlock, this] at h1
      exact ⟨.exit i, σ', η', h1, rfl, h3, h4⟩
  | ret => simp only [AE.rel] at h2; subst h2; exact ⟨.ret, σ', η', h1, rfl, h3, h4⟩
  | pan x => obtain ⟨v, rfl, h2⟩ := h2; exact ⟨.pan x, σ', η', h1, ⟨v, rfl, h2⟩, h3, h4⟩
def ev (s : Sl) : Operand → Option AV
  | .tmp t => s t
  | .const v => some (.v v)
  | .global g => some (.v (.pointer (some ⟨g, 0, none⟩)))
  | .func f => some (.v (.func (.func f) #[] #[]))
theorem ev_rel {w : World} {A : Nat → Prop} {a : Act} {s : Sl} (hs : SlOk w A N a s) {o : Operand} {x : AV} (h : ev s o = some x) : Rel w A x (a.eval o) := by
  cases o with
  | tmp t => exact (hs.2 t x h).2
  | const v => simp only [ev, Option.some.injEq] at h; subst h; simp [Rel, Act.eval]
  | global g => simp only [ev, Option.some.injEq] at h; subst h; simp [Rel, Act.eval]
  | func f => simp only [ev, Option.some.injEq] at h; subst h; simp [Rel, Act.eval]
theorem AWP.cond {c : Operand} {x y : Code} {t : Bool} (hc : ev (look σ) c = some (.v (.bool t))) (h1 : t = true → AWP C N x Q σ η) (h2 : t = false → AWP C N y Q σ η) : AWP C N (.cond c x y) Q σ η :=
  fun F w0 η0 a w hs hx => by
    have he := ev_rel hs.sg hc
    simp only [Rel] at he
    exact wp_cond_split he (fun ht => h1 ht F w0 η0 a w hs hx) (fun ht => h2 ht F w0 η0 a w hs hx)
def Weak (G : Gl) (N : Nat) (σ : Sg) (η : List Ent) (σ' : Sg) (η' : List Ent) : Prop :=
  ∀ F w a, St G N w F a σ η → St G N w F a σ' η' ∧ ∀ b ∈ ids η', b ∈ ids η
theorem AWP.weak {c : Code} {σ' : Sg} {η' : List Ent} (hw : Weak C.G N σ η σ' η') (h : AWP C N c Q σ' η') : AWP C N c Q σ η := fun F w0 η0 a w hs hx => by
  obtain ⟨h1, h2⟩ := hw F w a hs
  exact h F w0 η0 a w h1 (hx.trans ⟨rfl, rfl, rfl, Nat.le_refl _, fun _ _ _ => rfl, fun b hb => .inl (h2 b hb)⟩)
def pick : List Nat → Sg → Option Sg
  | [], _ => some []
  | t :: ts, σ => match look σ t, pick ts σ with
    | some x, some r => some ((t, x) :: r)
    | _, _ => none
theorem look_pick : ∀ {ts : List Nat} {σ σ' : Sg}, pick ts σ = some σ' → ∀ t x, look σ' t = some x → look σ t = some x
  | [], _, _, h, t, x, hx => by simp only [pick, Option.some.injEq] at h; subst h; simp [look] at hx
  | s :: ts, σ, σ', h, t, x, hx => by
    simp only [pick] at h
    split at h
    · rename_i y r h1 h2
      simp only [Option.some.injEq] at h
      subst h
      simp only [look] at hx
      cases hb : Nat.beq s t with
      | true =>
        have := Nat.eq_of_beq_eq_true hb
        subst this
        rw [hb] at hx
        simp only [Option.some.injEq] at hx
        subst hx
        exact h1
      | false => rw [hb] at hx; exact look_pick h2 t x hx
    · cases h
theorem Weak.pick {G : Gl} (ts : List Nat) {σ' : Sg} (h : pick ts σ = some σ') : Weak G N σ η σ' η := fun _ _ _ hs =>
  ⟨⟨⟨hs.sg.1, fun t x hx => hs.sg.2 t x (look_pick h t x hx)⟩, hs.hp, hs.df⟩, fun _ h => h⟩
theorem AWP.pick {c : Code} (ts : List Nat) {σ' : Sg} (hp : pick ts σ = some σ') (h : AWP C N c Q σ' η) : AWP C N c Q σ η := AWP.weak (Weak.pick ts hp) h
end
end Go.Bw
