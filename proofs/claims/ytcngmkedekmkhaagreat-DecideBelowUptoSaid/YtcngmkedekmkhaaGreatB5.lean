/-
  Own work. The program logic, fifth part: operations on memory, loops.
-/
import Derived.Test.YtcngmkedekmkhaaGreatB4
noncomputable section
namespace Go.Bw
open Go
theorem nth_split {α : Type} : ∀ {l : List α} {i : Nat} {x : α}, nth l i = some x → ∃ l1 l2, l = l1 ++ x :: l2 ∧ ∀ y, l.set i y = l1 ++ y :: l2
  | [], _, _, h => by simp [nth] at h
  | y :: r, 0, x, h => by simp only [nth, Option.some.injEq] at h; subst h; exact ⟨[], r, rfl, fun _ => rfl⟩
  | y :: r, n + 1, x, h => by
    simp only [nth] at h
    obtain ⟨l1, l2, rfl, h2⟩ := nth_split h
    exact ⟨y :: l1, l2, rfl, fun z => by simp [h2 z]⟩
section
variable {N : Nat} {Q : AQ} {σ : Sg} {η : List Ent} {ops : Array Oper} {rest : List Oper} {E : Env}
theorem alloc_later (w : World) (ob : Obj) (b : Nat) (hb : b < w.heap.size) : (w.alloc ob).heap[b]? = w.heap[b]? := by
  show (w.heap.push ob)[b]? = _
  rw [Array.getElem?_push, if_neg (by omega)]
theorem alloc_new (w : World) (ob : Obj) : (w.alloc ob).heap[w.heap.size]? = some ob := by
  show (w.heap.push ob)[w.heap.size]? = _
  simp
theorem ext_alloc (w : World) (ob : Obj) (η : List Ent) (x : Ent) (hx : ∀ b ∈ x.ids, w.heap.size ≤ b) : Ext η w (η ++ [x]) (w.alloc ob) :=
  ⟨rfl, rfl, rfl, by simp, fun b hb _ => alloc_later w ob b hb, fun b hb => by
    simp only [ids_append, ids_cons, List.mem_append] at hb
    rcases hb with hb | hb | hb
    · exact .inl hb
    · exact .inr (hx b hb)
    · simp [ids] at hb⟩
theorem opR_newbox {C : Cx} {o : Oper} {cells : List AV} (hrun : ∀ F a w, St C.G N w F a σ η → ∃ vs e, RelL w (Al F η) cells vs ∧ (execOp a.eval o).run C.P w = .ok (.value (.pointer (some ⟨w.heap.size, 0, none⟩))) (w.alloc (.cells (List.toArray vs) e))) :
    OpR C N o σ η (fun x η' => ∃ b, x = .own η.length b 0 ∧ η' = η ++ [.box b cells]) := fun F a w hs => by
  obtain ⟨vs, e, h1, h2⟩ := hrun F a w hs
  have hext := ext_alloc w (.cells vs.toArray e) η (.box w.heap.size cells) (by simp [Ent.ids])
  refine ⟨_, _, _, _, ⟨w.heap.size, rfl, rfl⟩, h2, by simp only [Rel], ?_, hext⟩
  refine hs.hp.push (by simp) (fun b hb => alloc_later w _ b hb) (by simp [Ent.ids]) (by simp [Ent.ids]) ?_
  exact ⟨e, vs, alloc_new w _, h1.keep hext.keeps⟩
theorem AOps.box {d : Nat} {t : TypeId} {x : Operand} {y : AV} {ty : TypeId} {pos : String} {after : Array Edge} (hx : ev (look σ) x = some y) (hd : Nat.blt d N = true)
    (k : ∀ b, AOps E.toCx N ops rest Q ((d, .own η.length b 0) :: σ) (η ++ [.box b (cellsA y)])) : AOps E.toCx N ops (⟨some d, .box t x, ty, pos, after, none⟩ :: rest) Q σ η :=
  AOps.opR rfl hd (opR_newbox (cells := cellsA y) fun F a w hs => ⟨(a.eval x).cells.toList, t, cellsA_rel (ev_rel hs.sg hx), by simp [execOp, Instr.box, newVar, newRow]⟩)
    (fun _ _ ⟨b, h1, h2⟩ => by subst h1; subst h2; exact k b)
theorem AOps.alloc {dd : Nat} {t : TypeId} {d : TD} {sz by' : Nat} {z : List Value} {ty : TypeId} {pos : String} {after : Array Edge} (ht : tget E.T t = some ⟨d, sz, by', z⟩) (hd : Nat.blt dd N = true)
    (k : ∀ b, AOps E.toCx N ops rest Q ((dd, .own η.length b 0) :: σ) (η ++ [.box b (z.map .v)])) : AOps E.toCx N ops (⟨some dd, .alloc t, ty, pos, after, none⟩ :: rest) Q σ η :=
  AOps.opR rfl hd (opR_newbox (cells := z.map .v) fun F a w hs => by
      obtain ⟨_, ti, _, hi, _, _, _, zv, hz1, hz2⟩ := tiB_spec (E.tok _ _ ht)
      have hzc : zv.cells = z.toArray := by apply Array.ext'; simpa using hz2
      refine ⟨z, t, relL_map_v _, ?_⟩
      simp [execOp, Instr.alloc, zeroValue, typeInfo, hi, hz1, newVar, newRow, hzc])
    (fun _ _ ⟨b, h1, h2⟩ => by subst h1; subst h2; exact k b)
def loadA (T : Tab) (t : TypeId) (cs : List AV) (o : Nat) : Option AV :=
  match tget T t with
  | some ⟨d, k, _, _⟩ => match d.agg with
    | true => match fits (cs.drop o) k with
      | true => some (.agg ((cs.drop o).take k))
      | false => none
    | false => nth cs o
  | none => none
theorem loadA_val {w : World} {A : Nat → Prop} {t b o : Nat} {cs : List AV} {vs : List Value} {x : AV} (h : loadA E.T t cs o = some x) (hr : RelL w A cs vs) :
    ∃ v, Rel w A x v ∧ ∀ w', (∀ j u, vs[j]? = some u → w'.cell? ⟨b, j, none⟩ = some u) → (loadVar t ⟨b, o, none⟩).run E.P w' = .ok v w' := by
  unfold loadA at h
  split at h
  · rename_i d k by' z ht
    have hc' : ∀ w' : World, (∀ j u, vs[j]? = some u → w'.cell? ⟨b, j, none⟩ = some u) → ∀ j u, (vs.drop o)[j]? = some u → w'.cell? ⟨b, o + j, none⟩ = some u := fun w' hc j u hj => hc _ _ (by rwa [List.getElem?_drop] at hj)
    split at h
    · rename_i hg
      split at h
      · rename_i hf
        simp only [Option.some.injEq] at h; subst h
        refine ⟨.agg ((vs.drop o).take k).toArray, by simp only [Rel]; exact ⟨_, rfl, (hr.drop o).take k⟩, fun w' hc => ?_⟩
        have := run_loadVar_cells (P := E.P) (v0 := undef) (E.tok _ _ ht) (b := b) (o := o) (vs := (vs.drop o).take k) (w' := w')
          (fun j u hj => hc' w' hc j u (by rw [List.getElem?_take] at hj; split at hj; exact hj; cases hj)) (fun _ => (hr.drop o).fits_take k hf) (fun hg' => by simp only at hg'; rw [hg] at hg'; cases hg')
        simpa [hg] using this
      · cases h
    · rename_i hg
      obtain ⟨v, h3, h4⟩ := hr.nth h
      refine ⟨v, h4, fun w' hc => ?_⟩
      have := run_loadVar_cells (P := E.P) (v0 := v) (E.tok _ _ ht) (b := b) (o := o) (vs := vs.drop o) (w' := w') (hc' w' hc) (fun hg' => by simp only at hg'; rw [hg] at hg'; cases hg') (fun _ => by rw [List.getElem?_drop]; simpa using h3)
      simpa [hg] using this
  · cases h
theorem loadA_at {w : World} {A : Nat → Prop} {t b s o : Nat} {cs : List AV} {vs : List Value} {x : AV} (h : loadA E.T t cs o = some x) (hr : RelL w A cs vs) :
    ∃ v, Rel w A x v ∧ ∀ w' : World, (∀ j u, vs[j]? = some u → w'.cell? ⟨b, s + j, none⟩ = some u) → (loadVar t ⟨b, s + o, none⟩).run E.P w' = .ok v w' := by
  unfold loadA at h
  split at h
  · rename_i d k by' z ht
    have hc' : ∀ w' : World, (∀ j u, vs[j]? = some u → w'.cell? ⟨b, s + j, none⟩ = some u) → ∀ j u, (vs.drop o)[j]? = some u → w'.cell? ⟨b, s + o + j, none⟩ = some u := fun w' hc j u hj => by
      rw [Nat.add_assoc]; exact hc _ _ (by rwa [List.getElem?_drop] at hj)
    split at h
    · rename_i hg
      split at h
      · rename_i hf
        simp only [Option.some.injEq] at h; subst h
        refine ⟨.agg ((vs.drop o).take k).toArray, by simp only [Rel]; exact ⟨_, rfl, (hr.drop o).take k⟩, fun w' hc => ?_⟩
        have := run_loadVar_cells (P := E.P) (v0 := undef) (E.tok _ _ ht) (b := b) (o := s + o) (vs := (vs.drop o).take k) (w' := w')
          (fun j u hj => hc' w' hc j u (by rw [List.getElem?_take] at hj; split at hj; exact hj; cases hj)) (fun _ => (hr.drop o).fits_take k hf) (fun hg' => by simp only at hg'; rw [hg] at hg'; cases hg')
        simpa [hg] using this
      · cases h
    · rename_i hg
      obtain ⟨v, h3, h4⟩ := hr.nth h
      refine ⟨v, h4, fun w' hc => ?_⟩
      have := run_loadVar_cells (P := E.P) (v0 := v) (E.tok _ _ ht) (b := b) (o := s + o) (vs := vs.drop o) (w' := w') (hc' w' hc) (fun hg' => by simp only at hg'; rw [hg] at hg'; cases hg') (fun _ => by rw [List.getElem?_drop]; simpa using h3)
      simpa [hg] using this
  · cases h
theorem cell_of_heap {w : World} {b : Nat} {vs : List Value} {e : TypeId} {fz : Nat × Nat} (h : w.heap[b]? = some (.cells vs.toArray e fz)) (j : Nat) (u : Value) (hj : vs[j]? = some u) : w.cell? ⟨b, j, none⟩ = some u := by
  simp [World.cell?, h, hj]
theorem opS_load {tg : Nat} {o : Oper} {t : TypeId} {p : Operand} (ho : o.op = .load t p) {i b off : Nat} {cs : List AV} {x : AV} (hp : ev (look σ) p = some (.own tg b off)) (hi : nth η i = some (.box b cs)) (hl : loadA E.T t cs off = some x) :
    OpS E.toCx N o σ η x := fun F a w hs => by
  have h1 := ev_rel hs.sg hp
  simp only [Rel] at h1
  obtain ⟨e, vs, h2, h3⟩ := ents_nth hs.hp hi
  have hb : b < w.heap.size := (Array.getElem?_eq_some_iff.1 h2).1
  obtain ⟨v, h4, h6⟩ := loadA_val (b := b) hl h3
  have h5 := fun w' (hw' : Later w w') => h6 w' (cell_of_heap ((hw'.2 b hb).trans h2))
  exact ⟨v, h4, fun w' hw' => by simp [execOp, ho, h1, Instr.loadAt, Instr.sureAddr, h5 w' hw']⟩
theorem AOps.load {tg : Nat} {i d : Nat} {t : TypeId} {p : Operand} {ty : TypeId} {pos : String} {after : Array Edge} {b off : Nat} {cs : List AV} {x : AV} (hp : ev (look σ) p = some (.own tg b off)) (hi : nth η i = some (.box b cs))
    (hl : loadA E.T t cs off = some x) (hn : Nat.blt d N = true) (k : AOps E.toCx N ops rest Q ((d, x) :: σ) η) : AOps E.toCx N ops (⟨some d, .load t p, ty, pos, after, none⟩ :: rest) Q σ η :=
  AOps.opS rfl rfl hn (opS_load rfl hp hi hl) k
def onesB : List AV → Bool
  | [] => true
  | .agg _ :: _ => false
  | .tup _ :: _ => false
  | .v x :: r => x.oneCell' && onesB r
  | _ :: r => onesB r
theorem onesB_one {w : World} {A : Nat → Prop} : ∀ {xs : List AV} {vs : List Value}, onesB xs = true → RelL w A xs vs → ∀ u ∈ vs, u.oneCell' = true
  | [], vs, _, h, u, hu => by simp only [RelL] at h; subst h; cases hu
  | x :: r, vs, ho, h, u, hu => by
    simp only [RelL] at h
    obtain ⟨v, r', rfl, h1, h2⟩ := h
    have : v.oneCell' = true ∧ onesB r = true := by
      cases x <;> simp only [onesB, Bool.and_eq_true] at ho <;> simp only [Rel] at h1
      · subst h1; exact ho
      · rcases h1 with ⟨_, a, c, rfl⟩ | ⟨b, o, c, ws, rfl, _⟩ <;> exact ⟨rfl, ho⟩
      · cases ho
      · cases ho
      · obtain ⟨b, o, ws, rfl, _⟩ := h1; exact ⟨rfl, ho⟩
      · subst h1; exact ⟨rfl, ho⟩
      · subst h1; exact ⟨rfl, ho⟩
      · obtain ⟨b, l, c, _, rfl⟩ := h1; exact ⟨rfl, ho⟩
      · subst h1; exact ⟨rfl, ho⟩
      · obtain ⟨us, ws, rfl, _⟩ := h1; exact ⟨rfl, ho⟩
      · obtain ⟨y, rfl, _⟩ := h1; exact ⟨rfl, ho⟩
    rcases List.mem_cons.1 hu with rfl | hu
    · exact this.1
    · exact onesB_one this.2 h2 u hu
theorem run_storeCells_row {P : Program} (b : Nat) (e : TypeId) : ∀ (us : List Value) (k o : Nat) (vs : List Value) (w : World), w.heap[b]? = some (.cells vs.toArray e (0, 0)) → o + k + us.length ≤ vs.length → (∀ u ∈ us, u.oneCell' = true) →
    ∃ w', (storeCells ⟨b, o, none⟩ us k).run P w = .ok () w' ∧ w'.heap[b]? = some (.cells (splice vs (o + k) us).toArray e (0, 0)) ∧ w'.os = w.os ∧ w'.tape = w.tape ∧ w'.output = w.output ∧ w'.heap.size = w.heap.size ∧ ∀ c, c ≠ b → w'.heap[c]? = w.heap[c]?
  | [], k, o, vs, w, h, _, _ => ⟨w, by simp [storeCells], by rw [splice_nil]; exact h, rfl, rfl, rfl, rfl, fun _ _ => rfl⟩
  | u :: us, k, o, vs, w, h, hl, h1 => by
    simp only [List.length_cons] at hl
    have hc : w.cell? ⟨b, o + k, none⟩ = some (vs[o + k]'(by omega)) := cell_of_heap h _ _ (by simp)
    have hf : w.frozen? ⟨b, o + k, none⟩ = false := by simp [World.frozen?, h]
    have hset : (w.setCell ⟨b, o + k, none⟩ u).heap[b]? = some (.cells (vs.set (o + k) u).toArray e (0, 0)) := by
      simp [World.setCell, Array.getElem?_modify, h]
    obtain ⟨w', h2, h3, h4, h5, h6, h7, h8⟩ := run_storeCells_row (P := P) b e us (k + 1) o (vs.set (o + k) u) (w.setCell ⟨b, o + k, none⟩ u) hset (by simp; omega) (fun x hx => h1 x (by simp [hx]))
    refine ⟨w', ?_, ?_, h4, h5, h6, by rw [h7]; simp, fun c hc => by rw [h8 c hc]; exact Go.RowKit.Below.heap_setCell w ⟨b, o + k, none⟩ u c hc⟩
    · simp only [storeCells, Addr.add_lit, Sem.run_bind, run_store P w _ u .plain (h1 u (by simp)), hc, hf, Bool.false_eq_true, if_false, Result.andThen_ok, h2]
    · rw [h3]
      have key : ∀ (m : Nat) (xs : List Value), m + us.length + 1 ≤ xs.length → splice (xs.set m u) (m + 1) us = splice xs m (u :: us) := by
        intro m
        induction m with
        | zero => intro xs hx; cases xs with
          | nil => simp at hx
          | cons x xs => cases xs <;> simp [splice, over]
        | succ m ih => intro xs hx; cases xs with
          | nil => simp at hx
          | cons x xs => simp only [List.set_cons_succ, splice]; rw [ih xs (by simp at hx; omega)]
      rw [← key (o + k) vs (by omega)]
      rfl
end
end Go.Bw
