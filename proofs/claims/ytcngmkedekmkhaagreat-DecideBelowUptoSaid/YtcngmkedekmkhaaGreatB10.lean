/-
  Own work. The program logic, tenth part: operations that yield one value, told of slots as a function; facts about what is handed on; calls that are handed a part of the heap; loops by rounds.
-/
import Derived.Test.YtcngmkedekmkhaaGreatB9
import Derived.LoopN
noncomputable section
namespace Go.Bw
open Go
section
variable {C : Cx} {N : Nat} {o : Oper} {s : Sl} {η : List Ent} {x : AV}
def restr (s : Sl) : List Nat → Sg
  | [] => []
  | t :: ts => match s t with
    | some x => (t, x) :: restr s ts
    | none => restr s ts
theorem look_restr {s : Sl} : ∀ {ts : List Nat} {t : Nat} {x : AV}, look (restr s ts) t = some x → t ∈ ts ∧ s t = some x
  | [], t, x, h => by simp [restr, look] at h
  | u :: ts, t, x, h => by
    simp only [restr] at h
    split at h
    · rename_i y hy
      simp only [look] at h
      cases hb : Nat.beq u t with
      | true =>
        rw [hb] at h; simp only [Option.some.injEq] at h; subst h
        have := Nat.eq_of_beq_eq_true hb; subst this
        exact ⟨by simp, hy⟩
      | false => rw [hb] at h; obtain ⟨h1, h2⟩ := look_restr h; exact ⟨by simp [h1], h2⟩
    · obtain ⟨h1, h2⟩ := look_restr h; exact ⟨by simp [h1], h2⟩
theorem look_restr_mem {s : Sl} : ∀ {ts : List Nat} {t : Nat}, t ∈ ts → look (restr s ts) t = s t
  | [], t, h => by cases h
  | u :: ts, t, h => by
    simp only [restr]
    by_cases hut : u = t
    · subst hut
      split
      · rename_i y hy; simp [look, hy]
      · rename_i hy
        cases hl : look (restr s ts) u with
        | none => exact hy.symm
        | some z => rw [(look_restr hl).2] at hy; cases hy
    · have ht : t ∈ ts := by simpa [Ne.symm hut] using h
      have hb : Nat.beq u t = false := by cases hb : Nat.beq u t with
        | false => rfl
        | true => exact absurd (Nat.eq_of_beq_eq_true hb) hut
      split
      · simp only [look, hb]; exact look_restr_mem ht
      · exact look_restr_mem ht
theorem OpP.ofS (h : OpS C N o (restr s (tmpsOf o)) η x) : OpP C N o s η x := fun F w a hN hd hh hs K Q k => by
  have hst : St C.G N w F a (restr s (tmpsOf o)) η := ⟨⟨hN, fun t y hy => by obtain ⟨h1, h2⟩ := look_restr hy; exact hs t h1 y h2⟩, hh, hd⟩
  obtain ⟨v, h1, h2⟩ := h F a w hst
  unfold Oper.wp
  rw [h2 w (Later.refl w), Oper.upon_value]
  exact k v w h1 (Cls.refl w)
theorem ev_restr {p : Operand} (h : p ∈ o.op.operands.toList) : ev (look (restr s (tmpsOf o))) p = ev s p := by
  cases p with
  | tmp t => exact look_restr_mem (List.mem_filterMap.2 ⟨.tmp t, h, rfl⟩)
  | const v => rfl
  | global g => rfl
  | func f => rfl
theorem evs_congr {s s' : Sl} : ∀ {l : List Operand}, (∀ p ∈ l, ev s' p = ev s p) → evs s' l = evs s l
  | [], _ => rfl
  | p :: l, h => by simp only [evs, h p (by simp), evs_congr (l := l) fun q hq => h q (by simp [hq])]
theorem fillA_congr {s s' : Sl} {fs : List (Nat × Nat × Nat × Bool)} : ∀ {l : List (Nat × Operand)} {cs : List AV}, (∀ p ∈ l, ev s' p.2 = ev s p.2) → fillA fs s' cs l = fillA fs s cs l
  | [], _, _ => rfl
  | (i, p) :: l, cs, h => by
    simp only [fillA, h (i, p) (by simp)]
    split
    · split
      · exact fillA_congr fun q hq => h q (by simp [hq])
      · rfl
    · rfl
theorem fillG_congr {s s' : Sl} {k : Nat} : ∀ {l : List (Nat × Operand)} {cs : List AV}, (∀ p ∈ l, ev s' p.2 = ev s p.2) → fillG k s' cs l = fillG k s cs l
  | [], _, _ => rfl
  | (i, p) :: l, cs, h => by
    simp only [fillG, h (i, p) (by simp)]
    split
    · split
      · exact fillG_congr fun q hq => h q (by simp [hq])
      · rfl
    · rfl
theorem aop_congr {T : Tab} {s s' : Sl} {op : Op} (h : ∀ p ∈ op.operands.toList, ev s' p = ev s p) : aop T s' op = aop T s op := by
  cases op with
  | makeFunc f a c =>
    have h1 : evs s' a.toList = evs s a.toList := evs_congr fun p hp => h p (by simp [Op.operands] at hp ⊢; exact .inl hp)
    have h2 : evs s' c.toList = evs s c.toList := evs_congr fun p hp => h p (by simp [Op.operands] at hp ⊢; exact .inr hp)
    cases f <;> simp only [aop, h1, h2]
  | build t ps =>
    simp only [aop]
    split
    · rw [fillA_congr fun p hp => h p.2 (by simp only [Op.operands, List.mem_map]; exact ⟨p, hp, rfl⟩)]
    · rfl
  | move x => exact h x (by simp [Op.operands])
  | assign x => exact h x (by simp [Op.operands])
  | pick c a b => simp only [aop, h c (by simp [Op.operands]), h a (by simp [Op.operands]), h b (by simp [Op.operands])]
  | binOp bop ot x y yt => simp only [aop, h x (by simp [Op.operands]), h y (by simp [Op.operands])]
  | unOp u t x => cases u <;> simp only [aop, h x (by simp [Op.operands])]
  | extract x i => simp only [aop, h x (by simp [Op.operands])]
  | field t x f => simp only [aop, h x (by simp [Op.operands])]
  | fieldAddr t x f => simp only [aop, h x (by simp [Op.operands])]
  | typeAssert x xt t ok => simp only [aop, h x (by simp [Op.operands])]
  | nilCheck x => simp only [aop, h x (by simp [Op.operands])]
  | load t x => simp only [aop, h x (by simp [Op.operands])]
  | makeInterface t x => simp only [aop, h x (by simp [Op.operands])]
  | convert a b x => simp only [aop, h x (by simp [Op.operands])]
  | _ => rfl
theorem OpP.aop {E : Env} (h : aop E.T s o.op = some x) : OpP E.toCx N o s η x :=
  OpP.ofS (opS_op (by rw [aop_congr fun p hp => ev_restr hp]; exact h))
theorem AOps.ofP {Q : AQ} {σ : Sg} {ops : Array Oper} {rest : List Oper} (hg : o.guard = none) (hd : dstB N o.dst = true) (h : OpP C N o (look σ) η x) (k : AOps C N ops rest Q (putS o.dst x σ) η) : AOps C N ops (o :: rest) Q σ η :=
  fun F w0 η0 a w hs hx => wpList_plain hg fun K hK => by
    refine h F w a hs.sg.1 hs.df hs.hp (fun t _ y hy => hs.sg.2 t y hy) _ _ fun v w' hv hc => ?_
    exact hK _ _ (k F w0 η0 _ w' (hs.put hc.ext (hs.hp.later hc.2.2.2) hd hv) (hx.trans hc.ext))
theorem AOps.ofN {Q : AQ} {σ : Sg} {ops : Array Oper} {rest : List Oper} {cells : List AV} {d : Nat} (hg : o.guard = none) (hd : o.dst = some d) (hdN : Nat.blt d N = true) (h : OpN C N o (look σ) η cells)
    (k : ∀ b, AOps C N ops rest Q ((d, .own η.length b 0) :: σ) (η ++ [.box b cells])) : AOps C N ops (o :: rest) Q σ η :=
  fun F w0 η0 a w hs hx => wpList_plain hg fun K hK => by
    refine h F w a hs.sg.1 hs.df hs.hp (fun t _ y hy => hs.sg.2 t y hy) _ _ fun vs e hv => ?_
    have hext := ext_alloc w (.cells vs.toArray e) η (.box w.heap.size cells) (by simp [Ent.ids])
    have hh : HOk C.G (w.alloc (.cells vs.toArray e)) F (η ++ [.box w.heap.size cells]) := by
      refine hs.hp.push (by simp) (fun b hb => alloc_later w _ b hb) (by simp [Ent.ids]) (by simp [Ent.ids]) ?_
      exact ⟨e, vs, alloc_new w _, hv.keep hext.keeps⟩
    have := hK _ _ (k w.heap.size F w0 η0 _ _ (hs.put (dst := o.dst) (x := .own η.length w.heap.size 0) (v := .pointer (some ⟨w.heap.size, 0, none⟩)) hext hh (by rw [hd]; exact hdN) (by simp only [Rel]) |> fun z => by rw [hd] at z; exact z) (hx.trans hext))
    rw [hd]
    exact this
end
section
variable {E : Env} {N : Nat} {o : Oper} {s : Sl} {η : List Ent}
theorem evP {w : World} {A : Nat → Prop} {a : Act} (hN : a.tmps.size = N) (hs : OpdOk w A N a o s) {p : Operand} (hp : p ∈ o.op.operands.toList) {x : AV} (h : ev s p = some x) : Rel w A x (a.eval p) := by
  cases p with
  | tmp t => exact (hs t (List.mem_filterMap.2 ⟨.tmp t, hp, rfl⟩) x h).2
  | const v => simp only [ev, Option.some.injEq] at h; subst h; simp [Rel, Act.eval]
  | global g => simp only [ev, Option.some.injEq] at h; subst h; simp [Rel, Act.eval]
  | func f => simp only [ev, Option.some.injEq] at h; subst h; simp [Rel, Act.eval]
theorem OpN.box {t : TypeId} {x : Operand} {y : AV} (ho : o.op = .box t x) (hx : ev s x = some y) : OpN E.toCx N o s η (cellsA y) := fun F w a hN _ _ hs K Q k => by
  have hr := evP hN hs (by simp [ho, Op.operands]) hx
  have := k (a.eval x).cells.toList t (cellsA_rel hr)
  unfold Oper.wp
  have hrun : (execOp a.eval o).run E.P w = .ok (.value (.pointer (some ⟨w.heap.size, 0, none⟩))) (w.alloc (.cells (a.eval x).cells t)) := by simp [execOp, ho, Instr.box, newVar, newRow]
  rw [hrun, Oper.upon_value]
  simpa using this
theorem OpN.alloc {t : TypeId} {d : TD} {sz by' : Nat} {z : List Value} (ho : o.op = .alloc t) (ht : tget E.T t = some ⟨d, sz, by', z⟩) : OpN E.toCx N o s η (z.map .v) := fun F w a hN _ _ hs K Q k => by
  obtain ⟨_, ti, _, hi, _, _, _, zv, hz1, hz2⟩ := tiB_spec (E.tok _ _ ht)
  have hzc : zv.cells = z.toArray := by apply Array.ext'; simpa using hz2
  have := k z t (relL_map_v _)
  unfold Oper.wp
  have hrun : (execOp a.eval o).run E.P w = .ok (.value (.pointer (some ⟨w.heap.size, 0, none⟩))) (w.alloc (.cells z.toArray t)) := by
    simp [execOp, ho, Instr.alloc, zeroValue, typeInfo, hi, hz1, newVar, newRow, hzc]
  rw [hrun, Oper.upon_value]
  exact this
theorem OpN.frozen {C : Cx} {cells : List AV} (h : OpN C N o s η cells) : OpP C N o s η (.ip cells) := fun F w a hN hd hh hs K Q k => by
  refine h F w a hN hd hh hs K Q fun vs e hv => ?_
  have hc : Cls w (w.alloc (.cells vs.toArray e)) := ⟨rfl, rfl, rfl, by simp, fun b hb => alloc_later w _ b hb⟩
  refine k _ _ ?_ hc
  simp only [Rel]
  refine ⟨w.heap.size, 0, vs, rfl, ⟨by simp, ?_, fun hm => ?_⟩, hv.keep (hc.ext (η := η)).keeps, fun j u hj => ?_⟩
  · exact fun hF => absurd (hh.bound _ hF) (Nat.lt_irrefl _)
  · exact absurd (hh.lt _ hm) (Nat.lt_irrefl _)
  · exact cell_of_heap (alloc_new w _) _ _ (by simpa using hj)
theorem OpP.lit {t : TypeId} {n : Nat} {parts : Array (Nat × Operand)} {e k sz by' sz' by'' : Nat} {z z' : List Value} {td' : TD} {cells : List AV} (ho : o.op = .buildSlice t n parts)
    (ht : tget E.T t = some ⟨.slice e k, sz, by', z⟩) (hte : tget E.T e = some ⟨td', sz', by'', z'⟩) (hf : fillG k s (reps n (z'.map .v)) parts.toList = some cells) (hb : Nat.ble (n * k) 16777216 = true) (hk : Nat.ble 1 k = true) :
    OpP E.toCx N o s η (.sl k (chunk n k cells)) := fun F w a hN hd hh hs K Q kk => by
  have hst : St E.G N w F a (restr s (tmpsOf o)) η := ⟨⟨hN, fun t y hy => by obtain ⟨h1, h2⟩ := look_restr hy; exact hs t h1 y h2⟩, hh, hd⟩
  have hf' : fillG k (look (restr s (tmpsOf o))) (reps n (z'.map .v)) parts.toList = some cells := by
    rw [fillG_congr fun p hp => ev_restr (by rw [ho]; simp only [Op.operands, List.mem_map]; exact ⟨p, hp, rfl⟩)]; exact hf
  obtain ⟨us, h1, h2, h3⟩ := lit_core (d := o.dst) (ty := o.type) (pos := o.pos) (after := o.after) (gd := o.guard) ht hte hf' hb hk hst
  have hk := Nat.le_of_ble_eq_true hk
  have hb := Nat.le_of_ble_eq_true hb
  have ho' : o = ⟨o.dst, .buildSlice t n parts, o.type, o.pos, o.after, o.guard⟩ := by rw [← ho]
  rw [← ho'] at h1
  unfold Oper.wp
  rw [h1, Oper.upon_value]
  have hc : Cls w (w.alloc (.cells us e)) := ⟨rfl, rfl, rfl, by simp, fun b hb => alloc_later w _ b hb⟩
  refine kk _ _ ?_ hc
  simp only [Rel]
  refine .inr ⟨w.heap.size, 0, n, us.toList, by rw [chunk_length], ⟨by simp, fun hF => absurd (hh.bound _ hF) (Nat.lt_irrefl _), fun hm => absurd (hh.lt _ hm) (Nat.lt_irrefl _)⟩, by rw [chunk_length]; exact Nat.le_refl _, ?_, h2.keep (hc.ext (η := η)).keeps, fun j u hj => ?_⟩
  · have : n ≤ n * k := Nat.le_mul_of_pos_right n hk
    simp only [maxLen]; omega
  · have h4 : (w.alloc (.cells us e)).heap[w.heap.size]? = some (.cells us.toList.toArray e (0, 0)) := by simpa using alloc_new w (.cells us e)
    exact cell_of_heap h4 _ _ (by simpa using hj)
theorem OpP.pure {C : Cx} {f : Operand} {args : List Operand} {g : FuncId} {xs : List AV} {res : AV} {tys : Array TypeId} (ho : o.op = .call { callee := .value f, args := args.toArray, argTypes := tys })
    (h : Pure C g xs (.ret res)) (hc : callee s f args = some (g, xs)) : OpP C N o s η res := fun F w a hN hd hh hs K Q k => by
  have hop : o.op.operands.toList = f :: args ∨ ∀ p, p = f ∨ p ∈ args → p ∈ o.op.operands.toList := by
    right
    rintro p hp
    rw [ho]
    rcases hp with rfl | hp
    · simp [Op.operands, Call.operands]
    · simp [Op.operands, Call.operands, hp]
  have hmem : ∀ p, p = f ∨ p ∈ args → p ∈ o.op.operands.toList := by
    rcases hop with h | h
    · intro p hp; rw [h]; simpa using hp
    · exact h
  have hc' : callee (look (restr s (tmpsOf o))) f args = some (g, xs) := by
    unfold callee at hc ⊢
    rw [ev_restr (hmem f (.inl rfl)), evs_congr fun p hp => ev_restr (hmem p (.inr hp))]
    exact hc
  have hsl : SlOk w (Al F η) N a (look (restr s (tmpsOf o))) := ⟨hN, fun t y hy => by obtain ⟨h1, h2⟩ := look_restr hy; exact hs t h1 y h2⟩
  obtain ⟨vs, h1, h2⟩ := callee_run (P := C.P) hsl hc' (tys := tys) (dst := o.dst) (ty := o.type) (pos := o.pos) (after := o.after) (gd := o.guard) h.1
  have ho' : o = ⟨o.dst, .call { callee := .value f, args := args.toArray, argTypes := tys }, o.type, o.pos, o.after, o.guard⟩ := by rw [← ho]
  rw [← ho'] at h2
  unfold Oper.wp
  rw [h2 w, Oper.upon_enter]
  refine (h.run hh h1).mono ?_
  rintro e w' ⟨⟨v, rfl, hv⟩, _, hext, hsame⟩
  exact k v w' hv ⟨hext.os, hext.tape, hext.output, hext.size, hsame⟩
theorem HOk.facts {G : Gl} {w : World} {F : Nat → Prop} {η η' : List Ent} (h : HOk G w F η) (hsub : (ids η').Sublist (ids η)) (hent : ∀ x ∈ η', x ∈ η ∨ ∃ y v, x = .fact y v ∧ Rel w (Al F η') y v) : HOk G w F η' := by
  have hs : ∀ b ∈ ids η', b ∈ ids η := fun b hb => hsub.subset hb
  have hkeep : Keeps w (Al F η) w (Al F η') := ⟨Nat.le_refl _, fun b _ h => ⟨⟨h.1, fun hm => h.2 (hs b hm)⟩, rfl⟩⟩
  refine ⟨fun x hx => ?_, hsub.nodup h.nodup, fun b hb => h.free b (hs b hb), h.bound, h.glob.keep hkeep⟩
  rcases hent x hx with hx | ⟨y, v, rfl, hr⟩
  · exact (h.ents x hx).keep hkeep fun _ _ => rfl
  · exact hr
theorem Keeps.sub {w : World} {F : Nat → Prop} {η η' : List Ent} (hs : ∀ b ∈ ids η', b ∈ ids η) : Keeps w (Al F η) w (Al F η') :=
  ⟨Nat.le_refl _, fun _ _ h => ⟨⟨h.1, fun hm => h.2 (hs _ hm)⟩, rfl⟩⟩
theorem AOps.acall {C : Cx} {Q : AQ} {σ : Sg} {ops : Array Oper} {rest : List Oper} {f : Operand} {args : List Operand} {g : FuncId} {xs : List AV} {Q' : AR → List Ent → Prop} {tys : Array TypeId} {dst : Option Nat} {ty : TypeId} {pos : String} {after : Array Edge}
    (h : ACall C g xs η Q') (hc : callee (look σ) f args = some (g, xs)) (hd : dstB N dst = true) (k1 : ∀ x η', Q' (.ret x) η' → AOps C N ops rest Q (putS dst x σ) η') (k2 : ∀ x η', Q' (.pan x) η' → Q (.pan x) [] η') :
    AOps C N ops (⟨dst, .call { callee := .value f, args := args.toArray, argTypes := tys }, ty, pos, after, none⟩ :: rest) Q σ η := fun F w0 η0 a w hs hx => by
  unfold wpList
  rw [if_pos (by simp [Region.wanted])]
  refine .inl ?_
  obtain ⟨vs, h1, h2⟩ := callee_run (P := C.P) hs.sg hc (tys := tys) (dst := dst) (ty := ty) (pos := pos) (after := after) (gd := none) h.1
  unfold Oper.wp
  rw [h2 w, Oper.upon_enter]
  refine (h.2 F w vs hs.hp h1).mono ?_
  rintro e w' ⟨r, η', hQ, hv, hh, hext⟩
  cases r with
  | ret x =>
    obtain ⟨v, rfl, hv⟩ := hv
    exact k1 x η' hQ F w0 η0 _ w' (hs.put hext hh hd hv) (hx.trans hext)
  | pan x =>
    obtain ⟨v, rfl, hv⟩ := hv
    exact ⟨.pan x, [], η', k2 x η' hQ, ⟨v, rfl, hv⟩, ⟨⟨hs.sg.1, fun t x hx => by simp [AE.sl, look] at hx⟩, hh, hs.df⟩, hx.trans hext⟩
theorem ACall.frame {C : Cx} {g : FuncId} {xs : List AV} {ηs η ηr : List Ent} {Q' : AR → List Ent → Prop} (h : ACall C g xs ηs Q') (hp : (ηs ++ ηr).Perm η) :
    ACall C g xs η fun r η' => ∃ ηs', Q' r ηs' ∧ (ηs' ++ ηr) = η' := ⟨h.1, fun F w vs hH hargs => by
  have hH1 := hH.perm hp.symm
  have hA0 : Al (fun b => F b ∨ b ∈ ids ηr) ηs = Al F η := by rw [Al_front, Al_perm hp]
  refine (h.2 _ w vs hH1.front (by rw [hA0]; exact hargs)).mono ?_
  rintro e w' ⟨r, ηs', hQ, hv, hh, hext⟩
  have hlt := hH1.lt
  have hnd := hH1.nodup
  rw [ids_append, List.nodup_append] at hnd
  have hA : Al (fun b => F b ∨ b ∈ ids ηr) ηs' = Al F (ηs' ++ ηr) := Al_front
  rw [hA] at hv
  have hmem : ∀ b, b ∈ ids η ↔ b ∈ ids ηs ∨ b ∈ ids ηr := fun b => by rw [← (ids_perm hp).mem_iff, ids_append, List.mem_append]
  have hnew : ∀ b ∈ ids ηs', b ∈ ids ηs ∨ w.heap.size ≤ b := hext.new
  have hr : ∀ b ∈ ids ηr, b < w.heap.size ∧ b ∉ ids ηs := fun b hb => ⟨hlt b (by simp [ids_append, hb]), fun hm => hnd.2.2 b hm b hb rfl⟩
  have hE : Ext η w (ηs' ++ ηr) w' := by
    refine ⟨hext.os, hext.tape, hext.output, hext.size, fun b hb hn => hext.block b hb fun hm => hn ((hmem b).2 (.inl hm)), fun b hb => ?_⟩
    rw [ids_append, List.mem_append] at hb
    rcases hb with hb | hb
    · exact (hnew b hb).imp (fun hm => (hmem b).2 (.inl hm)) id
    · exact .inl ((hmem b).2 (.inr hb))
  have hk : Keeps w (Al F η) w' (Al F (ηs' ++ ηr)) := hE.keeps
  refine ⟨r, ηs' ++ ηr, ⟨ηs', hQ, rfl⟩, hv, ?_, hE⟩
  refine ⟨fun x hx => ?_, ?_, fun b hb => ?_, fun b hb => hh.bound b (.inl hb), hH.glob.keep hk⟩
  · rcases List.mem_append.1 hx with hx | hx
    · rw [← hA]; exact hh.ents x hx
    · have hx0 := hH1.ents x (by simp [hx])
      refine (hx0.keep (hE.keeps (F := F) |> fun z => by rw [← Al_perm hp] at z; exact z)) fun b hb => ?_
      have hbm : b ∈ ids ηr := List.mem_flatMap.2 ⟨x, hx, hb⟩
      exact hext.block b (hr b hbm).1 (hr b hbm).2
  · rw [ids_append, List.nodup_append]
    refine ⟨hh.nodup, hnd.2.1, fun a ha b hb hab => ?_⟩
    subst hab
    rcases hnew a ha with h1 | h1
    · exact (hr a hb).2 h1
    · have := (hr a hb).1; omega
  · rw [ids_append, List.mem_append] at hb
    rcases hb with hb | hb
    · exact fun hF => hh.free b hb (.inl hF)
    · exact hH.free b ((hmem b).2 (.inr hb))⟩
theorem ACall.perm {C : Cx} {g : FuncId} {xs : List AV} {η : List Ent} {Q' Q'' : AR → List Ent → Prop} (h : ACall C g xs η Q') (hq : ∀ r η', Q' r η' → ∃ η'', η'.Perm η'' ∧ Q'' r η'') : ACall C g xs η Q'' :=
  ⟨h.1, fun F w vs hH hargs => (h.2 F w vs hH hargs).mono fun e w' ⟨r, η', hQ, hv, hh, hext⟩ => by
    obtain ⟨η'', hp, hQ'⟩ := hq r η' hQ
    exact ⟨r, η'', hQ', by rw [← Al_perm hp]; exact hv, hh.perm hp, ⟨hext.os, hext.tape, hext.output, hext.size, hext.block, fun b hb => hext.new b ((ids_perm hp).mem_iff.2 hb)⟩⟩⟩
def ARounds (C : Cx) (N : Nat) (c : Code) (Q : AQ) : Nat → Sg → List Ent → Prop
  | 0 => fun _ _ => False
  | n + 1 => AWP C N c (AE.then (ARounds C N c Q n) Q)
theorem AWP.rounds {C : Cx} {c : Code} {Q : AQ} {σ : Sg} (n : Nat) (h : ARounds C N c Q n σ η) : AWP C N (.loop c) Q σ η := fun F w0 η0 a w hs hx => by
  refine wp_loop_rounds n ?_
  have key : ∀ n σ η a w, ARounds C N c Q n σ η → St C.G N w F a σ η → Ext η0 w0 η w → Code.rounds C.P c (CQ C.G N F w0 η0 Q) n a w := by
    intro n
    induction n with
    | zero => intro σ η a w h; exact h.elim
    | succ n ih =>
      intro σ η a w h hs hx
      rw [rounds_succ]
      refine wp_mono (h F w0 η0 a w hs hx) ?_
      rintro e a' w' ⟨e0, σ', η', h1, h2, h3, h4⟩
      cases e0 with
      | norm => simp only [AE.rel] at h2; subst h2; exact ih _ _ _ _ h1 h3 h4
      | exit i => simp only [AE.rel] at h2; subst h2; exact ⟨.exit i, σ', η', h1, rfl, h3, h4⟩
      | ret => simp only [AE.rel] at h2; subst h2; exact ⟨.ret, σ', η', h1, rfl, h3, h4⟩
      | pan x => obtain ⟨v, rfl, h2⟩ := h2; exact ⟨.pan x, σ', η', h1, ⟨v, rfl, h2⟩, h3, h4⟩
  exact key n σ η a w h hs hx
end
end Go.Bw
