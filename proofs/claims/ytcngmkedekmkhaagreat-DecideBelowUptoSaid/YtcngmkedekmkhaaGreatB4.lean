/-
  Own work. The program logic, fourth part: a region's operations one by one; calls; loops; entering a function.
-/
import Derived.Test.YtcngmkedekmkhaaGreatB3
noncomputable section
namespace Go.Bw
open Go
def AOps (C : Cx) (N : Nat) (ops : Array Oper) (rest : List Oper) (Q : AQ) (σ : Sg) (η : List Ent) : Prop :=
  ∀ F w0 η0 a w, St C.G N w F a σ η → Ext η0 w0 η w → wpList C.P ops (CQ C.G N F w0 η0 Q) rest a w
def dstB (N : Nat) : Option Nat → Bool
  | none => true
  | some d => Nat.blt d N
theorem dstB_spec {N : Nat} {dst : Option Nat} (h : dstB N dst = true) : ∀ d, dst = some d → d < N := by
  intro d hd; subst hd; simpa [dstB, Nat.blt_eq] using h
def OpR (C : Cx) (N : Nat) (o : Oper) (σ : Sg) (η : List Ent) (R : AV → List Ent → Prop) : Prop :=
  ∀ F a w, St C.G N w F a σ η → ∃ v w' x η', R x η' ∧ (execOp a.eval o).run C.P w = .ok (.value v) w' ∧ Rel w' (Al F η') x v ∧ HOk C.G w' F η' ∧ Ext η w η' w'
def OpU (C : Cx) (N : Nat) (o : Oper) (σ : Sg) (η η' : List Ent) : Prop :=
  ∀ F a w, St C.G N w F a σ η → ∃ w', (execOp a.eval o).run C.P w = .ok .skip w' ∧ HOk C.G w' F η' ∧ Ext η w η' w'
section
variable {C : Cx} {N : Nat} {Q : AQ} {σ : Sg} {η : List Ent} {ops : Array Oper} {rest : List Oper} {o : Oper}
theorem AWP.region {id : Nat} {l : List Oper} (h : AOps C N l.toArray l Q σ η) : AWP C N (.region id l.toArray false) Q σ η :=
  fun F w0 η0 a w hs hx => wp_region_lit (h F w0 η0 a w hs hx)
theorem AOps.nil (h : Q .norm σ η) : AOps C N ops [] Q σ η := fun _ _ _ _ _ hs hx => wpList_nil (CQ.intro .norm rfl h hs hx)
theorem AOps.id (h : AOps C N ops rest Q σ η) : AOps C N ops rest Q σ η := h
theorem AWP.id {c : Code} (h : AWP C N c Q σ η) : AWP C N c Q σ η := h
theorem AOps.weak {σ' : Sg} {η' : List Ent} (hw : Weak C.G N σ η σ' η') (h : AOps C N ops rest Q σ' η') : AOps C N ops rest Q σ η := fun F w0 η0 a w hs hx => by
  obtain ⟨h1, h2⟩ := hw F w a hs
  exact h F w0 η0 a w h1 (hx.trans ⟨rfl, rfl, rfl, Nat.le_refl _, fun _ _ _ => rfl, fun b hb => .inl (h2 b hb)⟩)
theorem St.put {G : Gl} {w w' : World} {F : Nat → Prop} {a : Act} {η' : List Ent} (hs : St G N w F a σ η) (hx : Ext η w η' w') (hh : HOk G w' F η') {dst : Option Nat} (hd : dstB N dst = true) {x : AV} {v : Value} (hv : Rel w' (Al F η') x v) :
    St G N w' F (a.put dst v) (putS dst x σ) η' :=
  ⟨(hs.sg.keep hx.keeps).put dst (dstB_spec hd) hv, hh, by cases dst <;> exact hs.df⟩
theorem AOps.opR {R : AV → List Ent → Prop} (hg : o.guard = none) (hd : dstB N o.dst = true) (h : OpR C N o σ η R) (k : ∀ x η', R x η' → AOps C N ops rest Q (putS o.dst x σ) η') :
    AOps C N ops (o :: rest) Q σ η := fun F w0 η0 a w hs hx => wpList_plain hg fun K hK => by
  obtain ⟨v, w', x, η', hR, hr, hv, hh, he⟩ := h F a w hs
  unfold Oper.wp
  rw [hr, Oper.upon_value]
  exact hK _ _ (k x η' hR F w0 η0 _ w' (hs.put he hh hd hv) (hx.trans he))
theorem AOps.opU {η' : List Ent} (hg : o.guard = none) (hd : o.dst = none) (h : OpU C N o σ η η') (k : AOps C N ops rest Q σ η') :
    AOps C N ops (o :: rest) Q σ η := fun F w0 η0 a w hs hx => wpList_plain hg fun K hK => by
  obtain ⟨w', hr, hh, he⟩ := h F a w hs
  unfold Oper.wp
  rw [hr, Oper.upon_skip, hd]
  exact hK _ _ (k F w0 η0 _ w' ⟨hs.sg.keep he.keeps, hh, hs.df⟩ (hx.trans he))
def OpS (C : Cx) (N : Nat) (o : Oper) (σ : Sg) (η : List Ent) (x : AV) : Prop :=
  ∀ F a w, St C.G N w F a σ η → ∃ v, Rel w (Al F η) x v ∧ ∀ w', Later w w' → (execOp a.eval o).run C.P w' = .ok (.value v) w'
theorem AOps.opS {x : AV} {d : Nat} (hg : o.guard = none) (hd : o.dst = some d) (hn : Nat.blt d N = true) (h : OpS C N o σ η x) (k : AOps C N ops rest Q ((d, x) :: σ) η) : AOps C N ops (o :: rest) Q σ η :=
  AOps.opR (R := fun y η' => y = x ∧ η' = η) hg (by rw [hd]; exact hn) (fun F a w hs => by
    obtain ⟨v, h1, h2⟩ := h F a w hs
    exact ⟨v, w, x, η, ⟨rfl, rfl⟩, h2 w (Later.refl w), h1, hs.hp, Ext.refl η w⟩) (fun y η' ⟨h1, h2⟩ => by subst h1; subst h2; rw [hd]; exact k)
theorem opS_op {E : Env} {x : AV} (h : aop E.T (look σ) o.op = some x) : OpS E.toCx N o σ η x := fun _ _ _ hs => aop_run (P := E.P) E.tok hs.sg h
theorem AOps.op {E : Env} {x : AV} {d : Nat} {op : Op} {ty : TypeId} {pos : String} {after : Array Edge} (h : aop E.T (look σ) op = some x) (hn : Nat.blt d N = true) (k : AOps E.toCx N ops rest Q ((d, x) :: σ) η) :
    AOps E.toCx N ops (⟨some d, op, ty, pos, after, none⟩ :: rest) Q σ η := AOps.opS rfl rfl hn (opS_op h) k
theorem AOps.guard {j d : Nat} {want t : Bool} (hg : o.guard = some (j, want)) (hj : (ops[j]?).bind (·.dst) = some d) (ht : look σ d = some (.v (.bool t)))
    (h1 : t = want → AOps C N ops ({ o with guard := none } :: rest) Q ((d, .v (.bool want)) :: σ) η) (h2 : t = !want → AOps C N ops rest Q (putS o.dst (.v undef) ((d, .v (.bool !want)) :: σ)) η)
    (hd : dstB N o.dst = true) : AOps C N ops (o :: rest) Q σ η := fun F w0 η0 a w hs hx => by
  obtain ⟨hlt, hv⟩ := hs.sg.2 d _ ht
  simp only [Rel] at hv
  have hy : yielded ops a.tmps j = some t := by
    have : a.tmps[d]? = some (.bool t) := by
      rw [Array.getD_eq_getD_getElem?] at hv
      rw [← hs.sg.1] at hlt
      simp [hlt] at hv ⊢
      exact hv
    simp [yielded, hj, this]
  have hst : ∀ b, t = b → St C.G N w F a ((d, .v (.bool b)) :: σ) η := fun b hb => by
    subst hb
    refine ⟨⟨hs.sg.1, fun s x hx => ?_⟩, hs.hp, hs.df⟩
    simp only [look] at hx
    cases hb : Nat.beq d s with
    | true => rw [hb] at hx; simp only [Option.some.injEq] at hx; subst hx; rw [← Nat.eq_of_beq_eq_true hb]; exact ⟨hlt, by simp only [Rel]; exact hv⟩
    | false => rw [hb] at hx; exact hs.sg.2 s x hx
  have hwant : Region.wanted o (yielded ops a.tmps) = (t == want) := by
    simp only [Region.wanted, hg, hy]
    cases t <;> cases want <;> rfl
  unfold wpList
  rw [hwant]
  by_cases htw : t = want
  · rw [if_pos (by simp [htw])]
    have := h1 htw F w0 η0 a w (hst want htw) hx
    unfold wpList at this
    rw [if_pos (by simp [Region.wanted])] at this
    exact this
  · rw [if_neg (by simp [htw])]
    have htn : t = !want := by cases t <;> cases want <;> simp_all
    exact h2 htn F w0 η0 _ w (St.put (hst _ htn) (Ext.refl η w) hs.hp hd (by simp only [Rel])) hx
theorem AOps.guardO {j d e : Nat} {want t : Bool} {op : Op} {ty : TypeId} {pos : String} {after : Array Edge} (hj : (ops[j]?).bind (·.dst) = some d) (ht : look σ d = some (.v (.bool t)))
    (h1 : t = want → AOps C N ops (⟨some e, op, ty, pos, after, none⟩ :: rest) Q ((d, .v (.bool want)) :: σ) η) (h2 : t = !want → AOps C N ops rest Q ((e, .v undef) :: (d, .v (.bool !want)) :: σ) η)
    (hd : Nat.blt e N = true) : AOps C N ops (⟨some e, op, ty, pos, after, some (j, want)⟩ :: rest) Q σ η := AOps.guard rfl hj ht h1 h2 hd
theorem AOps.guardU {j d e : Nat} {want : Bool} {op : Op} {ty : TypeId} {pos : String} {after : Array Edge} (hj : (ops[j]?).bind (·.dst) = some d) (ht : look σ d = some (.v undef))
    (h2 : AOps C N ops rest Q ((e, .v undef) :: σ) η) (hd : Nat.blt e N = true) : AOps C N ops (⟨some e, op, ty, pos, after, some (j, want)⟩ :: rest) Q σ η := fun F w0 η0 a w hs hx => by
  obtain ⟨hlt, hv⟩ := hs.sg.2 d _ ht
  simp only [Rel] at hv
  have hy : yielded ops a.tmps j = none := by
    have : a.tmps[d]? = some undef := by
      rw [Array.getD_eq_getD_getElem?] at hv
      rw [← hs.sg.1] at hlt
      simp [hlt] at hv ⊢
      exact hv
    simp [yielded, hj, this, undef]
  unfold wpList
  rw [if_neg (by simp [Region.wanted, hy])]
  exact h2 F w0 η0 _ w (St.put (dst := some e) hs (Ext.refl η w) hs.hp hd (by simp only [Rel])) hx
inductive AR where
  | ret (x : AV)
  | pan (x : AV)
def AR.rel (w : World) (A : Nat → Prop) : AR → Ending → Prop
  | .ret x, e => ∃ v, e = .returned v ∧ Rel w A x v
  | .pan x, e => ∃ v, e = .panicked [{ v, recovered := false }] ∧ Rel w A x v
def Callable (P : Program) (g : FuncId) : Prop := ∃ fn, P.funcs[g]? = some fn ∧ fn.body.isNone = false ∧ (fn.name == "runtime.NumGoroutine") = false
def ACall (C : Cx) (f : FuncId) (args : List AV) (η : List Ent) (Q : AR → List Ent → Prop) : Prop :=
  Callable C.P f ∧ ∀ F w vs, HOk C.G w F η → RelL w (Al F η) args vs →
    Calls C.P f vs.toArray w fun e w' => ∃ r η', Q r η' ∧ AR.rel w' (Al F η') r e ∧ HOk C.G w' F η' ∧ Ext η w η' w'
def Pure (C : Cx) (f : FuncId) (args : List AV) (res : AR) : Prop := ACall C f args [] fun r η' => r = res ∧ η' = []
theorem ACall.mono {f : FuncId} {args : List AV} {Q Q' : AR → List Ent → Prop} (h : ACall C f args η Q) (hq : ∀ r η', Q r η' → Q' r η') : ACall C f args η Q' :=
  ⟨h.1, fun F w vs h1 h2 => (h.2 F w vs h1 h2).mono fun _ _ ⟨r, η', hQ, rest⟩ => ⟨r, η', hq _ _ hQ, rest⟩⟩
def callee (σ : Sl) (f : Operand) (args : List Operand) : Option (FuncId × List AV) :=
  match ev σ f, evs σ args with
  | some (.v (.func (.func g) fa cs)), some xs => some (g, fa.toList.map .v ++ xs ++ cs.toList.map .v)
  | some (.fn g fs cs), some xs => some (g, fs ++ xs ++ cs)
  | _, _ => none
theorem callee_run {P : Program} {w : World} {A : Nat → Prop} {a : Act} {s : Sl} (hs : SlOk w A N a s) {f : Operand} {args : List Operand} {g : FuncId} {xs : List AV} (h : callee s f args = some (g, xs))
    {tys : Array TypeId} {dst : Option Nat} {ty : TypeId} {pos : String} {after : Array Edge} {gd : Option (Nat × Bool)} (hb : Callable P g) :
    ∃ vs : List Value, RelL w A xs vs ∧ ∀ w', (execOp a.eval ⟨dst, .call { callee := .value f, args := args.toArray, argTypes := tys }, ty, pos, after, gd⟩).run P w' = .ok (.enter g vs.toArray) w' := by
  obtain ⟨fn, hf, hbody, hname⟩ := hb
  have hcf : ∀ (ws : Array Value) (w' : World), (callFunc g ws).run P w' = .ok (.enter g ws) w' := by
    intro ws w'
    simp only [callFunc, Sem.run_bind, run_program, Result.andThen_ok, hf, hname, hbody, Bool.false_eq_true, if_false, Sem.run_pure]
  unfold callee at h
  split at h
  · rename_i g' fa cs ys h1 h2
    simp only [Option.some.injEq, Prod.mk.injEq] at h
    obtain ⟨rfl, rfl⟩ := h
    have h3 := ev_rel hs h1
    simp only [Rel] at h3
    have h4 := evs_rel hs h2
    refine ⟨fa.toList ++ args.map a.eval ++ cs.toList, ((relL_map_v _).append h4).append (relL_map_v _), fun w' => ?_⟩
    have : (fa ++ (args.map a.eval).toArray ++ cs) = (fa.toList ++ args.map a.eval ++ cs.toList).toArray := by apply Array.ext'; simp
    simp [execOp, resolve, h3, Deferred.ofValue, invoke]
    rw [← hcf]
    congr 2
    apply Array.ext'; simp
  · rename_i g' fs cs ys h1 h2
    simp only [Option.some.injEq, Prod.mk.injEq] at h
    obtain ⟨rfl, rfl⟩ := h
    have h3 := ev_rel hs h1
    simp only [Rel] at h3
    obtain ⟨us, ws, h3, h5', h5⟩ := h3
    have h4 := evs_rel hs h2
    refine ⟨us ++ args.map a.eval ++ ws, (h5'.append h4).append h5, fun w' => ?_⟩
    simp [execOp, resolve, h3, Deferred.ofValue, invoke, hcf]
    done
  · cases h
theorem Pure.run {g : FuncId} {xs : List AV} {res : AR} (h : Pure C g xs res) {F : Nat → Prop} {w : World} {vs : List Value} (hh : HOk C.G w F η) (hr : RelL w (Al F η) xs vs) :
    Calls C.P g vs.toArray w fun e w' => AR.rel w' (Al F η) res e ∧ HOk C.G w' F η ∧ Ext η w η w' ∧ ∀ b, b < w.heap.size → w'.heap[b]? = w.heap[b]? := by
  have hA' : Al (fun b => F b ∨ b ∈ ids η) [] = Al F η := funext fun b => propext (by simp [Al, ids])
  have hH : HOk C.G w (fun b => F b ∨ b ∈ ids η) [] := ⟨by simp, by simp [ids], by simp [ids], fun b hb => hb.elim (hh.bound b) (hh.lt b), by rw [hA']; exact hh.glob⟩
  refine (h.2 _ w vs hH (by rw [hA']; exact hr)).mono ?_
  rintro e w' ⟨r, η', ⟨rfl, rfl⟩, hv, _, he⟩
  rw [hA'] at hv
  have hext : Ext η w η w' := ⟨he.os, he.tape, he.output, he.size, fun b hb hn => he.block b hb (by simp [ids]), fun b hb => .inl hb⟩
  have hsame : ∀ b, b < w.heap.size → w'.heap[b]? = w.heap[b]? := fun b hb => he.block b hb (by simp [ids])
  exact ⟨hv, ⟨fun x hx => (hh.ents x hx).keep hext.keeps (fun b hb => hsame b ((hh.ents x hx).lt b hb)), hh.nodup, hh.free, fun b hb => Nat.lt_of_lt_of_le (hh.bound b hb) he.size, hh.glob.keep hext.keeps⟩, hext, hsame⟩
theorem AOps.pure {f : Operand} {args : List Operand} {g : FuncId} {xs : List AV} {res : AV} {tys : Array TypeId} {dst : Option Nat} {ty : TypeId} {pos : String} {after : Array Edge}
    (h : Pure C g xs (.ret res)) (hc : callee (look σ) f args = some (g, xs)) (hd : dstB N dst = true) (k : AOps C N ops rest Q (putS dst res σ) η) :
    AOps C N ops (⟨dst, .call { callee := .value f, args := args.toArray, argTypes := tys }, ty, pos, after, none⟩ :: rest) Q σ η := fun F w0 η0 a w hs hx => wpList_plain rfl fun K hK => by
  obtain ⟨vs, h1, h2⟩ := callee_run (P := C.P) hs.sg hc (tys := tys) (dst := dst) (ty := ty) (pos := pos) (after := after) (gd := none) h.1
  unfold Oper.wp
  rw [h2 w, Oper.upon_enter]
  refine (h.run hs.hp h1).mono ?_
  rintro e w' ⟨⟨v, rfl, hv⟩, hh, hext, _⟩
  exact hK _ _ (k F w0 η0 _ w' (hs.put hext hh hd hv) (hx.trans hext))
def sig0 : Nat → List AV → Sg
  | _, [] => []
  | n, x :: xs => (n, x) :: sig0 (n + 1) xs
theorem look_sig0 : ∀ {xs : List AV} {n t : Nat} {x : AV}, look (sig0 n xs) t = some x → n ≤ t ∧ xs[t - n]? = some x
  | [], n, t, x, h => by simp [sig0, look] at h
  | y :: ys, n, t, x, h => by
    simp only [sig0, look] at h
    cases hb : Nat.beq n t with
    | true =>
      rw [hb] at h; simp only [Option.some.injEq] at h; subst h
      have := Nat.eq_of_beq_eq_true hb; subst this; simp
    | false =>
      rw [hb] at h
      obtain ⟨h1, h2⟩ := look_sig0 h
      refine ⟨by omega, ?_⟩
      rw [show t - n = (t - (n + 1)) + 1 by omega]
      simpa using h2
theorem RelL.get {w : World} {A : Nat → Prop} : ∀ {xs : List AV} {vs : List Value} {n : Nat} {x : AV}, RelL w A xs vs → xs[n]? = some x → ∃ v, vs[n]? = some v ∧ Rel w A x v :=
  fun h hx => h.nth (by rw [nth_eq]; exact hx)
inductive ResOk (T : Tab) (σ : Sg) (η : List Ent) : ResultVar → AV → Prop where
  | tmp {t : Nat} {x : AV} : look σ t = some x → ResOk T σ η (.tmp t) x
  | cellI {a t : Nat} {cs : List AV} {d : TD} {k b : Nat} {z : List Value} : look σ a = some (.ip cs) → tget T t = some ⟨d, k, b, z⟩ → d.agg = true → fits cs k = true → ResOk T σ η (.cell a t) (.agg (cs.take k))
  | cellB {tg i a t bk : Nat} {cs : List AV} {d : TD} {k b : Nat} {z : List Value} : look σ a = some (.own tg bk 0) → nth η i = some (.box bk cs) → tget T t = some ⟨d, k, b, z⟩ → d.agg = true → fits cs k = true →
      ResOk T σ η (.cell a t) (.agg (cs.take k))
  | cellB1 {tg i a t bk : Nat} {c : AV} {cs : List AV} {d : TD} {k b : Nat} {z : List Value} : look σ a = some (.own tg bk 0) → nth η i = some (.box bk (c :: cs)) → tget T t = some ⟨d, k, b, z⟩ → d.agg = false →
      ResOk T σ η (.cell a t) c
def resSem (a : Act) : ResultVar → Sem Value
  | .tmp t => pure (a.tmps.getD t undef)
  | .cell p t => do loadVar t (← asAddr (a.tmps.getD p undef))
theorem results_eq {fn : Func} {rs : List ResultVar} (h : fn.results = rs.toArray) (a : Act) :
    results fn a.tmps = (do let vs ← rs.toArray.mapM (resSem a); pure (if h : vs.size = 1 then vs[0] else .tuple vs)) := by
  unfold results
  rw [h]
  have hf : ∀ (f g : ResultVar → Sem Value), (∀ r, f r = g r) → rs.toArray.mapM f = rs.toArray.mapM g := fun f g hfg => by rw [funext hfg]
  rw [hf _ (resSem a) (fun r => by cases r <;> rfl)]
theorem ents_nth {G : Gl} {w : World} {F : Nat → Prop} (h : HOk G w F η) {i : Nat} {x : Ent} (hi : nth η i = some x) : x.ok w (Al F η) :=
  h.ents x (List.mem_of_getElem? (by rw [← nth_eq]; exact hi))
theorem ResOk.run {E : Env} {G : Gl} {w : World} {F : Nat → Prop} {a : Act} (hs : St G N w F a σ η) {r : ResultVar} {x : AV} (h : ResOk E.T σ η r x) :
    ∃ v, Rel w (Al F η) x v ∧ (resSem a r).run E.P w = .ok v w := by
  cases h with
  | tmp h => exact ⟨_, (hs.sg.2 _ _ h).2, rfl⟩
  | cellI h ht hg hf =>
    rename_i p t cs d k b z
    have h1 := (hs.sg.2 _ _ h).2
    simp only [Rel] at h1
    obtain ⟨b', o', vs, e1, e2, e3, e4⟩ := h1
    refine ⟨.agg (vs.take k).toArray, by simp only [Rel]; exact ⟨_, rfl, e3.take k⟩, ?_⟩
    have := run_loadVar_cells (P := E.P) (v0 := undef) (E.tok _ _ ht) (b := b') (o := o') (vs := vs.take k) (w' := w)
      (fun j u hj => e4 j u (by rw [List.getElem?_take] at hj; split at hj; exact hj; cases hj)) (fun _ => e3.fits_take k hf) (fun hg' => by simp only at hg'; rw [hg] at hg'; cases hg')
    simp only at this
    simp [resSem, e1, asAddr, this, hg]
  | cellB h hi ht hg hf =>
    rename_i i p t bk cs d k b z
    have h1 := (hs.sg.2 _ _ h).2
    simp only [Rel] at h1
    obtain ⟨e, vs, e3, e4⟩ := ents_nth hs.hp hi
    refine ⟨.agg (vs.take k).toArray, by simp only [Rel]; exact ⟨_, rfl, e4.take k⟩, ?_⟩
    have := run_loadVar_cells (P := E.P) (v0 := undef) (E.tok _ _ ht) (b := bk) (o := 0) (vs := vs.take k) (w' := w)
      (fun j u hj => by
        have hj' : vs[j]? = some u := by rw [List.getElem?_take] at hj; split at hj; exact hj; cases hj
        simp [World.cell?, e3, hj']) (fun _ => e4.fits_take k hf) (fun hg' => by simp only at hg'; rw [hg] at hg'; cases hg')
    simp only at this
    simp [resSem, h1, asAddr, this, hg]
  | cellB1 h hi ht hg =>
    rename_i i p t bk cs d k b z
    have h1 := (hs.sg.2 _ _ h).2
    simp only [Rel] at h1
    obtain ⟨e, vs, e3, e4⟩ := ents_nth hs.hp hi
    simp only [RelL] at e4
    obtain ⟨v, r, rfl, e5, _⟩ := e4
    refine ⟨v, e5, ?_⟩
    have := run_loadVar_cells (P := E.P) (v0 := v) (E.tok _ _ ht) (b := bk) (o := 0) (vs := v :: r) (w' := w)
      (fun j u hj => by simp [World.cell?, e3, hj]) (fun hg' => by simp only at hg'; rw [hg] at hg'; cases hg') (fun _ => rfl)
    simp only at this
    simp [resSem, h1, asAddr, this, hg]
def packA : List AV → AV
  | [x] => x
  | xs => .tup xs
inductive ResL (T : Tab) (σ : Sg) (η : List Ent) : List ResultVar → List AV → Prop where
  | nil : ResL T σ η [] []
  | cons {r : ResultVar} {x : AV} {rs : List ResultVar} {xs : List AV} : ResOk T σ η r x → ResL T σ η rs xs → ResL T σ η (r :: rs) (x :: xs)
theorem resL_run {E : Env} {G : Gl} {w : World} {F : Nat → Prop} {a : Act} (hs : St G N w F a σ η) : ∀ {rs : List ResultVar} {xs : List AV}, ResL E.T σ η rs xs →
    ∃ vs, RelL w (Al F η) xs vs ∧ (rs.mapM (resSem a)).run E.P w = .ok vs w
  | _, _, .nil => ⟨[], by simp [RelL], by simp⟩
  | _, _, .cons h t => by
    obtain ⟨v, h1, h2⟩ := h.run (E := E) hs
    obtain ⟨vs, h3, h4⟩ := resL_run hs t
    exact ⟨v :: vs, by simp only [RelL]; exact ⟨v, vs, rfl, h1, h3⟩, by simp only [List.mapM_cons, Sem.run_bind, h2, h4, Result.andThen_ok, Sem.run_pure]⟩
def RQ (T : Tab) (rs : List ResultVar) (Q : AR → List Ent → Prop) (σ : Sg) (η : List Ent) : Prop :=
  ∃ xs, ResL T σ η rs xs ∧ Q (.ret (packA xs)) η
def BQ (T : Tab) (rs : List ResultVar) (Q : AR → List Ent → Prop) : AQ := fun e σ η => match e with
  | .pan x => Q (.pan x) η
  | .exit _ => False
  | .norm => RQ T rs Q σ η
  | .ret => RQ T rs Q σ η
theorem ACall.enter {E : Env} {f : FuncId} {fn : Func} {c : Code} {args : List AV} {Q : AR → List Ent → Prop} (hf : E.P.funcs[f]? = some fn) (hb : fn.body = some c) (hname : (fn.name == "runtime.NumGoroutine") = false)
    (rs : List ResultVar) (hrs : fn.results = rs.toArray) (nt : Nat) (hnt : fn.ntmps = nt) (hn : Nat.ble args.length nt = true) (h : AWP E.toCx nt c (BQ E.T rs Q) (sig0 0 args) η) : ACall E.toCx f args η Q := by
  subst hnt
  have hn := Nat.le_of_ble_eq_true hn
  refine ⟨⟨fn, hf, by simp [hb], hname⟩, fun F w vs hH hargs => ?_⟩
  refine calls_of_wp hf hb ?_
  have hl := hargs.length
  have hsz : (vs.toArray ++ Array.replicate (fn.ntmps - vs.toArray.size) undef).size = fn.ntmps := by simp; omega
  refine wp_mono (h F w η { tmps := vs.toArray ++ Array.replicate (fn.ntmps - vs.toArray.size) undef, defers := [] } w ⟨⟨hsz, fun t x hx => ?_⟩, hH, rfl⟩ (Ext.refl η w)) ?_
  · obtain ⟨_, h2⟩ := look_sig0 hx
    simp only [Nat.sub_zero] at h2
    obtain ⟨v, h3, h4⟩ := hargs.get h2
    have hlt : t < vs.length := (List.getElem?_eq_some_iff.1 h3).1
    refine ⟨by omega, ?_⟩
    have : (vs.toArray ++ Array.replicate (fn.ntmps - vs.toArray.size) undef).getD t undef = v := by
      rw [Array.getD_eq_getD_getElem?, Array.getElem?_append_left (by simpa using hlt)]
      simp [h3]
    rw [this]; exact h4
  · rintro e a' w' ⟨e0, σ1, η', hQ, hr, hs, hx⟩
    obtain ⟨σ', hσ⟩ : ∃ σ', σ' = e0.sl σ1 := ⟨_, rfl⟩
    rw [← hσ] at hQ hs
    have key : ∀ {v : Value} {x : AV}, (results fn a'.tmps).run E.P w' = .ok v w' → Rel w' (Al F η') x v → Q (.ret x) η' →
        a'.defers = [] ∧ ∃ v, (results fn a'.tmps).run E.P w' = .ok v w' ∧ ∃ r η', Q r η' ∧ AR.rel w' (Al F η') r (.returned v) ∧ HOk E.G w' F η' ∧ Ext η w η' w' :=
      fun h1 h2 h3 => ⟨hs.df, _, h1, _, _, h3, ⟨_, rfl, h2⟩, hs.hp, hx⟩
    have main : RQ E.T rs Q σ' η' → a'.defers = [] ∧ ∃ v, (results fn a'.tmps).run E.P w' = .ok v w' ∧ ∃ r η', Q r η' ∧ AR.rel w' (Al F η') r (.returned v) ∧ HOk E.G w' F η' ∧ Ext η w η' w' := by
      intro hB
      have hmap : ∀ vs : List Value, (rs.mapM (resSem a')).run E.P w' = .ok vs w' → (results fn a'.tmps).run E.P w' = .ok (if h : vs.toArray.size = 1 then vs.toArray[0] else .tuple vs.toArray) w' := by
        intro vs hv
        rw [results_eq hrs a', Array.mapM_eq_mapM_toList]
        simp only [Sem.run_bind, Sem.run_map]
        rw [hv]
        simp
      obtain ⟨xs, h1, h2⟩ := hB
      obtain ⟨us, h3, h4⟩ := resL_run (E := E) hs h1
      refine key (hmap us h4) ?_ h2
      match xs, us, h3 with
      | [], us, h3 => simp only [RelL] at h3; subst h3; simp [packA, Rel, RelL]
      | [x], us, h3 => simp only [RelL] at h3; obtain ⟨v, r, rfl, h5, rfl⟩ := h3; simpa [packA] using h5
      | x :: y :: r, us, h3 =>
        have hn : ¬ us.toArray.size = 1 := by have := h3.length; simp at this ⊢; omega
        rw [dif_neg hn]
        simp only [packA, Rel]
        exact ⟨us, rfl, h3⟩
    cases e0 with
    | norm => simp only [AE.rel] at hr; subst hr; exact main hQ
    | ret => simp only [AE.rel] at hr; subst hr; exact main hQ
    | exit i => exact hQ.elim
    | pan x => obtain ⟨v, rfl, hv⟩ := hr; exact ⟨hs.df, .pan x, η', hQ, ⟨v, rfl, hv⟩, hs.hp, hx⟩
theorem HOk.none {G : Gl} {w : World} {F : Nat → Prop} {η : List Ent} (h : HOk G w F η) : HOk G w F [] :=
  ⟨by simp, by simp [ids], by simp [ids], h.bound, h.glob.keep ⟨Nat.le_refl _, fun b _ hb => ⟨⟨hb.1, by simp [ids]⟩, rfl⟩⟩⟩
theorem Pure.enter {E : Env} {f : FuncId} {fn : Func} {c : Code} {args : List AV} {res : AR} (hf : E.P.funcs[f]? = some fn) (hb : fn.body = some c) (hname : (fn.name == "runtime.NumGoroutine") = false)
    (rs : List ResultVar) (hrs : fn.results = rs.toArray) (nt : Nat) (hnt : fn.ntmps = nt) (hn : Nat.ble args.length nt = true) (h : AWP E.toCx nt c (BQ E.T rs (fun r _ => r = res)) (sig0 0 args) []) : Pure E.toCx f args res := by
  have := ACall.enter (E := E) hf hb hname rs hrs nt hnt hn h
  refine ⟨this.1, fun F w vs h1 h2 => (this.2 F w vs h1 h2).mono ?_⟩
  rintro e w' ⟨r, η', rfl, hv, hh, hx⟩
  have hk : Keeps w' (Al F η') w' (Al F []) := ⟨Nat.le_refl _, fun b _ hb => ⟨⟨hb.1, by simp [ids]⟩, rfl⟩⟩
  refine ⟨r, [], ⟨rfl, rfl⟩, ?_, hh.none, ⟨hx.os, hx.tape, hx.output, hx.size, hx.block, by simp [ids]⟩⟩
  cases r with
  | ret x => obtain ⟨v, e1, hv⟩ := hv; exact ⟨v, e1, hv.keep hk⟩
  | pan x => obtain ⟨v, e1, hv⟩ := hv; exact ⟨v, e1, hv.keep hk⟩
end
end Go.Bw
