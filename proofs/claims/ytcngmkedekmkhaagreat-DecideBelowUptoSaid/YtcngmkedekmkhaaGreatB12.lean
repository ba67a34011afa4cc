/-
  Own work. The program logic, twelfth part: the tail of an open region once more: operations that act come in a fixed order; values may float about them, if they are the same behind them.
-/
import Derived.Test.YtcngmkedekmkhaaGreatB11
noncomputable section
namespace Go.Bw
open Go
def EffR (C : Cx) (N : Nat) (o : Oper) (s : Sl) (η : List Ent) (R : AR → List Ent → Prop) : Prop :=
  ∀ F w (a : Act), a.tmps.size = N → a.defers = [] → HOk C.G w F η → OpdOk w (Al F η) N a o s → ∀ (K : Act → World → Prop) (Q : Exit → Act → World → Prop),
    (∀ v w' x η', R (.ret x) η' → Rel w' (Al F η') x v → HOk C.G w' F η' → Ext η w η' w' → K (a.put o.dst v) w') →
    (∀ v w' x η', R (.pan x) η' → Rel w' (Al F η') x v → HOk C.G w' F η' → Ext η w η' w' → Q (.panic [{ v, recovered := false }]) a w') → o.wp C.P a w K Q
section
variable {C : Cx} {N : Nat} {o : Oper} {s s' : Sl} {η : List Ent} {x : AV} {R R' : AR → List Ent → Prop}
theorem EffR.congr (h : EffR C N o s η R) (he : ∀ t ∈ tmpsOf o, s' t = s t) : EffR C N o s' η R := fun F w a h1 h2 h3 h4 => h F w a h1 h2 h3 (h4.congr he)
theorem EffR.mono (h : EffR C N o s η R) (hr : ∀ r η', R r η' → R' r η') : EffR C N o s η R' := fun F w a h1 h2 h3 h4 K Q k1 k2 =>
  h F w a h1 h2 h3 h4 K Q (fun v w' x η' hR => k1 v w' x η' (hr _ _ hR)) (fun v w' x η' hR => k2 v w' x η' (hr _ _ hR))
theorem EffR.ofP (h : OpP C N o s η x) : EffR C N o s η (fun r η' => r = .ret x ∧ η' = η) := fun F w a h1 h2 h3 h4 K Q k1 _ =>
  h F w a h1 h2 h3 h4 K Q fun v w' hv hc => k1 v w' x η ⟨rfl, rfl⟩ hv (h3.later hc.2.2.2) hc.ext
theorem EffR.ofN {cells : List AV} {d : Nat} (hd : o.dst = some d) (h : OpN C N o s η cells) : EffR C N o s η (fun r η' => ∃ b, r = .ret (.own η.length b 0) ∧ η' = η ++ [.box b cells]) := fun F w a h1 h2 h3 h4 K Q k1 _ =>
  h F w a h1 h2 h3 h4 K Q fun vs e hv => by
    have hext := ext_alloc w (.cells vs.toArray e) η (.box w.heap.size cells) (by simp [Ent.ids])
    have hh : HOk C.G (w.alloc (.cells vs.toArray e)) F (η ++ [.box w.heap.size cells]) := by
      refine h3.push (by simp) (fun b hb => alloc_later w _ b hb) (by simp [Ent.ids]) (by simp [Ent.ids]) ?_
      exact ⟨e, vs, alloc_new w _, hv.keep hext.keeps⟩
    exact k1 _ _ _ _ ⟨_, rfl, rfl⟩ (by simp only [Rel]) hh hext
theorem EffR.ofR {R0 : AV → List Ent → Prop} (h : OpR C N o (restr s (tmpsOf o)) η R0) : EffR C N o s η (fun r η' => ∃ y, r = .ret y ∧ R0 y η') := fun F w a hN hd hh hs K Q k1 _ => by
  have hst : St C.G N w F a (restr s (tmpsOf o)) η := ⟨⟨hN, fun t y hy => by obtain ⟨h1, h2⟩ := look_restr hy; exact hs t h1 y h2⟩, hh, hd⟩
  obtain ⟨v, w', y, η', hR, h1, h2, h3, h4⟩ := h F a w hst
  unfold Oper.wp
  rw [h1, Oper.upon_value]
  exact k1 v w' y η' ⟨y, rfl, hR⟩ h2 h3 h4
theorem EffR.ofU {η' : List Ent} (h : OpU C N o (restr s (tmpsOf o)) η η') : EffR C N o s η (fun r η1 => r = .ret (.v undef) ∧ η1 = η') := fun F w a hN hd hh hs K Q k1 _ => by
  have hst : St C.G N w F a (restr s (tmpsOf o)) η := ⟨⟨hN, fun t y hy => by obtain ⟨h1, h2⟩ := look_restr hy; exact hs t h1 y h2⟩, hh, hd⟩
  obtain ⟨w', h1, h2, h3⟩ := h F a w hst
  unfold Oper.wp
  rw [h1, Oper.upon_skip]
  exact k1 undef w' _ _ ⟨rfl, rfl⟩ (by simp only [Rel]) h2 h3
theorem EffR.ofCall {f : Operand} {args : List Operand} {g : FuncId} {ys : List AV} {tys : Array TypeId} (ho : o.op = .call { callee := .value f, args := args.toArray, argTypes := tys }) (hc : callee s f args = some (g, ys)) (hb : Callable C.P g)
    (h : ∀ F w vs, HOk C.G w F η → RelL w (Al F η) ys vs → Calls C.P g vs.toArray w fun e w' => ∃ r η', R r η' ∧ AR.rel w' (Al F η') r e ∧ HOk C.G w' F η' ∧ Ext η w η' w') : EffR C N o s η R := fun F w a hN _ hh hs K Q k1 k2 => by
  have hmem : ∀ p, p = f ∨ p ∈ args → p ∈ o.op.operands.toList := by
    rintro p hp
    rw [ho]
    rcases hp with rfl | hp
    · simp [Op.operands, Call.operands]
    · simp [Op.operands, Call.operands, hp]
  have hc' : callee (look (restr s (tmpsOf o))) f args = some (g, ys) := by
    unfold callee at hc ⊢
    rw [ev_restr (hmem f (.inl rfl)), evs_congr fun p hp => ev_restr (hmem p (.inr hp))]
    exact hc
  have hsl : SlOk w (Al F η) N a (look (restr s (tmpsOf o))) := ⟨hN, fun t y hy => by obtain ⟨h1, h2⟩ := look_restr hy; exact hs t h1 y h2⟩
  obtain ⟨vs, h1, h2⟩ := callee_run (P := C.P) hsl hc' (tys := tys) (dst := o.dst) (ty := o.type) (pos := o.pos) (after := o.after) (gd := o.guard) hb
  have ho' : o = ⟨o.dst, .call { callee := .value f, args := args.toArray, argTypes := tys }, o.type, o.pos, o.after, o.guard⟩ := by rw [← ho]
  rw [← ho'] at h2
  unfold Oper.wp
  rw [h2 w, Oper.upon_enter]
  refine (h F w vs hh h1).mono ?_
  rintro e w' ⟨r, η', hR, hv, hH, hx⟩
  cases r with
  | ret x => obtain ⟨v, rfl, hv⟩ := hv; exact k1 v w' x η' hR hv hH hx
  | pan x => obtain ⟨v, rfl, hv⟩ := hv; exact k2 v w' x η' hR hv hH hx
theorem EffR.panic {p : Operand} {t : TypeId} {y : AV} (ho : o.op = .panic p) (hp : ev s p = some (.ifc t y)) : EffR C N o s η (fun r η' => r = .pan (.ifc t y) ∧ η' = η) := fun F w a hN _ hh hs K Q _ k2 => by
  have h1 := evP hN hs (by simp [ho, Op.operands]) hp
  have h0 := h1
  simp only [Rel] at h0
  obtain ⟨u, h0, _⟩ := h0
  have hrun : (execOp a.eval o).run C.P w = .halt (.panic (.iface t u)) w := by simp [execOp, ho, Instr.panic, h0]
  unfold Oper.wp
  rw [hrun]
  rw [h0] at h1
  exact k2 _ _ _ _ ⟨rfl, rfl⟩ h1 hh (Ext.refl η w)
theorem AOps.ofE {Q : AQ} {σ : Sg} {ops : Array Oper} {rest : List Oper} (hg : o.guard = none) (hd : dstB N o.dst = true) (h : EffR C N o (look σ) η R) (k1 : ∀ x η', R (.ret x) η' → AOps C N ops rest Q (putS o.dst x σ) η') (k2 : ∀ x η', R (.pan x) η' → Q (.pan x) [] η') :
    AOps C N ops (o :: rest) Q σ η := fun F w0 η0 a w hs hx => by
  unfold wpList
  rw [if_pos (by simp [Region.wanted, hg])]
  refine .inl (h F w a hs.sg.1 hs.df hs.hp (fun t _ y hy => hs.sg.2 t y hy) _ _ ?_ ?_)
  · intro v w' x η' hR hv hH hext
    exact k1 x η' hR F w0 η0 _ w' (hs.put hext hH hd hv) (hx.trans hext)
  · intro v w' x η' hR hv hH hext
    exact ⟨.pan x, [], η', k2 x η' hR, ⟨v, rfl, hv⟩, ⟨⟨hs.sg.1, fun t x hx => by simp [AE.sl, look] at hx⟩, hH, hs.df⟩, hx.trans hext⟩
end
end Go.Bw
