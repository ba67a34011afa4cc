/-
  Own work. The function that turns faults into results.
-/
import Derived.Test.YtcngmkedekmkhaaGreatEnv
import Derived.Tactics
import Derived.Tactics2
import Derived.Defers
import Derived.Recover
import Derived.Laws.Pointers
namespace Go.Proofs.YtcngmkedekmkhaaGreat
open Go Go.Bw
abbrev zF : AV := .agg [.v (.int .i64 0), .v (.int .i64 0)]
theorem setCell_id (w : World) (b o : Nat) (cs : Array Value) (e : TypeId) (fz : Nat × Nat) (v : Value) (h : w.heap[b]? = some (.cells cs e fz)) (hv : cs[o]? = some v) : w.setCell ⟨b, o, none⟩ v = w := by
  have hcs : cs.setIfInBounds o v = cs := by
    apply Array.ext_getElem?
    intro i
    by_cases hi : o = i
    · subst hi
      rw [Array.getElem?_setIfInBounds_self_of_lt (Array.getElem?_eq_some_iff.1 hv).1, hv]
    · rw [Array.getElem?_setIfInBounds_ne hi]
  have hh : ∀ f : Obj → Obj, f (.cells cs e fz) = .cells cs e fz → w.heap.modify b f = w.heap := by
    intro f hf
    apply Array.ext_getElem?
    intro i
    rw [Array.getElem?_modify]
    by_cases hi : b = i
    · subst hi; simp [h, hf]
    · simp [hi]
  unfold World.setCell
  rw [hh _ (by simp [hcs])]
theorem box_run {c : Code} {N b : Nat} {cells cells' : List AV} {σ : TS} {σB : Sg} {F : Nat → Prop} {w : World} {a : Act}
    (h : DWP env N 1 [.code c] (fun e _ η' => e = .norm ∧ η'.e.get 0 = some (.box (cells'.map .d))) σ (Hp.nil.push (.box (cells.map .d))))
    (hs : SS ⟨fun t => if t = 0 then some b else none, fun _ _ => none⟩ σ (Bw.look σB)) (hst : St env.G N w F a σB [.box b cells]) :
    c.wp Tryz.prog (fun e a' w' => e = .normal ∧ a'.tmps.size = N ∧ a'.defers = [] ∧ HOk env.G w' F [.box b cells'] ∧ Ext [.box b cells] w [.box b cells'] w') a w := by
  have hh : HS ⟨fun t => if t = 0 then some b else none, fun _ _ => none⟩ (Hp.nil.push (.box (cells.map .d))) [.box b cells] := by
    refine ⟨fun i x hx => ?_, rfl, fun t ht => ?_⟩
    · rcases Tr.get_put 24 _ 0 i _ x hx with ⟨rfl, h1⟩ | ⟨_, h1⟩
      · cases h1
        exact ⟨.box b cells, rfl, b, cells, by simp, rfl, instL_d _⟩
      · simp [Hp.nil, Tr.get] at h1
    · have : t ≠ 0 := by simp only [Hp.push, Hp.nil] at ht; omega
      simp [this]
  refine wp_mono ((DWP.one h) _ σB _ hs hh F w [.box b cells] a w hst (Ext.refl _ _)) ?_
  rintro e a' w' ⟨e0, σ', ηB', ⟨ρ', d, σ1, η1, hl, hi, hs', hh', hd, hg⟩, hrel, hst', hx⟩
  subst hd
  simp only [DE.inst] at hi; subst hi
  simp only [AE.rel] at hrel
  obtain ⟨y, hy, b', cs', hb', rfl, hcs⟩ := hh'.en 0 _ hg
  have h0 := (hl 0 (by omega)).1
  have : b' = b := by
    rw [hb'] at h0
    simpa using h0
  subst this
  have hcs := allD_inst (zs := cells') (by
    have key : ∀ l : List AV, allD (l.map .d) = some l := by
      intro l; induction l with
      | nil => rfl
      | cons y l ih => simp [allD, ih]
    exact key cells') hcs
  subst hcs
  cases ηB' with
  | nil => simp [nth] at hy
  | cons x r =>
    simp only [nth, Option.some.injEq] at hy
    subst hy
    exact ⟨hrel, hst'.sg.1, hst'.df, HOk.drop (η := [_]) (ν := r) hst'.hp, Ext.drop (η' := [_]) (ν := r) hx⟩
theorem catch_pan (b : Nat) (k1 k2 : IntKind) (x y : Int) (older : List PanicEntry) (F : Nat → Prop) (w : World) (hH : HOk env.G w F [.box b [.v (.int .i64 0), .v (.int .i64 0)]]) :
    CallsD Tryz.prog 260 #[.pointer (some ⟨b, 0, none⟩)] (.panicking ({ v := .iface 99 (.agg #[.int k1 x, .int k2 y]), recovered := false } :: older)) w fun e u' w' =>
      e = .returned (.tuple #[]) ∧ u' = .panicking ({ v := .iface 99 (.agg #[.int k1 x, .int k2 y]), recovered := true } :: older) ∧ HOk env.G w' F [.box b [.v (.int k1 x), .v (.int k2 y)]] ∧ Ext [.box b [.v (.int .i64 0), .v (.int .i64 0)]] w [.box b [.v (.int k1 x), .v (.int k2 y)]] w' := by
  refine callsD_of_wpS Tryz.func260 rfl fun c₀ cs hu => ?_
  apply wpS_seq
  apply wpS_region
  simp [wpOpsS, go_sem, recoverD, hu, Tryz.ntmps260, Exit.thenS]
  refine wpS_of_wp ?_
  refine wp_mono (box_run (N := 16) (cells' := [.v (.int k1 x), .v (.int k2 y)]) (σ := Tr.put 24 (Tr.put 24 .lf 1 (some (.d (.ifc 99 (.agg [.v (.int k1 x), .v (.int k2 y)]))))) 0 (some (.own 0 0))) (σB := [(0, .own 0 b 0), (1, .ifc 99 (.agg [.v (.int k1 x), .v (.int k2 y)]))]) ?_ ?_ ⟨⟨?_, ?_⟩, hH, rfl⟩) ?_
  · refine dx_finK mixed 400 rfl ⟨rfl, rfl⟩
  · intro t z hz
    rcases Tr.get_put 24 _ 0 t _ z hz with ⟨rfl, h1⟩ | ⟨h0, hz⟩
    · cases h1; exact ⟨.own 0 b 0, rfl, by simp only [Inst]; exact ⟨b, 0, by simp, rfl⟩⟩
    · rcases Tr.get_put 24 _ 1 t _ z hz with ⟨rfl, h1⟩ | ⟨_, hz⟩
      · cases h1; exact ⟨_, rfl, rfl⟩
      · simp [Tr.get] at hz
  · simp
  · intro t z hz
    simp only [Bw.look] at hz
    split at hz
    · rename_i hb
      have := Nat.eq_of_beq_eq_true hb
      subst this
      cases hz
      exact ⟨by omega, by simp [Rel]⟩
    · split at hz
      · rename_i hb
        have := Nat.eq_of_beq_eq_true hb
        subst this
        cases hz
        exact ⟨by omega, by simp [Rel, RelL]⟩
      · cases hz
  · rintro e a' w' ⟨rfl, h1, h2, h3, h4⟩
    refine ⟨h2, _, rfl, ?_⟩
    simp [results, Tryz.results260, h3, h4, go_sem]
theorem catch_idle (b : Nat) (w : World) : CallsD Tryz.prog 260 #[.pointer (some ⟨b, 0, none⟩)] .returning w fun e u' w' => e = .returned (.tuple #[]) ∧ u' = .returning ∧ w' = w := by
  refine callsD_of_wpS Tryz.func260 rfl fun c₀ cs hu => ?_
  apply wpS_seq
  apply wpS_region
  simp [wpOpsS, go_sem, recoverD, hu, Tryz.ntmps260, Exit.thenS]
  apply wpS_seq
  apply wpS_region
  simp [wpOpsS, go_sem, Exit.thenS, eqGuard]
  refine wpS_cond (t := false) (by simp [Act.eval, Array.replicate]) ?_
  simp only [Bool.false_eq_true, if_false]
  refine wpS_of_wp (wp_skip ?_)
  cases c₀
  simp_all [bodyPostS, results, Tryz.results260]
theorem caught_ok : CtOk env 187 99 zF := by
  intro g fs cs η Q h hp
  refine ⟨⟨_, Tryz.func187, rfl, by kernel_rfl⟩, fun F w vs hH hargs => ?_⟩
  simp only [RelL, Rel] at hargs
  obtain ⟨v, r, rfl, ⟨us, ks, rfl, h1, h2⟩, rfl⟩ := hargs
  show Calls Tryz.prog 187 _ w _
  refine calls_of_wp_defers Tryz.func187 rfl ?_
  have hmf : ∀ (fn : Fn) (first cap : Array Value) (w : World), (Instr.makeFunc fn first cap).run Tryz.prog w = .ok (.func fn first cap) w := fun _ _ _ _ => rfl
  apply wp_seq; apply wp_region
  simp [wpOps, go_sem, Exit.then, Tryz.ntmps187]
  refine .inl ?_
  apply wp_seq; apply wp_region
  simp [wpOps, go_sem, Exit.then, hmf]
  refine .inl ?_
  refine .inl ?_
  apply wp_seq; apply wp_region
  simp [wpOps, go_sem, Exit.then]
  refine .inl ?_
  refine .inl ?_
  have hcf : ∀ (ws : Array Value) (w' : World), (callFunc g ws).run Tryz.prog w' = .ok (.enter g ws) w' := by
    intro ws w'
    obtain ⟨fn, hf, hbody, hname⟩ := h.1
    have hf' : Tryz.prog.funcs[g]? = some fn := hf
    simp only [callFunc, Sem.run_bind, run_program, Result.andThen_ok, hf', hname, hbody, Bool.false_eq_true, if_false, Sem.run_pure]
  rw [hcf, Oper.upon_enter]
  obtain ⟨b, hbdef⟩ : ∃ b, b = w.heap.size := ⟨_, rfl⟩
  have hpush : HOk env.G (w.alloc (.cells #[.int .i64 0, .int .i64 0] 99)) F (η ++ [.box w.heap.size [.v (.int .i64 0), .v (.int .i64 0)]]) := by
    refine hH.push (by simp) (fun b hb => alloc_later w _ b hb) (by simp [Ent.ids]) (by simp [Ent.ids]) ?_
    exact ⟨99, [.int .i64 0, .int .i64 0], alloc_new w _, by simp [RelL, Rel]⟩
  have hext0 := ext_alloc w (.cells #[.int .i64 0, .int .i64 0] 99) η (.box w.heap.size [.v (.int .i64 0), .v (.int .i64 0)]) (by simp [Ent.ids])
  have hargs : RelL (w.alloc (.cells #[.int .i64 0, .int .i64 0] 99)) (Al (fun x => F x ∨ x ∈ ids [.box w.heap.size [.v (.int .i64 0), .v (.int .i64 0)]]) η) (fs ++ cs) (us ++ ks) := by
    rw [Al_front]
    exact (h1.append h2).keep hext0.keeps
  have hlt : w.heap.size < (w.alloc (.cells #[.int .i64 0, .int .i64 0] 99)).heap.size := by simp
  have hbn : w.heap.size ∉ ids η := fun hm => by have := hH.lt _ hm; omega
  have hblk0 : (w.alloc (.cells #[.int .i64 0, .int .i64 0] 99)).heap[w.heap.size]? = some (.cells #[.int .i64 0, .int .i64 0] 99) := alloc_new w _
  refine (h.2 _ _ (us ++ ks) hpush.front hargs).mono ?_
  rintro e w' ⟨r, η', hQ, hv, hh, hext⟩
  obtain ⟨g1, g2⟩ := HOk.back hpush hh hext
  have hblk : w'.heap[w.heap.size]? = some (.cells #[.int .i64 0, .int .i64 0] 99) := (hext.block _ hlt hbn).trans hblk0
  have hx0 := hext0.trans g2
  rw [← hbdef] at *
  generalize w.alloc (.cells #[.int .i64 0, .int .i64 0] 99) = w1 at *
  cases r with
  | ret x =>
    obtain ⟨v, rfl, hv⟩ := hv
    have hc0 : w'.cell? ⟨b, 0, none⟩ = some (.int .i64 0) := by simp [World.cell?, hblk]
    have hc1 : w'.cell? ⟨b, 1, none⟩ = some (.int .i64 0) := by simp [World.cell?, hblk]
    have hz0 : w'.frozen? ⟨b, 0, none⟩ = false := by simp [World.frozen?, hblk]
    have hz1 : w'.frozen? ⟨b, 1, none⟩ = false := by simp [World.frozen?, hblk]
    have hs0 := setCell_id w' b 0 _ _ _ (.int .i64 0) hblk rfl
    have hs1 := setCell_id w' b 1 _ _ _ (.int .i64 0) hblk rfl
    apply wp_seq; apply wp_region
    simp [wpOps, go_sem, Exit.then, hc0, hc1, hz0, hz1, hs0, hs1]
    refine .inl ?_
    refine .inl ?_
    refine wp_ret ?_
    simp only [bodyPostD]
    refine leaves_cons (f := 260) (args := #[.pointer (some ⟨b, 0, none⟩)]) (by simp) (by simp [go_sem]) ?_
    refine (catch_idle b _).mono ?_
    rintro e u' w'' ⟨rfl, rfl, rfl⟩
    simp [Leaves, settle, results, Tryz.results187, go_sem, hc0, hc1]
    exact ⟨.ret zF, η', .inl ⟨⟨x, hQ⟩, rfl⟩, ⟨_, rfl, by simp [Rel, RelL, zF]⟩, g1.drop, hx0.drop⟩
  | pan x =>
    obtain ⟨v, rfl, hv⟩ := hv
    simp only [Exit.then, bodyPostD]
    obtain ⟨y, rfl, hf⟩ := hp x η' hQ
    obtain ⟨k1, a, k2, c, rfl⟩ : ∃ k1 a k2 c, y = .agg [.v (.int k1 a), .v (.int k2 c)] := by
      unfold faultB at hf
      split at hf
      · exact ⟨_, _, _, _, rfl⟩
      · cases hf
    simp only [Rel, RelL] at hv
    obtain ⟨u, rfl, vs, rfl, v1, r1, rfl, rfl, v2, r2, rfl, rfl, rfl⟩ := hv
    refine leaves_cons (f := 260) (args := #[.pointer (some ⟨b, 0, none⟩)]) (by simp) (by simp [go_sem]) ?_
    have gp : ([Ent.box b [.v (.int .i64 0), .v (.int .i64 0)]] ++ η').Perm (η' ++ [Ent.box b [.v (.int .i64 0), .v (.int .i64 0)]]) := List.perm_append_comm
    have g1' := HOk.perm gp.symm g1
    refine (catch_pan b k1 k2 a c [] _ w' g1'.front).mono ?_
    rintro e u' w'' ⟨rfl, rfl, h3, h4⟩
    obtain ⟨q1, q2⟩ := HOk.back g1' h3 h4
    have q1' := HOk.perm List.perm_append_comm q1
    have q2' := ((hx0.perm gp.symm).trans q2).perm List.perm_append_comm
    obtain ⟨e0, vs0, hb0, hr0⟩ := h3.ents _ (List.mem_cons_self ..)
    simp only [RelL, Rel] at hr0
    obtain ⟨_, _, rfl, rfl, _, _, rfl, rfl, rfl⟩ := hr0
    have hc0 : w''.cell? ⟨b, 0, none⟩ = some (.int k1 a) := by simp [World.cell?, hb0]
    have hc1 : w''.cell? ⟨b, 1, none⟩ = some (.int k2 c) := by simp [World.cell?, hb0]
    simp [Leaves, settle, results, Tryz.results187, go_sem, hc0, hc1]
    exact ⟨.ret (.agg [.v (.int k1 a), .v (.int k2 c)]), η', .inr ⟨_, hQ, rfl⟩, ⟨_, rfl, by simp [Rel, RelL]⟩, q1'.drop, q2'.drop⟩
end Go.Proofs.YtcngmkedekmkhaaGreat
