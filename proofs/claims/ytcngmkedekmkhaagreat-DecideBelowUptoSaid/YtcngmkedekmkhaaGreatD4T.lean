/-
  Own work. The abstract machine: what one operation does, told apart from what comes later; tails of open regions.
-/
import Derived.Test.YtcngmkedekmkhaaGreatD4
import Derived.Test.YtcngmkedekmkhaaGreatB14
noncomputable section
namespace Go.Bw
open Go
def liftE (ρ : Rho) (R : DR → Hp → Prop) : AR → List Ent → Prop := fun r ηB => ∃ ρ' d η, ρ.le ρ' ∧ DR.inst ρ' d r ∧ HS ρ' η ηB ∧ R d η
def DEff (E : Env) (N : Nat) (o : Oper) (σ : TS) (η : Hp) (R : DR → Hp → Prop) : Prop := ∀ ρ s ηB, SS ρ σ s → HS ρ η ηB → EffR E.toCx N o s ηB (liftE ρ R)
section
variable {E : Env} {N K : Nat} {Q : DQ} {σ : TS} {η : Hp} {o : Oper} {x : CV} {all rest : List Oper} {R : DR → Hp → Prop}
theorem DEff.mono {R' : DR → Hp → Prop} (h : DEff E N o σ η R) (hr : ∀ r η', R r η' → R' r η') : DEff E N o σ η R' := fun ρ s ηB hs hh => (h ρ s ηB hs hh).mono fun _ _ ⟨ρ', d, η', h1, h2, h3, h4⟩ => ⟨ρ', d, η', h1, h2, h3, hr _ _ h4⟩
theorem DEff.val (h : DOpP E N o σ η x) : DEff E N o σ η (fun r η' => r = .ret x ∧ η' = η) := fun ρ s ηB hs hh => by
  obtain ⟨y, h1, h2⟩ := h ρ s ηB hs hh
  refine (EffR.ofP h2).mono ?_
  rintro r η' ⟨rfl, rfl⟩
  exact ⟨ρ, .ret x, η, .refl ρ, ⟨y, rfl, h1⟩, hh, rfl, rfl⟩
theorem DEff.new {cells : List CV} {d : Nat} (hd : o.dst = some d) (h : ∀ ρ s ηB, SS ρ σ s → HS ρ η ηB → ∃ cs, InstL ρ cells cs ∧ OpN E.toCx N o s ηB cs) : DEff E N o σ η (fun r η' => r = .ret (.own η.n 0) ∧ η' = η.push (.box cells)) := fun ρ s ηB hs hh => by
  obtain ⟨cs, h1, h2⟩ := h ρ s ηB hs hh
  refine (EffR.ofN hd h2).mono ?_
  rintro r η' ⟨b, rfl, rfl⟩
  have hdom := hh.dom η.n (Nat.le_refl _)
  have hl : ρ.le (ρ.setB η.n b) := Rho.le_setB hdom.1
  have hbn : (ρ.setB η.n b).b η.n = some b := by simp [Rho.setB]
  exact ⟨_, .ret (.own η.n 0), η.push (.box cells), hl, ⟨_, rfl, by simp only [Inst]; exact ⟨b, _, hbn, rfl⟩⟩, hh.push hl (fun _ _ => rfl) (fun i hi => by simp [Rho.setB, hi]) ⟨b, cs, hbn, rfl, h1.mono hl⟩, rfl, rfl⟩
theorem restr_ss {ρ : Rho} {s : Sl} {p : Operand} (h : p ∈ o.op.operands.toList) {y : AV} (hy : ev s p = some y) : ev (look (restr s (tmpsOf o))) p = some y := by rw [ev_restr h]; exact hy
theorem DEff.store {t : TypeId} {p v : Operand} {i off : Nat} {cs cs' : List CV} {ti : TI} (ho : o.op = .store t p v) (hp : cev σ p = some (.own i off)) (hv : cev σ v = some x) (hi : η.e.get i = some (.box cs)) (ht : tget E.T t = some ti)
    (hk : Nat.beq (cellsC x).length ti.size = true) (h1 : onesC (cellsC x) = true) (hl : spliceC cs off (cellsC x) = some cs') : DEff E N o σ η (fun r η' => r = .ret (.d (.v undef)) ∧ η' = η.set i (.box cs')) := fun ρ s ηB hs hh => by
  obtain ⟨y, h2, h3⟩ := cev_inst hs hp
  simp only [Inst] at h3
  obtain ⟨b, t', h3, rfl⟩ := h3
  obtain ⟨z, h4, h5⟩ := cev_inst hs hv
  obtain ⟨q, h6, h7⟩ := hh.en i _ hi
  obtain ⟨b', us, h8, rfl, h9⟩ := h7
  rw [h3] at h8; cases h8
  have hc := cellsC_inst h5
  obtain ⟨us', h10, h11⟩ := spliceC_inst hl h9 hc
  refine (EffR.ofU (opU_store ho (restr_ss (ρ := ρ) (by simp [ho, Op.operands]) h2) (restr_ss (ρ := ρ) (by simp [ho, Op.operands]) h4) h6 ht (by rw [hc.length]; exact hk) (onesC_inst h1 hc) h10)).mono ?_
  rintro r η' ⟨rfl, rfl⟩
  exact ⟨ρ, .ret (.d (.v undef)), η.set i (.box cs'), .refl ρ, ⟨_, rfl, rfl⟩, hh.set (.refl ρ) (fun _ _ => rfl) (fun _ _ => rfl) (hh.lt hi) ⟨b, us', h3, rfl, h11⟩, rfl, rfl⟩
theorem DEff.storeRow {t : TypeId} {p v : Operand} {i n m e kk : Nat} {rows : List (List AV)} {r r' : List AV} {y : AV} {ti : TI} (j off : Nat) (ho : o.op = .store t p v) (hp : cev σ p = some (.oe i n m)) (hv : cev σ v = some (.d y)) (hi : η.e.get i = some (.row e kk rows)) (hn : n = rows.length)
    (hm : m = j * kk + off) (hr : rows[j]? = some r) (ht : tget E.T t = some ti) (hk : Nat.beq (cellsA y).length ti.size = true) (h1 : onesB (cellsA y) = true) (hl : spliceA r off (cellsA y) = some r') : DEff E N o σ η (fun r1 η' => r1 = .ret (.d (.v undef)) ∧ η' = η.set i (.row e kk (rows.set j r'))) := fun ρ s ηB hs hh => by
  obtain ⟨z, h2, h3⟩ := cev_inst hs hp
  simp only [Inst] at h3
  obtain ⟨a, c, t', h3, rfl⟩ := h3
  obtain ⟨z, h4, h5⟩ := cev_inst hs hv
  simp only [Inst] at h5; subst h5
  obtain ⟨q, h6, h7⟩ := hh.en i _ hi
  obtain ⟨⟨a', c', h8, rfl⟩, h9⟩ := h7
  subst hn
  rw [h3] at h8; cases h8
  refine (EffR.ofU (opU_storeRow ho j off (restr_ss (ρ := ρ) (by simp [ho, Op.operands]) h2) hm (restr_ss (ρ := ρ) (by simp [ho, Op.operands]) h4) h6 hr ht hk h1 hl)).mono ?_
  rintro r1 η' ⟨rfl, rfl⟩
  exact ⟨ρ, .ret (.d (.v undef)), η.set i (.row e kk (rows.set j r')), .refl ρ, ⟨_, rfl, rfl⟩, hh.set (.refl ρ) (fun _ _ => rfl) (fun _ _ => rfl) (hh.lt hi) ⟨⟨a, c, by simpa using h3, by simp⟩, by simpa using h9⟩, rfl, rfl⟩
theorem DEff.lit {n : Nat} {t : TypeId} {parts : Array (Nat × Operand)} {e k sz by' sz' by'' : Nat} {z z' : List Value} {td' : TD} {cells : List AV} (ho : o.op = .buildSlice t n parts)
    (ht : tget E.T t = some ⟨.slice e k, sz, by', z⟩) (hte : tget E.T e = some ⟨td', sz', by'', z'⟩) (hf : fillG k (dat σ) (reps n (z'.map .v)) parts.toList = some cells) (hb : Nat.ble (n * k) 16777216 = true) (hk : Nat.ble 1 k = true) :
    DEff E N o σ η (fun r η' => r = .ret (.os η.n n) ∧ η' = η.push (.row e k (chunk n k cells))) := fun ρ s ηB hs hh => by
  have hR : OpR E.toCx N o (restr s (tmpsOf o)) ηB (fun x η' => ∃ b, x = .os ηB.length (some ⟨b, 0, none⟩) n n ∧ η' = ηB ++ [.row (.slice (some ⟨b, 0, none⟩) n n) e k (chunk n k cells)]) := fun F a w hst => by
    have hf' : fillG k (look (restr s (tmpsOf o))) (reps n (z'.map .v)) parts.toList = some cells := by
      rw [fillG_congr fun p hp => ev_restr (by rw [ho]; simp only [Op.operands, List.mem_map]; exact ⟨p, hp, rfl⟩)]
      have key : ∀ (l : List (Nat × Operand)) (cs r : List AV), fillG k (dat σ) cs l = some r → fillG k s cs l = some r := by
        intro l
        induction l with
        | nil => intro cs r h; exact h
        | cons p l ih =>
          intro cs r h
          obtain ⟨i, p⟩ := p
          simp only [fillG] at h ⊢
          split at h
          · rename_i y hy
            have hy' : ev s p = some y := by
              cases p with
              | tmp u => exact dat_ss hs hy
              | const v => exact hy
              | global g => exact hy
              | func f => exact hy
            simp only [hy']
            split at h
            · exact ih _ _ h
            · cases h
          · cases h
      exact key _ _ _ hf
    obtain ⟨us, h1, h2, h3⟩ := lit_core (d := o.dst) (ty := o.type) (pos := o.pos) (after := o.after) (gd := o.guard) ht hte hf' hb hk hst
    have hb := Nat.le_of_ble_eq_true hb
    have hk := Nat.le_of_ble_eq_true hk
    have ho' : o = ⟨o.dst, .buildSlice t n parts, o.type, o.pos, o.after, o.guard⟩ := by rw [← ho]
    rw [← ho'] at h1
    have hext := ext_alloc w (.cells us e) ηB (.row (.slice (some ⟨w.heap.size, 0, none⟩) n n) e k (chunk n k cells)) (by simp [Ent.ids, Value.ownBlock])
    refine ⟨.slice (some ⟨w.heap.size, 0, none⟩) n n, w.alloc (.cells us e), _, _, ⟨w.heap.size, rfl, rfl⟩, h1, by simp only [Rel], ?_, hext⟩
    refine hst.hp.push (by simp) (fun b hb => alloc_later w _ b hb) (by simp [Ent.ids, Value.ownBlock]) (by simp [Ent.ids, Value.ownBlock]) ?_
    refine ⟨us.toList, h2.keep hext.keeps, ?_, .inr ⟨w.heap.size, n, us, by rw [chunk_length], Nat.zero_le _, alloc_new w _, by rw [chunk_length]; exact Nat.le_refl _, ?_, h3, ?_⟩⟩
    · rw [chunk_length]; simpa using h3
    · have : n ≤ n * k := Nat.le_mul_of_pos_right n hk
      simp only [maxLen]; omega
    · rw [chunk_length, ← h3, ← Array.length_toList, List.take_length]
  refine (EffR.ofR hR).mono ?_
  rintro r η' ⟨y, rfl, b, rfl, rfl⟩
  have hdom := hh.dom η.n (Nat.le_refl _)
  have hl : ρ.le (ρ.setS η.n n (some ⟨b, 0, none⟩, n)) := Rho.le_setS fun y hy => by rw [hdom.2] at hy; cases hy
  have hbn : (ρ.setS η.n n (some ⟨b, 0, none⟩, n)).s η.n n = some (some ⟨b, 0, none⟩, n) := by simp [Rho.setS]
  refine ⟨_, .ret (.os η.n n), η.push (.row e k (chunk n k cells)), hl, ⟨_, rfl, by simp only [Inst]; exact ⟨_, _, _, hbn, rfl⟩⟩, hh.push hl (fun i hi => by funext m; simp [Rho.setS, hi]) (fun _ _ => rfl) ⟨⟨some ⟨b, 0, none⟩, n, by rw [chunk_length]; exact hbn, by rw [chunk_length]⟩, fun m hm => ?_⟩, rfl, rfl⟩
  rw [chunk_length] at hm
  have : m ≠ n := by omega
  simp only [Rho.setS, this, and_false, if_false]
  exact hdom.2 m
theorem SrcC.okR {ρ : Rho} {s : Sl} {ηB : List Ent} (hs : SS ρ σ s) (hh : HS ρ η ηB) {k : Nat} {p : Operand} {rows : List (List AV)} (h : SrcC E σ η k p rows) (hp : p ∈ o.op.operands.toList) : ∀ F a w, St E.G N w F a (restr s (tmpsOf o)) ηB → SrcOk w (Al F ηB) k (a.eval p) rows := fun F a w hst => by
  have key : ∀ {x : CV}, cev σ p = some x → ∃ y, ev (look (restr s (tmpsOf o))) p = some y ∧ Inst ρ x y := fun h => by
    obtain ⟨y, h1, h2⟩ := cev_inst hs h
    exact ⟨y, restr_ss (ρ := ρ) hp h1, h2⟩
  cases h with
  | sl h =>
    obtain ⟨y, h1, h2⟩ := key h
    simp only [Inst] at h2; subst h2
    exact SrcOk.sl (ev_rel hst.sg h1)
  | slI h hI =>
    obtain ⟨y, h1, h2⟩ := key h
    simp only [Inst] at h2; subst h2
    exact SrcOk.sl (hI _ _ _ (ev_rel hst.sg h1))
  | nil h =>
    obtain ⟨y, h1, h2⟩ := key h
    simp only [Inst] at h2; subst h2
    have := ev_rel hst.sg h1
    simp only [Rel] at this
    rw [this]
    exact ⟨none, 0, 0, [], rfl, rfl, by simp [RelRows], fun _ => rfl, fun _ h => by cases h⟩
  | row h h3 hn =>
    obtain ⟨y, h1, h2⟩ := key h
    simp only [Inst] at h2
    obtain ⟨a', c, t', h4, rfl⟩ := h2
    obtain ⟨q, h5, h6⟩ := hh.en _ _ h3
    obtain ⟨⟨a2, c2, h7, rfl⟩, _⟩ := h6
    subst hn
    rw [h4] at h7; cases h7
    have := ev_rel hst.sg h1
    simp only [Rel] at this
    rw [this]
    exact SrcOk.row (ents_nth hst.hp h5)
  | fz h h3 hn =>
    obtain ⟨y, h1, h2⟩ := key h
    simp only [Inst] at h2
    obtain ⟨a', c, t', h4, rfl⟩ := h2
    obtain ⟨q, h5, h6⟩ := hh.en _ _ h3
    obtain ⟨a2, c2, h7, rfl⟩ := h6
    subst hn
    rw [h4] at h7; cases h7
    have := ev_rel hst.sg h1
    simp only [Rel] at this
    rw [this]
    exact SrcOk.sl (fact_ok hst.hp h5)
theorem DEff.append {i n : Nat} {s' p : Operand} {t : TypeId} {e k sz by' sz' by'' : Nat} {z z' : List Value} {td' : TD} {rows rows2 : List (List AV)} (ho : o.op = .call { callee := .builtin .append, args := #[s', p], argTypes := #[t, t] })
    (hb : (rows ++ rows2).length * by'' ≤ 140737488355328) (hs' : cev σ s' = some (.os i n)) (hi : η.e.get i = some (.row e k rows)) (hn : n = rows.length) (hx : SrcC E σ η k p rows2) (ht : tget E.T t = some ⟨.slice e k, sz, by', z⟩) (hte : tget E.T e = some ⟨td', sz', by'', z'⟩) (h1 : rowsOnes rows2 = true)
    (hk : Nat.ble 1 k = true) (hby : Nat.ble 1 by'' = true) : DEff E N o σ η (fun r η' => r = .ret (.os i (rows ++ rows2).length) ∧ η' = η.set i (.row e k (rows ++ rows2))) := fun ρ s ηB hs hh => by
  obtain ⟨y, h2, h3⟩ := cev_inst hs hs'
  simp only [Inst] at h3
  obtain ⟨a, c, t', h3, rfl⟩ := h3
  obtain ⟨q, h6, h7⟩ := hh.en i _ hi
  obtain ⟨⟨a', c', h8, rfl⟩, h9⟩ := h7
  subst hn
  rw [h3] at h8; cases h8
  refine (EffR.ofR (opR_append ho ht hte (restr_ss (ρ := ρ) (by simp [ho, Op.operands, Call.operands]) h2) h6 (hx.okR hs hh (by simp [ho, Op.operands, Call.operands])) h1 hk hby hb)).mono ?_
  rintro r η' ⟨y, rfl, a', c', h0, rfl, rfl⟩
  have hl : ρ.le (ρ.setS i (rows ++ rows2).length (a', c')) := Rho.le_setS fun y hy => by
    by_cases hz : rows2 = []
    · subst hz
      simp only [List.append_nil] at hy
      rw [h3] at hy; cases hy
      obtain ⟨rfl, rfl⟩ := h0 rfl; rfl
    · have : rows.length < (rows ++ rows2).length := by
        have := List.length_pos_iff.2 hz
        simp; omega
      rw [h9 _ this] at hy; cases hy
  have hbn : (ρ.setS i (rows ++ rows2).length (a', c')).s i (rows ++ rows2).length = some (a', c') := by simp [Rho.setS]
  refine ⟨_, .ret (.os i (rows ++ rows2).length), η.set i (.row e k (rows ++ rows2)), hl, ⟨_, rfl, by simp only [Inst]; exact ⟨_, _, _, hbn, rfl⟩⟩, hh.set hl (fun j hj => by funext m; simp [Rho.setS, hj]) (fun _ _ => rfl) (hh.lt hi) ⟨⟨a', c', hbn, rfl⟩, fun m hm => ?_⟩, rfl, rfl⟩
  have hne : m ≠ (rows ++ rows2).length := by omega
  simp only [Rho.setS, hne, and_false, if_false]
  exact h9 m (by simp at hm; omega)
theorem DEff.appendS {i n : Nat} {s' p : Operand} {t u : TypeId} {e k sz by' sz' by'' szu byu : Nat} {z z' zu : List Value} {td' : TD} {rows : List (List AV)} {b : ByteArray} (ho : o.op = .call { callee := .builtin .append, args := #[s', p], argTypes := #[t, u] })
    (hb : (rows ++ bytesR b).length * by'' ≤ 140737488355328) (hs' : cev σ s' = some (.os i n)) (hi : η.e.get i = some (.row e k rows)) (hn : n = rows.length) (hx : cev σ p = some (.d (.v (.string b)))) (ht : tget E.T t = some ⟨.slice e k, sz, by', z⟩) (hu : tget E.T u = some ⟨.str, szu, byu, zu⟩) (hte : tget E.T e = some ⟨td', sz', by'', z'⟩)
    (hk : Nat.beq k 1 = true) (hby : Nat.beq by'' 1 = true) : DEff E N o σ η (fun r η' => r = .ret (.os i (rows ++ bytesR b).length) ∧ η' = η.set i (.row e k (rows ++ bytesR b))) := fun ρ s ηB hs hh => by
  obtain ⟨y, h2, h3⟩ := cev_inst hs hs'
  simp only [Inst] at h3
  obtain ⟨a, c, t', h3, rfl⟩ := h3
  obtain ⟨y2, g2, g3⟩ := cev_inst hs hx
  simp only [Inst] at g3; subst g3
  obtain ⟨q, h6, h7⟩ := hh.en i _ hi
  obtain ⟨⟨a', c', h8, rfl⟩, h9⟩ := h7
  subst hn
  rw [h3] at h8; cases h8
  refine (EffR.ofR (opR_appendS ho ht hu hte (restr_ss (ρ := ρ) (by simp [ho, Op.operands, Call.operands]) h2) h6 (restr_ss (ρ := ρ) (by simp [ho, Op.operands, Call.operands]) g2) hk hby hb)).mono ?_
  rintro r η' ⟨y, rfl, a', c', h0, rfl, rfl⟩
  have hl : ρ.le (ρ.setS i (rows ++ bytesR b).length (a', c')) := Rho.le_setS fun y hy => by
    by_cases hz : bytesR b = []
    · rw [hz] at hy
      simp only [List.append_nil] at hy
      rw [h3] at hy; cases hy
      obtain ⟨rfl, rfl⟩ := h0 hz; rfl
    · have : rows.length < (rows ++ bytesR b).length := by
        have := List.length_pos_iff.2 hz
        simp; omega
      rw [h9 _ this] at hy; cases hy
  have hbn : (ρ.setS i (rows ++ bytesR b).length (a', c')).s i (rows ++ bytesR b).length = some (a', c') := by simp [Rho.setS]
  refine ⟨_, .ret (.os i (rows ++ bytesR b).length), η.set i (.row e k (rows ++ bytesR b)), hl, ⟨_, rfl, by simp only [Inst]; exact ⟨_, _, _, hbn, rfl⟩⟩, hh.set hl (fun j hj => by funext m; simp [Rho.setS, hj]) (fun _ _ => rfl) (hh.lt hi) ⟨⟨a', c', hbn, rfl⟩, fun m hm => ?_⟩, rfl, rfl⟩
  have hne : m ≠ (rows ++ bytesR b).length := by omega
  simp only [Rho.setS, hne, and_false, if_false]
  exact h9 m (by simp at hm; omega)
theorem DEff.call {f : Operand} {args : List Operand} {g : FuncId} {cs : List CV} {Q' : DR → Hp → Prop} {tys : Array TypeId} (ho : o.op = .call { callee := .value f, args := args.toArray, argTypes := tys })
    (h : DCall E g cs η Q') (hc : calleeC σ f args = some (g, cs)) : DEff E N o σ η Q' := fun ρ s ηB hs hh => by
  obtain ⟨ys, h1, h2⟩ := calleeC_inst hs hc
  have h3 := h ρ ys ηB h2 hh
  refine (EffR.ofCall ho h1 h3.1 fun F w vs hH hr => h3.2 F w vs hH hr).mono ?_
  rintro r η' ⟨ρ', d, η1, g1, g2, g3, g4⟩
  exact ⟨ρ', d, η1, hh.leK g1, g2, g3, g4⟩
theorem DEff.pure {f : Operand} {args : List Operand} {g : FuncId} {cs : List CV} {xs' xs : List AV} {ns : List (Nat × Nat)} {ms : List (Nat × CEnt)} {res : AR} {tys : Array TypeId} (fl : Nat) (ho : o.op = .call { callee := .value f, args := args.toArray, argTypes := tys })
    (h : Pure E.toCx g xs res) (hc : calleeC σ f args = some (g, cs)) (hf : frzL η.e fl cs = some (xs', ns, ms)) (hn : eqs ns) (hi : ImpL xs' xs) (hl : ms = [] ∨ (match res with | .ret x => refFree x | .pan x => refFree x) = true) :
    DEff E N o σ η (fun r η' => (match res with | .ret x => r = .ret (.d x) | .pan x => r = .pan (.d x)) ∧ η' = η) := fun ρ s ηB hs hh => by
  obtain ⟨ys, h1, h2⟩ := calleeC_inst hs hc
  refine EffR.ofCall ho h1 h.1 fun F w vs hH hr => (pure_conv fl h hf hn hi hl hh hH h2 hr).mono ?_
  rintro e w' ⟨hv, hcls⟩
  refine ⟨res, ηB, ?_, hv, hH.later hcls.2.2.2, hcls.ext⟩
  cases res with
  | ret x => exact ⟨ρ, .ret (.d x), η, .refl ρ, ⟨x, rfl, rfl⟩, hh, rfl, rfl⟩
  | pan x => exact ⟨ρ, .pan (.d x), η, .refl ρ, ⟨x, rfl, rfl⟩, hh, rfl, rfl⟩
theorem DEff.panic {p : Operand} (ho : o.op = .panic p) {t : TypeId} {y : CV} (hp : cev σ p = some (.ifc t y)) : DEff E N o σ η (fun r η' => r = .pan (.ifc t y) ∧ η' = η) := fun ρ s ηB hs hh => by
  obtain ⟨z, h1, h2⟩ := cev_inst hs hp
  have h3 := h2
  simp only [Inst] at h3
  obtain ⟨u, rfl, _⟩ := h3
  refine (EffR.panic ho h1).mono ?_
  rintro r η' ⟨rfl, rfl⟩
  exact ⟨ρ, .pan (.ifc t y), η, .refl ρ, ⟨_, rfl, h2⟩, hh, rfl, rfl⟩
theorem DEff.panicD {p : Operand} (ho : o.op = .panic p) {t : TypeId} {y : AV} (hp : cev σ p = some (.d (.ifc t y))) : DEff E N o σ η (fun r η' => r = .pan (.d (.ifc t y)) ∧ η' = η) := fun ρ s ηB hs hh => by
  obtain ⟨z, h1, h2⟩ := cev_inst hs hp
  simp only [Inst] at h2; subst h2
  refine (EffR.panic ho h1).mono ?_
  rintro r η' ⟨rfl, rfl⟩
  exact ⟨ρ, .pan (.d (.ifc t y)), η, .refl ρ, ⟨_, rfl, rfl⟩, hh, rfl, rfl⟩
theorem EffR.weak {C : Cx} {s s1 : Sl} {ηB ηB1 : List Ent} {R : AR → List Ent → Prop} (hw : ∀ F w a, HOk C.G w F ηB → OpdOk w (Al F ηB) N a o s → HOk C.G w F ηB1 ∧ OpdOk w (Al F ηB1) N a o s1 ∧ ∀ b ∈ ids ηB1, b ∈ ids ηB) (h : EffR C N o s1 ηB1 R) : EffR C N o s ηB R :=
  fun F w a hN hd hH hs K Q k1 k2 => by
    obtain ⟨h1, h2, h3⟩ := hw F w a hH hs
    have hx : Ext ηB w ηB1 w := ⟨rfl, rfl, rfl, Nat.le_refl _, fun _ _ _ => rfl, fun b hb => .inl (h3 b hb)⟩
    exact h F w a hN hd h1 h2 K Q (fun v w' x η' hR hv hH' hext => k1 v w' x η' hR hv hH' (hx.trans hext)) (fun v w' x η' hR hv hH' hext => k2 v w' x η' hR hv hH' (hx.trans hext))
theorem DEff.nilRow (t e k : Nat) (ht : σ.get t = some (.d (.v (.slice none 0 0)))) (h : DEff E N o (Tr.put 24 σ t (some (.os η.n 0))) (η.push (.row e k [])) R) : DEff E N o σ η R := fun ρ s ηB hs hh => by
  obtain ⟨y, h1, h2⟩ := hs t _ ht
  simp only [Inst] at h2; subst h2
  have hdom := hh.dom η.n (Nat.le_refl _)
  have hl : ρ.le (ρ.setS η.n 0 (none, 0)) := Rho.le_setS fun y hy => by rw [hdom.2] at hy; cases hy
  have hbn : (ρ.setS η.n 0 (none, 0)).s η.n 0 = some (none, 0) := by simp [Rho.setS]
  have hs1 : SS (ρ.setS η.n 0 (none, 0)) (Tr.put 24 σ t (some (.os η.n 0))) (setSl s t (.os ηB.length none 0 0)) := fun u z hz => by
    rcases Tr.get_put 24 σ t u _ z hz with ⟨rfl, h3⟩ | ⟨hne, h3⟩
    · cases h3; exact ⟨.os ηB.length none 0 0, by simp [setSl], by simp only [Inst]; exact ⟨_, _, ηB.length, hbn, rfl⟩⟩
    · obtain ⟨q, h4, h5⟩ := hs u z h3
      exact ⟨q, by simp [setSl, hne, h4], h5.mono hl⟩
  have hh1 : HS (ρ.setS η.n 0 (none, 0)) (η.push (.row e k [])) (ηB ++ [.row (.slice none 0 0) e k []]) := by
    refine hh.push hl (fun i hi => by funext m; simp [Rho.setS, hi]) (fun _ _ => rfl) ⟨⟨none, 0, by simpa using hbn, by simp⟩, fun m hm => ?_⟩
    have : m ≠ 0 := by simp at hm; omega
    simp only [Rho.setS, this, and_false, if_false]
    exact hdom.2 m
  refine EffR.weak (fun F w a hH hopd => ?_) ((h _ _ _ hs1 hh1).mono ?_)
  · have hkeep : Keeps w (Al F ηB) w (Al F (ηB ++ [Ent.row (.slice none 0 0) e k []])) := ⟨Nat.le_refl _, fun b _ ha => ⟨by simpa [Al, ids_append, ids_cons, Ent.ids, Value.ownBlock, ids] using ha, rfl⟩⟩
    refine ⟨hH.push (Nat.le_refl _) (fun _ _ => rfl) (by simp [Ent.ids, Value.ownBlock]) (by simp [Ent.ids, Value.ownBlock]) ⟨[], by simp [RelRows], by simp, .inl ⟨rfl, rfl⟩⟩, fun u hu q hq => ?_, fun b hb => by simpa [ids_append, ids_cons, Ent.ids, Value.ownBlock, ids] using hb⟩
    unfold setSl at hq
    split at hq
    · rename_i hut; subst hut
      simp only [Option.some.injEq] at hq; subst hq
      obtain ⟨g1, g2⟩ := hopd u hu _ h1
      simp only [Rel] at g2 ⊢
      exact ⟨g1, g2⟩
    · obtain ⟨g1, g2⟩ := hopd u hu q hq
      exact ⟨g1, g2.keep hkeep⟩
  · rintro r η' ⟨ρ', d, η1, g1, g2, g3, g4⟩
    exact ⟨ρ', d, η1, hl.trans g1, g2, g3, g4⟩
theorem DEff.frz {t : Nat} {z : AV} {ns : List (Nat × Nat)} {ms : List (Nat × CEnt)} (f : Nat) (hx : σ.get t = some x) (hf : frzL η.e f [x] = some ([z], ns, ms)) (hn : eqs ns) (ht : t ∈ tmpsOf o) (h : DEff E N o (Tr.put 24 σ t (some (.d z))) (applyM ms η) R) : DEff E N o σ η R := fun ρ s ηB hs hh => by
  obtain ⟨y, h1, h2⟩ := hs t x hx
  have hs1 : SS ρ (Tr.put 24 σ t (some (.d z))) (setSl s t z) := fun u q hq => by
    rcases Tr.get_put 24 σ t u _ q hq with ⟨rfl, h3⟩ | ⟨hne, h3⟩
    · cases h3; exact ⟨z, by simp [setSl], rfl⟩
    · obtain ⟨q', h4, h5⟩ := hs u q h3
      exact ⟨q', by simp [setSl, hne, h4], h5⟩
  by_cases hcan : ∃ F w v, HOk E.G w F ηB ∧ Rel w (Al F ηB) y v
  · obtain ⟨F0, w0, v0, hH0, hv0⟩ := hcan
    obtain ⟨_, h40⟩ := frzL_ok hh hH0 (ms.map (·.1)) f hf hn (fun p hp => List.mem_map.2 ⟨p, hp, rfl⟩) (InstL.one h2) (RelL.one hv0)
    have hHS : HS ρ (applyM ms η) (markB ρ ms ηB) := applyM_hs (w := w0) (F := AlX F0 ηB (ms.map (·.1))) hh fun p hp => ⟨(h40 p hp).lt hh, h40 p hp⟩
    refine EffR.weak (fun F w a hH hopd => ?_) (h ρ _ _ hs1 hHS)
    have hv := (hopd t ht y h1).2
    obtain ⟨h3, h4⟩ := frzL_ok hh hH (ms.map (·.1)) f hf hn (fun p hp => List.mem_map.2 ⟨p, hp, rfl⟩) (InstL.one h2) (RelL.one hv)
    have hsub : ∀ b ∈ ids (markB ρ ms ηB), b ∈ ids ηB := fun b hb => (markB_ids ms ηB).subset hb
    refine ⟨markB_ok hH h4, fun u hu q hq => ?_, hsub⟩
    unfold setSl at hq
    split at hq
    · rename_i hut; subst hut
      simp only [Option.some.injEq] at hq; subst hq
      exact ⟨(hopd u hu y h1).1, h3.ofOne.keep keep_markB⟩
    · obtain ⟨g1, g2⟩ := hopd u hu q hq
      exact ⟨g1, g2.keep (Keeps.sub hsub)⟩
  · intro F w a hN hd hH hopd
    exact absurd ⟨F, w, _, hH, (hopd t ht y h1).2⟩ hcan
mutual
theorem Inst.same {ρ : Rho} {w : World} {A : Nat → Prop} : ∀ {x : CV} {y y' : AV} {v : Value}, Inst ρ x y → Inst ρ x y' → Rel w A y v → Rel w A y' v
  | .d x, _, _, _, h, g, hr => by simp only [Inst] at h g; subst h; subst g; exact hr
  | .agg xs, _, _, _, h, g, hr => by
    simp only [Inst] at h g; obtain ⟨ys, rfl, h⟩ := h; obtain ⟨zs, rfl, g⟩ := g
    simp only [Rel] at hr ⊢; obtain ⟨vs, rfl, hr⟩ := hr; exact ⟨vs, rfl, InstL.same h g hr⟩
  | .tup xs, _, _, _, h, g, hr => by
    simp only [Inst] at h g; obtain ⟨ys, rfl, h⟩ := h; obtain ⟨zs, rfl, g⟩ := g
    simp only [Rel] at hr ⊢; obtain ⟨vs, rfl, hr⟩ := hr; exact ⟨vs, rfl, InstL.same h g hr⟩
  | .own t o, _, _, _, h, g, hr => by
    simp only [Inst] at h g; obtain ⟨b, t1, h, rfl⟩ := h; obtain ⟨b', t2, g, rfl⟩ := g
    rw [h] at g; cases g; simp only [Rel] at hr ⊢; exact hr
  | .os t n, _, _, _, h, g, hr => by
    simp only [Inst] at h g; obtain ⟨a, c, t1, h, rfl⟩ := h; obtain ⟨a', c', t2, g, rfl⟩ := g
    rw [h] at g; cases g; simp only [Rel] at hr ⊢; exact hr
  | .oe t n o, _, _, _, h, g, hr => by
    simp only [Inst] at h g; obtain ⟨a, c, t1, h, rfl⟩ := h; obtain ⟨a', c', t2, g, rfl⟩ := g
    rw [h] at g; cases g; simp only [Rel] at hr ⊢; exact hr
  | .om t, _, _, _, h, g, hr => by
    simp only [Inst] at h g; obtain ⟨b, t1, h, rfl⟩ := h; obtain ⟨b', t2, g, rfl⟩ := g
    rw [h] at g; cases g; simp only [Rel] at hr ⊢; exact hr
  | .fn f fs cs, _, _, _, h, g, hr => by
    simp only [Inst] at h g; obtain ⟨us, vs, rfl, h1, h2⟩ := h; obtain ⟨us', vs', rfl, g1, g2⟩ := g
    simp only [Rel] at hr ⊢; obtain ⟨ps, qs, e, hr1, hr2⟩ := hr; exact ⟨ps, qs, e, InstL.same h1 g1 hr1, InstL.same h2 g2 hr2⟩
  | .ifc t x, _, _, _, h, g, hr => by
    simp only [Inst] at h g; obtain ⟨u, rfl, h⟩ := h; obtain ⟨u', rfl, g⟩ := g
    simp only [Rel] at hr ⊢; obtain ⟨q, e, hr⟩ := hr; exact ⟨q, e, Inst.same h g hr⟩
theorem InstL.same {ρ : Rho} {w : World} {A : Nat → Prop} : ∀ {x : List CV} {y y' : List AV} {v : List Value}, InstL ρ x y → InstL ρ x y' → RelL w A y v → RelL w A y' v
  | [], _, _, _, h, g, hr => by simp only [InstL] at h g; subst h; subst g; exact hr
  | _ :: _, _, _, _, h, g, hr => by
    simp only [InstL] at h g; obtain ⟨y, r, rfl, h1, h2⟩ := h; obtain ⟨y', r', rfl, g1, g2⟩ := g
    simp only [RelL] at hr ⊢; obtain ⟨v, q, e, hr1, hr2⟩ := hr; exact ⟨v, q, e, Inst.same h1 g1 hr1, InstL.same h2 g2 hr2⟩
end
theorem OpP.same {ρ : Rho} {C : Cx} {s : Sl} {ηB : List Ent} {y y' : AV} (h : Inst ρ x y) (g : Inst ρ x y') (hp : OpP C N o s ηB y) : OpP C N o s ηB y' := fun F w a h1 h2 h3 h4 K Q k => hp F w a h1 h2 h3 h4 K Q fun v w' hv hc => k v w' (Inst.same h g hv) hc
end
end Go.Bw
