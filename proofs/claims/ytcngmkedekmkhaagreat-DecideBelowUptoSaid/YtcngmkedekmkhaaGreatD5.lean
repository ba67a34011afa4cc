/-
  Own work. The abstract machine, fifth part: what is still to be done, as a list; regions whose order is open; panics.
-/
import Derived.Test.YtcngmkedekmkhaaGreatD4T
noncomputable section
namespace Go.Bw
open Go
theorem AOps.panic {C : Cx} {N : Nat} {Q : AQ} {σ : Sg} {η : List Ent} {ops : Array Oper} {rest : List Oper} {o : Oper} {p : Operand} {t : TypeId} {y : AV} (hg : o.guard = none) (ho : o.op = .panic p) (hp : ev (look σ) p = some (.ifc t y)) (k : Q (.pan (.ifc t y)) [] η) :
    AOps C N ops (o :: rest) Q σ η := fun F w0 η0 a w hs hx => by
  unfold wpList
  rw [if_pos (by simp [Region.wanted, hg])]
  refine .inl ?_
  have h1 := ev_rel hs.sg hp
  have h0 := h1
  simp only [Rel] at h0
  obtain ⟨u, h0, _⟩ := h0
  have hrun : (execOp a.eval o).run C.P w = .halt (.panic (.iface t u)) w := by simp [execOp, ho, Instr.panic, h0]
  unfold Oper.wp
  rw [hrun]
  rw [h0] at h1
  exact ⟨.pan (.ifc t y), [], η, k, ⟨_, rfl, h1⟩, ⟨⟨hs.sg.1, fun t x hx => by simp [AE.sl, look] at hx⟩, hs.hp, hs.df⟩, hx⟩
section
variable {E : Env} {N K : Nat} {Q : DQ} {σ : TS} {η : Hp} {o : Oper} {x : CV} {all rest : List Oper}
theorem lf_ss {ρ : Rho} (s : Sl) : SS ρ .lf s := fun t x hx => by simp [Tr.get_lf] at hx
theorem DO.panic {p : Operand} (hg : o.guard = none) (ho : o.op = .panic p) {t : TypeId} {y : CV} (hp : cev σ p = some (.ifc t y)) (k : Q (.pan (.ifc t y)) .lf η) : DO E N K all (o :: rest) Q σ η := fun ρ σB ηB hs hh => by
  obtain ⟨z, h1, h2⟩ := cev_inst hs hp
  have h3 := h2
  simp only [Inst] at h3
  obtain ⟨u, rfl, _⟩ := h3
  exact AOps.panic hg ho h1 ⟨ρ, .pan (.ifc t y), .lf, η, .refl K ρ, ⟨_, rfl, h2⟩, lf_ss _, hh, k⟩
theorem DO.panicD {p : Operand} (hg : o.guard = none) (ho : o.op = .panic p) {t : TypeId} {y : AV} (hp : cev σ p = some (.d (.ifc t y))) (k : Q (.pan (.d (.ifc t y))) .lf η) : DO E N K all (o :: rest) Q σ η := fun ρ σB ηB hs hh => by
  obtain ⟨z, h1, h2⟩ := cev_inst hs hp
  simp only [Inst] at h2; subst h2
  exact AOps.panic hg ho h1 ⟨ρ, .pan (.d (.ifc t y)), .lf, η, .refl K ρ, ⟨_, rfl, rfl⟩, lf_ss _, hh, k⟩
theorem DO.guardX {j d e : Nat} {want t : Bool} {op : Op} {ty : TypeId} {pos : String} {after : Array Edge} {oj : Oper} (hj : nth all j = some oj) (hjd : oj.dst = some d) (ht : σ.get d = some (.d (.v (.bool t))))
    (h1 : t = want → DO E N K all (⟨some e, op, ty, pos, after, none⟩ :: rest) Q (Tr.put 24 σ d (some (.d (.v (.bool want))))) η)
    (h2 : t = !want → DO E N K all rest Q (Tr.put 24 (Tr.put 24 σ d (some (.d (.v (.bool !want))))) e (some (.d (.v undef)))) η)
    (hd : Nat.blt e N = true) : DO E N K all (⟨some e, op, ty, pos, after, some (j, want)⟩ :: rest) Q σ η := fun ρ σB ηB hs hh => by
  obtain ⟨y, h3, h4⟩ := hs d _ ht
  simp only [Inst] at h4; subst h4
  have hjB : (all.toArray[j]?).bind (·.dst) = some d := by rw [nth_eq] at hj; simp [hj, hjd]
  have hput : ∀ b, t = b → SS ρ (Tr.put 24 σ d (some (.d (.v (.bool b))))) (look ((d, .v (.bool b)) :: σB)) := fun b hb => by
    subst hb; exact hs.put (some d) (x := .d (.v (.bool t))) (y := .v (.bool t)) rfl
  exact AOps.guardO hjB h3 (fun e => h1 e ρ _ ηB (hput want e) hh) (fun e' => h2 e' ρ _ ηB ((hput _ e').put (some e) (x := .d (.v undef)) (y := .v undef) rfl) hh) hd
theorem DO.guardU {j d e : Nat} {want : Bool} {op : Op} {ty : TypeId} {pos : String} {after : Array Edge} {oj : Oper} (hj : nth all j = some oj) (hjd : oj.dst = some d) (ht : σ.get d = some (.d (.v undef)))
    (h2 : DO E N K all rest Q (Tr.put 24 σ e (some (.d (.v undef)))) η) (hd : Nat.blt e N = true) : DO E N K all (⟨some e, op, ty, pos, after, some (j, want)⟩ :: rest) Q σ η := fun ρ σB ηB hs hh => by
  obtain ⟨y, h3, h4⟩ := hs d _ ht
  simp only [Inst] at h4; subst h4
  have hjB : (all.toArray[j]?).bind (·.dst) = some d := by rw [nth_eq] at hj; simp [hj, hjd]
  exact AOps.guardU hjB h3 (h2 ρ _ ηB (hs.put (some e) (x := .d (.v undef)) (y := .v undef) rfl) hh) hd
def NInst (ρ : Rho) : List (Nat × List CV) → Nu → Prop
  | [], ys => ys = []
  | x :: xs, ys => ∃ y r, ys = y :: r ∧ y.1 = x.1 ∧ InstL ρ x.2 y.2 ∧ NInst ρ xs r
theorem NInst.append {ρ : Rho} : ∀ {xs xs' : List (Nat × List CV)} {ys ys' : Nu}, NInst ρ xs ys → NInst ρ xs' ys' → NInst ρ (xs ++ xs') (ys ++ ys')
  | [], _, _, _, h, g => by simp only [NInst] at h; subst h; simpa using g
  | _ :: _, _, _, _, h, g => by simp only [NInst] at h; obtain ⟨y, r, rfl, h1, h2, h⟩ := h; simp only [List.cons_append, NInst]; exact ⟨y, _, rfl, h1, h2, NInst.append h g⟩
theorem NInst.mem {ρ : Rho} : ∀ {xs : List (Nat × List CV)} {ys : Nu}, NInst ρ xs ys → ∀ p ∈ ys, ∃ q ∈ xs, q.1 = p.1
  | [], _, h, p, hp => by simp only [NInst] at h; subst h; cases hp
  | x :: _, _, h, p, hp => by
    simp only [NInst] at h
    obtain ⟨y, r, rfl, h1, _, h⟩ := h
    rcases List.mem_cons.1 hp with rfl | hp
    · exact ⟨x, by simp, h1.symm⟩
    · obtain ⟨q, h2, h3⟩ := NInst.mem h p hp; exact ⟨q, by simp [h2], h3⟩
def QnT (K : Nat) (ρ : Rho) (Q : DQ) : Sl → List Ent → Prop := fun s η' => ∃ σ1, (∀ t x, look σ1 t = some x → s t = some x) ∧ lift K ρ Q .norm σ1 η'
def QpT (K : Nat) (ρ : Rho) (Q : DQ) : AV → List Ent → Prop := fun x η' => lift K ρ Q (.pan x) [] η'
def DLex (E : Env) (N K : Nat) (all : List Oper) (tl : List (Nat × Oper × TK)) (A : Als) (Q : DQ) (η : Hp) (pre : List Oper) (σ : TS) (ν : List (Nat × List CV)) : Prop :=
  ∀ ρ s ηB νB, SS ρ σ s → HS ρ η ηB → NInst ρ ν νB → aLex E.toCx N ηB all.toArray (fun st => ∃ σ', (∀ t x, look σ' t = some x → st.1 t = some x) ∧
    allB st.2 fun zs => tLex E.toCx N all.toArray (QnT K ρ Q) (QpT K ρ Q) tl A [] (hide A (look (revs ηB.length zs ++ σ'))) (ηB ++ nuEnts zs)) pre (s, νB)
theorem SS.setS {ρ : Rho} {s : Sl} (hs : SS ρ σ s) (dst : Option Nat) {y : AV} (hx : Inst ρ x y) : SS ρ (putT σ dst x) (setS s dst (some y)) := by
  cases dst with
  | none => exact hs
  | some d =>
    intro t z hz
    rcases Tr.get_put 24 σ d t (some x) z hz with ⟨rfl, h1⟩ | ⟨hne, h1⟩
    · cases h1; exact ⟨y, by simp [Bw.setS], hx⟩
    · obtain ⟨u, h2, h3⟩ := hs t z h1; exact ⟨u, by simp [Bw.setS, hne, h2], h3⟩
theorem SS.del {ρ : Rho} {s : Sl} (hs : SS ρ σ s) (d : Nat) : SS ρ (Tr.put 24 σ d none) (Bw.setS s (some d) none) := by
  intro t z hz
  rcases Tr.get_put 24 σ d t none z hz with ⟨_, h1⟩ | ⟨hne, h1⟩
  · cases h1
  · obtain ⟨u, h2, h3⟩ := hs t z h1; exact ⟨u, by simp [Bw.setS, hne, h2], h3⟩
def wantedD (all : List Oper) (o : Oper) (σ : TS) : Option Bool := match o.guard with
  | none => some true
  | some (j, want) => match (nth all j).bind (·.dst) with
    | none => some false
    | some d => match σ.get d with
      | some (.d (.v (.bool b))) => some (b == want)
      | some (.d (.v (.tuple _))) => some false
      | _ => none
theorem wantedD_ok {ρ : Rho} {s : Sl} (hs : SS ρ σ s) {b : Bool} (h : wantedD all o σ = some b) : wantedA all.toArray o s = some b := by
  unfold wantedD at h
  unfold wantedA
  cases hg : o.guard with
  | none => rw [hg] at h; exact h
  | some p =>
    obtain ⟨j, want⟩ := p
    rw [hg] at h
    simp only at h ⊢
    have hj : (all.toArray[j]?).bind (·.dst) = (nth all j).bind (·.dst) := by rw [nth_eq]; simp
    rw [hj]
    cases hd : (nth all j).bind (·.dst) with
    | none => rw [hd] at h; exact h
    | some d =>
      rw [hd] at h
      simp only at h ⊢
      split at h
      · rename_i q hq
        obtain ⟨y, h1, h2⟩ := hs d _ hq
        simp only [Inst] at h2; subst h2
        simp only [h1]; exact h
      · rename_i q hq
        obtain ⟨y, h1, h2⟩ := hs d _ hq
        simp only [Inst] at h2; subst h2
        simp only [h1]; exact h
      · cases h
def freshD (o : Oper) (ν : List (Nat × List CV)) : Bool := match o.dst with
  | none => true
  | some d => ν.all fun p => !Nat.beq p.1 d
theorem freshD_ok {ρ : Rho} {ν : List (Nat × List CV)} {νB : Nu} (h : freshD o ν = true) (hn : NInst ρ ν νB) : fresh o νB := by
  intro d hd p hp he
  unfold freshD at h
  rw [hd] at h
  simp only [List.all_eq_true, Bool.not_eq_true'] at h
  obtain ⟨q, h1, h2⟩ := hn.mem p hp
  have := h q h1
  rw [h2, he, Nat.beq_refl] at this
  cases this
theorem DLex.val {pre : List Oper} {A : Als} {tl : List (Nat × Oper × TK)} {ν : List (Nat × List CV)} (hd : dstB N o.dst = true) (hw : wantedD all o σ = some true) (hf : freshD o ν = true) (h : DOpP E N o σ η x) (k : DLex E N K all tl A Q η pre (putT σ o.dst x) ν) :
    DLex E N K all tl A Q η (o :: pre) σ ν := fun ρ s ηB νB hs hh hn => by
  obtain ⟨y, h1, h2⟩ := h ρ s ηB hs hh
  exact ⟨freshD_ok hf hn, some y, [], ⟨hd, .inl ⟨wantedD_ok hs hw, .inl ⟨y, h2, rfl, rfl⟩⟩⟩, by simpa using k ρ _ ηB νB (hs.setS o.dst h1) hh hn⟩
theorem DLex.skip {pre : List Oper} {A : Als} {tl : List (Nat × Oper × TK)} {ν : List (Nat × List CV)} (hd : dstB N o.dst = true) (hw : wantedD all o σ = some false) (hf : freshD o ν = true) (k : DLex E N K all tl A Q η pre (putT σ o.dst (.d (.v undef))) ν) :
    DLex E N K all tl A Q η (o :: pre) σ ν := fun ρ s ηB νB hs hh hn => by
  exact ⟨freshD_ok hf hn, some (.v undef), [], ⟨hd, .inr ⟨wantedD_ok hs hw, rfl, rfl⟩⟩, by simpa using k ρ _ ηB νB (hs.setS o.dst rfl) hh hn⟩
theorem DLex.new {pre : List Oper} {A : Als} {tl : List (Nat × Oper × TK)} {ν : List (Nat × List CV)} {d : Nat} {cells : List CV} (hdd : o.dst = some d) (hd : Nat.blt d N = true) (hw : wantedD all o σ = some true) (hf : freshD o ν = true) (h : ∀ ρ s ηB, SS ρ σ s → HS ρ η ηB → ∃ cs, InstL ρ cells cs ∧ OpN E.toCx N o s ηB cs)
    (k : DLex E N K all tl A Q η pre (Tr.put 24 σ d none) (ν ++ [(d, cells)])) : DLex E N K all tl A Q η (o :: pre) σ ν := fun ρ s ηB νB hs hh hn => by
  obtain ⟨cs, h1, h2⟩ := h ρ s ηB hs hh
  refine ⟨freshD_ok hf hn, none, [(d, cs)], ⟨by rw [hdd]; exact hd, .inl ⟨wantedD_ok hs hw, .inr ⟨d, cs, hdd, h2, rfl, rfl⟩⟩⟩, ?_⟩
  rw [hdd]
  exact k ρ _ ηB _ (hs.del d) hh (hn.append (by simp only [NInst]; exact ⟨_, _, rfl, rfl, h1, rfl⟩))
theorem DOpP.newF {cells : List AV} (h : ∀ ρ s ηB, SS ρ σ s → HS ρ η ηB → ∃ cs, InstL ρ (cells.map .d) cs ∧ OpN E.toCx N o s ηB cs) : DOpP E N o σ η (.d (.ip cells)) := fun ρ s ηB hs hh => by
  obtain ⟨cs, h1, h2⟩ := h ρ s ηB hs hh
  have : cs = cells := by
    have := allD_inst (zs := cells) (by
      have key : ∀ l : List AV, allD (l.map .d) = some l := by
        intro l; induction l with
        | nil => rfl
        | cons y l ih => simp [allD, ih]
      exact key cells) h1
    exact this
  subst this
  exact ⟨_, rfl, h2.frozen⟩
theorem DOpP.lit {t : TypeId} {n : Nat} {parts : Array (Nat × Operand)} {e k sz by' sz' by'' : Nat} {z z' : List Value} {td' : TD} {cells : List AV} (ho : o.op = .buildSlice t n parts)
    (ht : tget E.T t = some ⟨.slice e k, sz, by', z⟩) (hte : tget E.T e = some ⟨td', sz', by'', z'⟩) (hf : fillG k (dat σ) (reps n (z'.map .v)) parts.toList = some cells) (hb : Nat.ble (n * k) 16777216 = true) (hk : Nat.ble 1 k = true) :
    DOpP E N o σ η (.d (.sl k (chunk n k cells))) := fun _ _ _ hs _ => ⟨_, rfl, (OpP.lit ho ht hte hf hb hk).mono fun _ _ _ hy => dat_ss hs hy⟩
theorem DLex.guard {pre : List Oper} {A : Als} {tl : List (Nat × Oper × TK)} {ν : List (Nat × List CV)} {d : Nat} {b : Bool} (hb : σ.get d = some (.d (.v (.bool b)))) (h1 : b = true → DLex E N K all tl A Q η pre (Tr.put 24 σ d (some (.d (.v (.bool true))))) ν)
    (h2 : b = false → DLex E N K all tl A Q η pre (Tr.put 24 σ d (some (.d (.v (.bool false))))) ν) : DLex E N K all tl A Q η pre σ ν := fun ρ s ηB νB hs hh hn => by
  have key : SS ρ (Tr.put 24 σ d (some (.d (.v (.bool b))))) s := fun t z hz => by
    rcases Tr.get_put 24 σ d t _ z hz with ⟨rfl, h3⟩ | ⟨_, h3⟩
    · cases h3; exact hs _ _ hb
    · exact hs t z h3
  cases b with
  | true => exact h1 rfl ρ s ηB νB key hh hn
  | false => exact h2 rfl ρ s ηB νB key hh hn
def Tr.keys {α : Type} : Tr α → List Nat
  | .lf => []
  | .nd _ l r => 0 :: (l.keys.map (2 * · + 1) ++ r.keys.map (2 * · + 2))
theorem Tr.mem_keys {α : Type} : ∀ {t : Tr α} {n : Nat} {x : α}, t.get n = some x → n ∈ t.keys
  | .lf, _, _, h => by simp [Tr.get_lf] at h
  | .nd y l r, n, x, h => by
    simp only [Tr.get_nd, mod2_eq, div2_eq] at h
    simp only [Tr.keys, List.mem_cons, List.mem_append, List.mem_map]
    cases h0 : Nat.beq n 0 with
    | true => exact .inl (Nat.eq_of_beq_eq_true h0)
    | false =>
      rw [h0] at h
      have h0 := beq_false_ne h0
      simp only at h
      cases h1 : Nat.beq (Nat.mod n 2) 1 with
      | true =>
        rw [h1] at h
        have h1 := Nat.eq_of_beq_eq_true h1
        change n % 2 = 1 at h1
        exact .inr (.inl ⟨_, Tr.mem_keys h, by change 2 * (n / 2) + 1 = n; omega⟩)
      | false =>
        rw [h1] at h
        have h1 := beq_false_ne h1
        change ¬ n % 2 = 1 at h1
        exact .inr (.inr ⟨_, Tr.mem_keys h, by change 2 * (n / 2 - 1) + 2 = n; omega⟩)
def openN : List (Nat × List CV) → TS → Hp → TS × Hp
  | [], σ, η => (σ, η)
  | (d, cs) :: r, σ, η => openN r (Tr.put 24 σ d (some (.own η.n 0))) (η.push (.box cs))
theorem look_swap {d : Nat} {y : AV} : ∀ {l r : Sg}, d ∉ l.map (·.1) → ∀ t, look ((d, y) :: (l ++ r)) t = look (l ++ (d, y) :: r) t
  | [], _, _, _ => rfl
  | (e, z) :: l, r, hd, t => by
    simp only [List.map_cons, List.mem_cons, not_or] at hd
    have ih := look_swap (y := y) (r := r) hd.2 t
    simp only [List.cons_append, look] at ih ⊢
    cases h1 : Nat.beq d t with
    | true =>
      rw [h1] at ih
      have : Nat.beq e t = false := by
        cases h2 : Nat.beq e t with
        | false => rfl
        | true => exact absurd ((Nat.eq_of_beq_eq_true h1).trans (Nat.eq_of_beq_eq_true h2).symm) hd.1
      rw [this]; exact ih
    | false =>
      rw [h1] at ih
      cases h2 : Nat.beq e t with
      | true => rfl
      | false => exact ih
theorem revs_keys : ∀ (zs : List ((Nat × List AV) × Nat)) (n : Nat), (revs n zs).map (·.1) = zs.map fun z => z.1.1
  | [], _ => rfl
  | z :: zs, n => by simp [revs, revs_keys zs (n + 1)]
theorem openN_ok : ∀ {ν : List (Nat × List CV)} {ρ : Rho} {σ : TS} {η : Hp} {σB : Sg} {ηB : List Ent} {zs : List ((Nat × List AV) × Nat)}, SS ρ σ (look σB) → HS ρ η ηB → NInst ρ ν (zs.map (·.1)) → nodupB (ν.map (·.1)) = true →
    ∃ ρ', ρ.le ρ' ∧ SS ρ' (openN ν σ η).1 (look (revs ηB.length zs ++ σB)) ∧ HS ρ' (openN ν σ η).2 (ηB ++ nuEnts zs)
  | [], ρ, σ, η, σB, ηB, zs, hs, hh, hn, _ => by
    simp only [NInst, List.map_eq_nil_iff] at hn; subst hn
    exact ⟨ρ, .refl ρ, hs, by have h0 : ηB ++ nuEnts [] = ηB := by simp [nuEnts]
                              rw [h0]; exact hh⟩
  | (d, cs) :: ν, ρ, σ, η, σB, ηB, zs, hs, hh, hn, hnd => by
    simp only [NInst] at hn
    obtain ⟨y, r, he, h1, h2, hn⟩ := hn
    match zs, he with
    | ((d', us), b) :: zs, he =>
      simp only [List.map_cons, List.cons.injEq] at he
      obtain ⟨rfl, rfl⟩ := he
      simp only at h1 h2
      subst h1
      simp only [List.map_cons, nodupB, Bool.and_eq_true, Bool.not_eq_true'] at hnd
      have hdom := hh.dom η.n (Nat.le_refl _)
      have hl : ρ.le (ρ.setB η.n b) := Rho.le_setB hdom.1
      have hbn : (ρ.setB η.n b).b η.n = some b := by simp [Rho.setB]
      have hs1 : SS (ρ.setB η.n b) (Tr.put 24 σ d' (some (.own η.n 0))) (look ((d', .own ηB.length b 0) :: σB)) := (hs.mono hl).put (some d') (x := .own η.n 0) (by simp only [Inst]; exact ⟨b, ηB.length, hbn, rfl⟩)
      have hh1 : HS (ρ.setB η.n b) (η.push (.box cs)) (ηB ++ [.box b us]) := hh.push hl (fun _ _ => rfl) (fun i hi => by simp [Rho.setB, hi]) ⟨b, us, hbn, rfl, h2.mono hl⟩
      have nmono : ∀ {ν : List (Nat × List CV)} {ys : Nu}, NInst ρ ν ys → NInst (ρ.setB η.n b) ν ys := by
        intro ν
        induction ν with
        | nil => intro ys h; exact h
        | cons q ν ih =>
          intro ys h
          simp only [NInst] at h ⊢
          obtain ⟨y, r, e, g1, g2, g3⟩ := h
          exact ⟨y, r, e, g1, g2.mono hl, ih g3⟩
      obtain ⟨ρ', h3, h4, h5⟩ := openN_ok (zs := zs) hs1 hh1 (nmono hn) hnd.2
      refine ⟨ρ', hl.trans h3, ?_, ?_⟩
      · have hd : d' ∉ (revs (ηB ++ [Ent.box b us]).length zs).map (·.1) := by
          rw [revs_keys]
          intro hm
          obtain ⟨z, hz, he⟩ := List.mem_map.1 hm
          obtain ⟨q, g1, g2⟩ := hn.mem z.1 (List.mem_map.2 ⟨z, hz, rfl⟩)
          have : (ν.map (·.1)).contains d' = true := by rw [List.contains_iff_mem]; exact List.mem_map.2 ⟨q, g1, by rw [g2, he]⟩
          rw [hnd.1] at this; cases this
        intro t x hx
        obtain ⟨u, g1, g2⟩ := h4 t x hx
        refine ⟨u, ?_, g2⟩
        have hlen : (ηB ++ [Ent.box b us]).length = ηB.length + 1 := by simp
        rw [hlen] at g1 hd
        show look ((d', .own ηB.length b 0) :: (revs (ηB.length + 1) zs ++ σB)) t = some u
        rw [look_swap hd]; exact g1
      · have : ηB ++ nuEnts (((d', us), b) :: zs) = (ηB ++ [Ent.box b us]) ++ nuEnts zs := by simp [nuEnts]
        rw [this]; exact h5
def PInst (ρ : Rho) : List (Nat × Oper × CV) → Pend → Prop
  | [], ys => ys = []
  | x :: xs, ys => ∃ y r, ys = y :: r ∧ y.1 = x.1 ∧ y.2.1 = x.2.1 ∧ Inst ρ x.2.2 y.2.2 ∧ PInst ρ xs r
theorem PInst.mono {ρ ρ' : Rho} (h : ρ.le ρ') : ∀ {xs : List (Nat × Oper × CV)} {ys : Pend}, PInst ρ xs ys → PInst ρ' xs ys
  | [], _, h1 => by simp only [PInst] at h1 ⊢; exact h1
  | _ :: _, _, h1 => by simp only [PInst] at h1 ⊢; obtain ⟨y, r, e, h2, h3, h4, h5⟩ := h1; exact ⟨y, r, e, h2, h3, h4.mono h, PInst.mono h h5⟩
def keepC (all : List Oper) (j : Nat) (pend : List (Nat × Oper × CV)) : List (Nat × Oper × CV) := pend.filter fun p => !behind1 all.toArray p.1 j
theorem PInst.keep {ρ : Rho} (j : Nat) : ∀ {xs : List (Nat × Oper × CV)} {ys : Pend}, PInst ρ xs ys → PInst ρ (keepC all j xs) (keepP all.toArray j ys)
  | [], _, h1 => by simp only [PInst] at h1; subst h1; rfl
  | x :: xs, _, h1 => by
    simp only [PInst] at h1
    obtain ⟨y, r, rfl, h2, h3, h4, h5⟩ := h1
    have ih := PInst.keep j h5
    simp only [keepC, keepP, List.filter_cons, h2] at ih ⊢
    cases behind1 all.toArray x.1 j with
    | true => exact ih
    | false => simp only [Bool.not_false, if_true, PInst]; exact ⟨y, _, rfl, h2, h3, h4, ih⟩
theorem PInst.mem {ρ : Rho} : ∀ {xs : List (Nat × Oper × CV)} {ys : Pend}, PInst ρ xs ys → ∀ p ∈ ys, ∃ q ∈ xs, p.1 = q.1 ∧ p.2.1 = q.2.1 ∧ Inst ρ q.2.2 p.2.2
  | [], _, h, p, hp => by simp only [PInst] at h; subst h; cases hp
  | x :: _, _, h, p, hp => by
    simp only [PInst] at h
    obtain ⟨y, r, rfl, h1, h2, h3, h⟩ := h
    rcases List.mem_cons.1 hp with rfl | hp
    · exact ⟨x, by simp, h1, h2, h3⟩
    · obtain ⟨q, g1, g2⟩ := PInst.mem h p hp; exact ⟨q, by simp [g1], g2⟩
def DVal (E : Env) (N : Nat) (all : List Oper) (o : Oper) (σ : TS) (η : Hp) (x : CV) : Prop := (wantedD all o σ = some true ∧ DOpP E N o σ η x) ∨ (wantedD all o σ = some false ∧ x = .d (.v undef))
def PendD (E : Env) (N : Nat) (all : List Oper) (pend : List (Nat × Oper × CV)) (σ : TS) (η : Hp) : Prop := ∀ p ∈ pend, DVal E N all p.2.1 σ η p.2.2
theorem DVal.ok {ρ : Rho} {s : Sl} {ηB : List Ent} (hs : SS ρ σ s) (hh : HS ρ η ηB) (h : DVal E N all o σ η x) : ∃ y, Inst ρ x y ∧ Val E.toCx N all.toArray o s ηB y := by
  rcases h with ⟨h1, h2⟩ | ⟨h1, rfl⟩
  · obtain ⟨y, h3, h4⟩ := h2 ρ s ηB hs hh
    exact ⟨y, h3, .inl ⟨wantedD_ok hs h1, h4⟩⟩
  · exact ⟨.v undef, rfl, .inr ⟨wantedD_ok hs h1, rfl⟩⟩
theorem PendD.ok {ρ : Rho} {s : Sl} {ηB : List Ent} {pend : List (Nat × Oper × CV)} {pb : Pend} (hs : SS ρ σ s) (hh : HS ρ η ηB) (h : PendD E N all pend σ η) (hp : PInst ρ pend pb) : PendOk E.toCx N all.toArray pb s ηB := fun p hpm => by
  obtain ⟨q, h1, h2, h3, h4⟩ := hp.mem p hpm
  rw [h3]
  rcases h q h1 with ⟨g1, g2⟩ | ⟨g1, g2⟩
  · obtain ⟨y, g3, g4⟩ := g2 ρ s ηB hs hh
    exact .inl ⟨wantedD_ok hs g1, OpP.same g3 h4 g4⟩
  · rw [g2] at h4
    simp only [Inst] at h4
    exact .inr ⟨wantedD_ok hs g1, h4⟩
theorem SS.up {ρ : Rho} {s s' : Sl} (h : SS ρ σ s) (hu : ∀ t x, s t = some x → s' t = some x) : SS ρ σ s' := fun t x hx => by
  obtain ⟨y, h1, h2⟩ := h t x hx
  exact ⟨y, hu t y h1, h2⟩
def nuC (A : Als) : List (Nat × List CV) := A.map fun p => (p.2.1, p.2.2.map .d)
def eraseN : Als → TS → TS
  | [], σ => σ
  | p :: A, σ => eraseN A (Tr.put 24 σ p.2.1 none)
theorem eraseN_get : ∀ {A : Als} {σ : TS} {t : Nat} {x : CV}, (eraseN A σ).get t = some x → t ∉ A.map (·.2.1) ∧ σ.get t = some x
  | [], _, _, _, h => ⟨by simp, h⟩
  | p :: A, σ, t, x, h => by
    obtain ⟨h1, h2⟩ := eraseN_get (A := A) h
    rcases Tr.get_put 24 σ p.2.1 t none x h2 with ⟨_, h3⟩ | ⟨h3, h4⟩
    · cases h3
    · exact ⟨by simp only [List.map_cons, List.mem_cons, not_or]; exact ⟨h3, h1⟩, h4⟩
theorem nuC_inst {ρ : Rho} : ∀ A : Als, NInst ρ (nuC A) (nus A)
  | [] => rfl
  | p :: A => by
    simp only [nuC, nus, List.map_cons, NInst]
    exact ⟨_, _, rfl, rfl, instL_d _, nuC_inst A⟩
def DTl (E : Env) (N K : Nat) (all : List Oper) (Q : DQ) (l : List (Nat × Oper × TK)) (A : Als) (pend : List (Nat × Oper × CV)) (σ : TS) (η : Hp) : Prop :=
  ∀ ρ s ηB pb, SS ρ σ s → HS ρ η ηB → PInst ρ pend pb → tLex E.toCx N all.toArray (QnT K ρ Q) (QpT K ρ Q) l A pb s ηB
theorem tLex_mono {C : Cx} {ops : Array Oper} {Qn Qn' : Sl → List Ent → Prop} {Qp Qp' : AV → List Ent → Prop} (h1 : ∀ s η, Qn s η → Qn' s η) (h2 : ∀ x η, Qp x η → Qp' x η) : ∀ {l : List (Nat × Oper × TK)} {A : Als} {pend : Pend} {s : Sl} {η : List Ent},
    tLex C N ops Qn Qp l A pend s η → tLex C N ops Qn' Qp' l A pend s η
  | [], _, _, _, _, h => ⟨h.1, h1 _ _ h.2⟩
  | (i, o, .fl) :: r, _, _, _, _, h => by
    obtain ⟨g1, g2, y, g3⟩ := h
    exact ⟨g1, g2, y, g3.imp (fun ⟨a, b⟩ => ⟨a, tLex_mono h1 h2 b⟩) fun ⟨a, b⟩ => ⟨a, tLex_mono h1 h2 b⟩⟩
  | (i, o, .one) :: r, _, _, _, _, h => by
    obtain ⟨g1, g2⟩ := h
    exact ⟨g1, allB_imp g2 fun zs _ ⟨b1, b2⟩ => ⟨b1, b2.imp (fun ⟨a1, R, a2, a3, a4⟩ => ⟨a1, R, a2, fun x η' hR => tLex_mono h1 h2 (a3 x η' hR), fun x η' hR => h2 _ _ (a4 x η' hR)⟩) fun ⟨a1, a2⟩ => ⟨a1, tLex_mono h1 h2 a2⟩⟩⟩
  | [(_, _, .two)], _, _, _, _, h => h
  | (i, o, .two) :: (j, o', x) :: r, _, _, _, _, h => by
    obtain ⟨g1, g2, g3⟩ := h
    have up : ∀ {o : Oper} {s : Sl} {η : List Ent} {nx nx' : Sl → List Ent → Prop}, StpT C N ops o s η nx Qp → (∀ s η, nx s η → nx' s η) → StpT C N ops o s η nx' Qp' := fun h hn =>
      ⟨h.1, h.2.imp (fun ⟨a1, R, a2, a3, a4⟩ => ⟨a1, R, a2, fun x η' hR => hn _ _ (a3 x η' hR), fun x η' hR => h2 _ _ (a4 x η' hR)⟩) fun ⟨a1, a2⟩ => ⟨a1, hn _ _ a2⟩⟩
    exact ⟨g1, up g2 fun s1 η1 q => ⟨q.1, up q.2 fun s2 η2 q => tLex_mono h1 h2 q⟩, up g3 fun s1 η1 q => ⟨q.1, up q.2 fun s2 η2 q => tLex_mono h1 h2 q⟩⟩
theorem DTl.up {ρ ρ' : Rho} (hl : ρ.le ρ') {l : List (Nat × Oper × TK)} {A : Als} {pb : Pend} {s : Sl} {ηB : List Ent} (h : tLex E.toCx N all.toArray (QnT K ρ' Q) (QpT K ρ' Q) l A pb s ηB) : tLex E.toCx N all.toArray (QnT K ρ Q) (QpT K ρ Q) l A pb s ηB :=
  tLex_mono (fun _ _ ⟨σ1, h1, h2⟩ => ⟨σ1, h1, lift_mono (hl.toK K) (fun _ _ _ h => h) h2⟩) (fun _ _ h => lift_mono (hl.toK K) (fun _ _ _ h => h) h) h
section
variable {l : List (Nat × Oper × TK)} {A : Als} {pend : List (Nat × Oper × CV)} {i : Nat}
theorem DTl.nil (hp : PendD E N all pend σ η) (h : Q .norm σ η) : DTl E N K all Q [] A pend σ η := fun ρ s ηB pb hs hh hpi => by
  refine ⟨hp.ok hs hh hpi, restr s σ.keys, fun t x hx => (look_restr hx).2, lift_intro (d := .norm) rfl (fun t x hx => ?_) hh h⟩
  obtain ⟨y, h1, h2⟩ := hs t x hx
  exact ⟨y, by rw [look_restr_mem (Tr.mem_keys hx)]; exact h1, h2⟩
theorem DTl.fl (hp : PendD E N all pend σ η) (hd : dstB N o.dst = true) (hv : DVal E N all o σ η x) (k : DTl E N K all Q l A ((i, o, x) :: pend) (putT σ o.dst x) η) : DTl E N K all Q ((i, o, .fl) :: l) A pend σ η := fun ρ s ηB pb hs hh hpi => by
  obtain ⟨y, h1, h2⟩ := hv.ok hs hh
  exact ⟨hp.ok hs hh hpi, hd, y, .inl ⟨h2, k ρ _ ηB _ (hs.setS o.dst h1) hh (by simp only [PInst]; exact ⟨_, _, rfl, rfl, rfl, h1, hpi⟩)⟩⟩
def DOpS (E : Env) (N : Nat) (o : Oper) (σ : TS) (x : CV) : Prop := ∀ ρ s ηB, SS ρ σ s → ∃ y, Inst ρ x y ∧ OpP E.toCx N o s ηB y
theorem DTl.st (hp : PendD E N all pend σ η) (hd : dstB N o.dst = true) (hv : (wantedD all o σ = some true ∧ DOpS E N o σ x) ∨ (wantedD all o σ = some false ∧ x = .d (.v undef))) (k : DTl E N K all Q l A pend (putT σ o.dst x) η) : DTl E N K all Q ((i, o, .fl) :: l) A pend σ η := fun ρ s ηB pb hs hh hpi => by
  rcases hv with ⟨hw, hv⟩ | ⟨hw, rfl⟩
  · obtain ⟨y, h1, _⟩ := hv ρ s [] hs
    refine ⟨hp.ok hs hh hpi, hd, y, .inr ⟨fun η' => .inl ⟨wantedD_ok hs hw, ?_⟩, k ρ _ ηB _ (hs.setS o.dst h1) hh hpi⟩⟩
    obtain ⟨y', g1, g2⟩ := hv ρ s η' hs
    exact OpP.same g1 h1 g2
  · exact ⟨hp.ok hs hh hpi, hd, .v undef, .inr ⟨fun η' => .inr ⟨wantedD_ok hs hw, rfl⟩, k ρ _ ηB _ (hs.setS o.dst rfl) hh hpi⟩⟩
theorem DTl.mat {ρ : Rho} {s : Sl} {ηB : List Ent} {M : Als} (hs : SS ρ σ s) (hh : HS ρ η ηB) (hnd : nodupB ((nuC M).map (·.1)) = true) {zs : List ((Nat × List AV) × Nat)} (hz : zs.map (·.1) = nus M) :
    ∃ ρ', ρ.le ρ' ∧ SS ρ' (openN (nuC M) σ η).1 (ups ηB.length zs s) ∧ HS ρ' (openN (nuC M) σ η).2 (ηB ++ nuEnts zs) := by
  have hs' : SS ρ σ (look (restr s σ.keys)) := fun t x hx => by
    obtain ⟨y, h1, h2⟩ := hs t x hx
    exact ⟨y, by rw [look_restr_mem (Tr.mem_keys hx)]; exact h1, h2⟩
  obtain ⟨ρ', h1, h2, h3⟩ := openN_ok (zs := zs) hs' hh (by rw [hz]; exact nuC_inst M) hnd
  refine ⟨ρ', h1, h2.up fun t x hx => ?_, h3⟩
  simp only [ups]
  cases hl : look (revs ηB.length zs) t with
  | some y =>
    have happ : ∀ (l r : Sg) (y : AV), look l t = some y → look (l ++ r) t = some y := by
      intro l r
      induction l with
      | nil => intro y h; simp [look] at h
      | cons p l ih =>
        intro y h
        obtain ⟨k, v⟩ := p
        simp only [List.cons_append, look] at h ⊢
        split
        · rename_i hb; rw [hb] at h; exact h
        · rename_i hb; rw [hb] at h; exact ih y h
    rw [happ _ _ y hl] at hx; exact hx
  | none =>
    have happ : ∀ (l r : Sg), look l t = none → look (l ++ r) t = look r t := by
      intro l r
      induction l with
      | nil => intro _; rfl
      | cons p l ih =>
        intro h
        obtain ⟨k, v⟩ := p
        simp only [List.cons_append, look] at h ⊢
        split
        · rename_i hb; rw [hb] at h; cases h
        · rename_i hb; rw [hb] at h; exact ih h
    rw [happ _ _ hl] at hx
    exact (look_restr hx).2
theorem DTl.skip (hp : PendD E N all pend σ η) (hnd : nodupB ((nuC (mOf all.toArray i A)).map (·.1)) = true) (hd : dstB N o.dst = true) (hw : wantedD all o (openN (nuC (mOf all.toArray i A)) σ η).1 = some false)
    (k : DTl E N K all Q l (mNot all.toArray i A) (keepC all i pend) (putT (openN (nuC (mOf all.toArray i A)) σ η).1 o.dst (.d (.v undef))) (openN (nuC (mOf all.toArray i A)) σ η).2) : DTl E N K all Q ((i, o, .one) :: l) A pend σ η := fun ρ s ηB pb hs hh hpi =>
  ⟨hp.ok hs hh hpi, allB_intro fun zs hz => by
    obtain ⟨ρ1, hl1, hs1, hh1⟩ := DTl.mat hs hh hnd hz
    exact ⟨hd, .inr ⟨wantedD_ok hs1 hw, DTl.up hl1 (k ρ1 _ _ _ (hs1.setS o.dst rfl) hh1 ((hpi.mono hl1).keep i))⟩⟩⟩
theorem DTl.eff {R : DR → Hp → Prop} (hp : PendD E N all pend σ η) (hnd : nodupB ((nuC (mOf all.toArray i A)).map (·.1)) = true) (hd : dstB N o.dst = true) {σ1 : TS} {η1 : Hp} (hop : openN (nuC (mOf all.toArray i A)) σ η = (σ1, η1)) (hw : wantedD all o σ1 = some true) (h : DEff E N o σ1 η1 R)
    (k1 : ∀ x η', R (.ret x) η' → DTl E N K all Q l (mNot all.toArray i A) (keepC all i pend) (putT σ1 o.dst x) η')
    (k2 : ∀ x η', R (.pan x) η' → Q (.pan x) .lf η') : DTl E N K all Q ((i, o, .one) :: l) A pend σ η := fun ρ s ηB pb hs hh hpi => by
  refine ⟨hp.ok hs hh hpi, allB_intro fun zs hz => ?_⟩
  obtain ⟨ρ1, hl1, hs1, hh1⟩ := DTl.mat hs hh hnd hz
  rw [hop] at hs1 hh1
  refine ⟨hd, .inl ⟨wantedD_ok hs1 hw, _, h ρ1 _ _ hs1 hh1, ?_, ?_⟩⟩
  · rintro y ηB' ⟨ρ', d, η', hl, hi, hh', hR⟩
    cases d with
    | ret x =>
      obtain ⟨y', e, hi⟩ := hi
      cases e
      exact DTl.up (hl1.trans hl) (k1 x η' hR ρ' _ ηB' _ ((hs1.mono hl).setS o.dst hi) hh' ((hpi.mono (hl1.trans hl)).keep i))
    | pan x => obtain ⟨y', e, _⟩ := hi; cases e
  · rintro y ηB' ⟨ρ', d, η', hl, hi, hh', hR⟩
    cases d with
    | ret x => obtain ⟨y', e, _⟩ := hi; cases e
    | pan x =>
      obtain ⟨y', e, hi⟩ := hi
      cases e
      exact ⟨ρ', .pan x, .lf, η', (hl1.trans hl).toK K, ⟨y, rfl, hi⟩, lf_ss _, hh', k2 x η' hR⟩
theorem DTl.pair {j : Nat} {o' : Oper} {x : TK} {η1 η2 η3 : Hp} (hp : PendD E N all pend σ η) (hd : o.dst = none) (hd' : o'.dst = none) (hw : wantedD all o σ = some true) (hw' : wantedD all o' σ = some true)
    (h1 : DEff E N o σ η (fun r η' => r = .ret (.d (.v undef)) ∧ η' = η1)) (p1 : PendD E N all (keepC all i pend) σ η1) (h2 : DEff E N o' σ η1 (fun r η' => r = .ret (.d (.v undef)) ∧ η' = η3))
    (h3 : DEff E N o' σ η (fun r η' => r = .ret (.d (.v undef)) ∧ η' = η2)) (p2 : PendD E N all (keepC all j pend) σ η2) (h4 : DEff E N o σ η2 (fun r η' => r = .ret (.d (.v undef)) ∧ η' = η3))
    (k : DTl E N K all Q l A (keepC all j (keepC all i pend)) σ η3) : DTl E N K all Q ((i, o, .two) :: (j, o', x) :: l) A pend σ η := fun ρ s ηB pb hs hh hpi => by
  have go : ∀ {oa ob : Oper} {ia : Nat} {ηa : Hp}, oa.dst = none → ob.dst = none → wantedD all oa σ = some true → wantedD all ob σ = some true → DEff E N oa σ η (fun r η' => r = .ret (.d (.v undef)) ∧ η' = ηa) → PendD E N all (keepC all ia pend) σ ηa →
      DEff E N ob σ ηa (fun r η' => r = .ret (.d (.v undef)) ∧ η' = η3) →
      StpT E.toCx N all.toArray oa s ηB (fun s1 η1 => PendOk E.toCx N all.toArray (keepP all.toArray ia pb) s1 η1 ∧ StpT E.toCx N all.toArray ob s1 η1 (tLex E.toCx N all.toArray (QnT K ρ Q) (QpT K ρ Q) l A (keepP all.toArray j (keepP all.toArray i pb))) (QpT K ρ Q)) (QpT K ρ Q) := by
    intro oa ob ia ηa da db wa wb ha pa hb
    refine ⟨by rw [da]; rfl, .inl ⟨wantedD_ok hs wa, _, ha ρ s ηB hs hh, ?_, ?_⟩⟩
    · rintro y ηB' ⟨ρ', d, η', hl, hi, hh', rfl, rfl⟩
      rw [da]
      refine ⟨pa.ok (hs.mono hl) hh' ((hpi.mono hl).keep ia), by rw [db]; rfl, .inl ⟨wantedD_ok hs wb, _, hb ρ' s ηB' (hs.mono hl) hh', ?_, ?_⟩⟩
      · rintro y' ηB2 ⟨ρ2, d2, η2', hl2, hi2, hh2, rfl, rfl⟩
        rw [db]
        exact DTl.up (hl.trans hl2) (k ρ2 s ηB2 _ (hs.mono (hl.trans hl2)) hh2 (((hpi.mono (hl.trans hl2)).keep i).keep j))
      · rintro y' ηB2 ⟨ρ2, d2, η2', hl2, hi2, hh2, rfl, rfl⟩
        obtain ⟨_, e, _⟩ := hi2; cases e
    · rintro y ηB' ⟨ρ', d, η', hl, hi, hh', rfl, rfl⟩
      obtain ⟨_, e, _⟩ := hi; cases e
  exact ⟨hp.ok hs hh hpi, go hd hd' hw hw' h1 p1 h2, go hd' hd hw' hw h3 p2 h4⟩
theorem DTl.guard {d : Nat} {b : Bool} (hb : σ.get d = some (.d (.v (.bool b)))) (h1 : b = true → DTl E N K all Q l A pend (Tr.put 24 σ d (some (.d (.v (.bool true))))) η)
    (h2 : b = false → DTl E N K all Q l A pend (Tr.put 24 σ d (some (.d (.v (.bool false))))) η) : DTl E N K all Q l A pend σ η := fun ρ s ηB pb hs hh hpi => by
  have key : SS ρ (Tr.put 24 σ d (some (.d (.v (.bool b))))) s := fun t z hz => by
    rcases Tr.get_put 24 σ d t _ z hz with ⟨rfl, h3⟩ | ⟨_, h3⟩
    · cases h3; exact hs _ _ hb
    · exact hs t z h3
  cases b with
  | true => exact h1 rfl ρ s ηB pb key hh hpi
  | false => exact h2 rfl ρ s ηB pb key hh hpi
end
theorem DLex.nil {A : Als} {tl : List (Nat × Oper × TK)} {ν : List (Nat × List CV)} (hnd : nodupB (ν.map (·.1)) = true) (k : DTl E N K all Q tl A [] (eraseN A (openN ν σ η).1) (openN ν σ η).2) : DLex E N K all tl A Q η [] σ ν := fun ρ s ηB νB hs hh hn => by
  refine ⟨restr s σ.keys, fun t x hx => (look_restr hx).2, ?_⟩
  have hs' : SS ρ σ (look (restr s σ.keys)) := fun t x hx => by
    obtain ⟨y, h1, h2⟩ := hs t x hx
    exact ⟨y, by rw [look_restr_mem (Tr.mem_keys hx)]; exact h1, h2⟩
  refine allB_intro fun zs hz => ?_
  obtain ⟨ρ', h1, h2, h3⟩ := openN_ok (zs := zs) hs' hh (by rw [hz]; exact hn) hnd
  refine DTl.up h1 (k ρ' _ _ [] (fun t x hx => ?_) h3 rfl)
  obtain ⟨g1, g2⟩ := eraseN_get hx
  obtain ⟨y, g3, g4⟩ := h2 t x g2
  refine ⟨y, ?_, g4⟩
  unfold hide
  have : (A.map (·.2.1)).contains t = false := by
    cases hc : (A.map (·.2.1)).contains t with
    | false => rfl
    | true => exact absurd (List.contains_iff_mem.1 hc) g1
  rw [this]
  exact g3
theorem DC.open {id : Nat} {l : List Oper} (pre : List Nat) (tl : List (Nat × TK)) (al : List Nat) (A : Als) (hm : E.P.follows .mixedOrders = true) (hA : alsA E.T l.toArray N al = some A) (hB : orderT l.toArray pre tl al = true) (hl : Nat.beq (pickOps l.toArray pre).length pre.length = true) (h : DLex E N K l (pickT1 l.toArray tl) A Q η (pickOps l.toArray pre) σ []) :
    DC E N K (.region id l.toArray true) Q σ η := fun ρ σB ηB hs hh =>
  AWP.regionT pre tl al A hm hA hB (Nat.eq_of_beq_eq_true hl) (aLex_mono (fun _ ⟨σ', h1, h2⟩ => ⟨σ', h1, h2⟩) (h ρ _ ηB [] hs hh rfl))
end
def FOk (E : Env) (fs : List (Nat × List AV × AV)) : Prop := ∀ f ∈ fs, Pure E.toCx f.1 f.2.1 (.ret f.2.2)
inductive It where
  | code (c : Code)
  | blk (id : Nat)
  | ops (all rest : List Oper)
  | lex (all : List Oper) (tl : List (Nat × Oper × TK)) (A : Als) (pre : List Oper) (ν : List (Nat × List CV))
  | tl (all : List Oper) (l : List (Nat × Oper × TK)) (A : Als) (pend : List (Nat × Oper × CV)) (fs : List (Nat × List AV × AV))
  | lp (next : TS → Hp → Prop)
  | lpu (m : Nat) (c : Code)
  | fr (N K : Nat) (σ : TS) (dst : Option Nat) (rs : List ResultVar)
  | ct (N K : Nat) (σ : TS) (dst : Option Nat) (rs : List ResultVar) (ty : TypeId) (z : AV)
def faultB : AV → Bool
  | .agg [.v (.int _ _), .v (.int _ _)] => true
  | _ => false
def dq (E : Env) : Nat → Nat → List It → DQ → DQ
  | _, _, [], Q => Q
  | N, K, .code c :: k, Q => fun e σ η => match e with
    | .norm => DC E N K c (dq E N K k Q) σ η
    | .exit i => dq E N K k Q (.exit i) σ η
    | .ret => dq E N K k Q .ret σ η
    | .pan x => dq E N K k Q (.pan x) σ η
  | N, K, .blk id :: k, Q => fun e σ η => match e with
    | .norm => dq E N K k Q .norm σ η
    | .exit i => match Nat.beq i id with
      | true => dq E N K k Q .norm σ η
      | false => dq E N K k Q (.exit i) σ η
    | .ret => dq E N K k Q .ret σ η
    | .pan x => dq E N K k Q (.pan x) σ η
  | N, K, .ops all rest :: k, Q => fun e σ η => match e with
    | .norm => DO E N K all rest (dq E N K k Q) σ η
    | .exit i => dq E N K k Q (.exit i) σ η
    | .ret => dq E N K k Q .ret σ η
    | .pan x => dq E N K k Q (.pan x) σ η
  | N, K, .lex all tl A pre ν :: k, Q => fun e σ η => match e with
    | .norm => DLex E N K all tl A (dq E N K k Q) η pre σ ν
    | .exit i => dq E N K k Q (.exit i) σ η
    | .ret => dq E N K k Q .ret σ η
    | .pan x => dq E N K k Q (.pan x) σ η
  | N, K, .tl all l A pend fs :: k, Q => fun e σ η => match e with
    | .norm => FOk E fs → DTl E N K all (dq E N K k Q) l A pend σ η
    | .exit i => dq E N K k Q (.exit i) σ η
    | .ret => dq E N K k Q .ret σ η
    | .pan x => dq E N K k Q (.pan x) σ η
  | N, K, .lp next :: k, Q => fun e σ η => match e with
    | .norm => next σ η
    | .exit i => dq E N K k Q (.exit i) σ η
    | .ret => dq E N K k Q .ret σ η
    | .pan x => dq E N K k Q (.pan x) σ η
  | N, K, .lpu m c :: k, Q => fun e σ η => match e with
    | .norm => DRounds E N K c (dq E N K k Q) m σ η
    | .exit i => dq E N K k Q (.exit i) σ η
    | .ret => dq E N K k Q .ret σ η
    | .pan x => dq E N K k Q (.pan x) σ η
  | _, _, .fr N' K' σ' dst rs :: k, Q => fun e σ η => match e with
    | .norm => ∃ xs, resD E.T σ η rs = some xs ∧ dq E N' K' k Q .norm (putT σ' dst (packC xs)) η
    | .ret => ∃ xs, resD E.T σ η rs = some xs ∧ dq E N' K' k Q .norm (putT σ' dst (packC xs)) η
    | .exit _ => False
    | .pan x => dq E N' K' k Q (.pan x) .lf η
  | _, _, .ct N' K' σ' dst rs ty z :: k, Q => fun e σ η => match e with
    | .norm => ∃ xs, resD E.T σ η rs = some xs ∧ dq E N' K' k Q .norm (putT σ' dst (.d z)) η
    | .ret => ∃ xs, resD E.T σ η rs = some xs ∧ dq E N' K' k Q .norm (putT σ' dst (.d z)) η
    | .exit _ => False
    | .pan x => ∃ y, (x = .ifc ty (.d y) ∨ x = .d (.ifc ty y)) ∧ faultB y = true ∧ dq E N' K' k Q .norm (putT σ' dst (.d y)) η
def DWP (E : Env) (N K : Nat) (todo : List It) (Q : DQ) (σ : TS) (η : Hp) : Prop := dq E N K todo Q .norm σ η
section
variable {E : Env} {N K : Nat} {Q : DQ} {σ : TS} {η : Hp} {k : List It}
theorem dq_then (b : Code) : DE.then (DC E N K b (dq E N K k Q)) (dq E N K k Q) = dq E N K (.code b :: k) Q := by funext e σ η; cases e <;> rfl
theorem dq_blk (i : Nat) : DE.inBlock i (dq E N K k Q) = dq E N K (.blk i :: k) Q := by funext e σ η; cases e <;> rfl
theorem dq_lp (next : TS → Hp → Prop) : DE.then next (dq E N K k Q) = dq E N K (.lp next :: k) Q := by funext e σ η; cases e <;> rfl
theorem dq_lpu (m : Nat) (c : Code) : DE.then (DRounds E N K c (dq E N K k Q) m) (dq E N K k Q) = dq E N K (.lpu m c :: k) Q := by funext e σ η; cases e <;> rfl
def dropTo (id : Nat) : List It → Option (List It)
  | [] => none
  | .blk i :: k => match Nat.beq id i with
    | true => some k
    | false => dropTo id k
  | .code _ :: k => dropTo id k
  | .ops _ _ :: k => dropTo id k
  | .lex _ _ _ _ _ :: k => dropTo id k
  | .tl _ _ _ _ _ :: k => dropTo id k
  | .lp _ :: k => dropTo id k
  | .lpu _ _ :: k => dropTo id k
  | .fr _ _ _ _ _ :: _ => none
  | .ct _ _ _ _ _ _ _ :: _ => none
theorem dq_exit {id : Nat} : ∀ {k k' : List It}, dropTo id k = some k' → dq E N K k Q (.exit id) = dq E N K k' Q .norm
  | [], _, h => by simp [dropTo] at h
  | .code _ :: k, k', h => by funext σ η; simp only [dq]; rw [dq_exit (k := k) h]
  | .ops _ _ :: k, k', h => by funext σ η; simp only [dq]; rw [dq_exit (k := k) h]
  | .lex _ _ _ _ _ :: k, k', h => by funext σ η; simp only [dq]; rw [dq_exit (k := k) h]
  | .tl _ _ _ _ _ :: k, k', h => by funext σ η; simp only [dq]; rw [dq_exit (k := k) h]
  | .lp _ :: k, k', h => by funext σ η; simp only [dq]; rw [dq_exit (k := k) h]
  | .lpu _ _ :: k, k', h => by funext σ η; simp only [dq]; rw [dq_exit (k := k) h]
  | .fr _ _ _ _ _ :: _, _, h => by simp [dropTo] at h
  | .ct _ _ _ _ _ _ _ :: _, _, h => by simp [dropTo] at h
  | .blk i :: k, k', h => by
    funext σ η
    simp only [dropTo] at h
    simp only [dq]
    cases hb : Nat.beq id i with
    | true => rw [hb] at h; simp only [Option.some.injEq] at h; subst h; rfl
    | false => rw [hb] at h; simp only; rw [dq_exit (k := k) h]
def retTo : List It → List It
  | [] => []
  | .fr N K σ dst rs :: k => .fr N K σ dst rs :: k
  | .ct N K σ dst rs ty z :: k => .ct N K σ dst rs ty z :: k
  | _ :: k => retTo k
theorem dq_ret : ∀ (k : List It), dq E N K k Q .ret = dq E N K (retTo k) Q .ret
  | [] => rfl
  | .code _ :: k => by funext σ η; simp only [dq, retTo]; rw [dq_ret k]
  | .blk _ :: k => by funext σ η; simp only [dq, retTo]; rw [dq_ret k]
  | .ops _ _ :: k => by funext σ η; simp only [dq, retTo]; rw [dq_ret k]
  | .lex _ _ _ _ _ :: k => by funext σ η; simp only [dq, retTo]; rw [dq_ret k]
  | .tl _ _ _ _ _ :: k => by funext σ η; simp only [dq, retTo]; rw [dq_ret k]
  | .lp _ :: k => by funext σ η; simp only [dq, retTo]; rw [dq_ret k]
  | .lpu _ _ :: k => by funext σ η; simp only [dq, retTo]; rw [dq_ret k]
  | .fr _ _ _ _ _ :: _ => rfl
  | .ct _ _ _ _ _ _ _ :: _ => rfl
def panTo : List It → Option (Nat × Nat × TS × Option Nat × TypeId × List It)
  | [] => none
  | .ct N K σ dst _ ty _ :: k => some (N, K, σ, dst, ty, k)
  | _ :: k => panTo k
theorem dq_pan {x : CV} : ∀ (k : List It) (N K : Nat) (σ : TS), panTo k = none → (Q (.pan x) .lf η → dq E N K k Q (.pan x) .lf η)
  | [], _, _, _, _, h => h
  | .code _ :: k, N, K, σ, hp, h => dq_pan k N K σ hp h
  | .blk _ :: k, N, K, σ, hp, h => dq_pan k N K σ hp h
  | .ops _ _ :: k, N, K, σ, hp, h => dq_pan k N K σ hp h
  | .lex _ _ _ _ _ :: k, N, K, σ, hp, h => dq_pan k N K σ hp h
  | .tl _ _ _ _ _ :: k, N, K, σ, hp, h => dq_pan k N K σ hp h
  | .lp _ :: k, N, K, σ, hp, h => dq_pan k N K σ hp h
  | .lpu _ _ :: k, N, K, σ, hp, h => dq_pan k N K σ hp h
  | .fr N' K' _ _ _ :: k, _, _, σ, hp, h => dq_pan k N' K' σ hp h
  | .ct _ _ _ _ _ _ _ :: _, _, _, _, hp, _ => by simp [panTo] at hp
theorem dq_panC {x : CV} {y : AV} {N' K' ty : Nat} {σ' : TS} {dst : Option Nat} {k' : List It} (hx : x = .ifc ty (.d y) ∨ x = .d (.ifc ty y)) (hy : faultB y = true) : ∀ (k : List It) (N K : Nat), panTo k = some (N', K', σ', dst, ty, k') → (dq E N' K' k' Q .norm (putT σ' dst (.d y)) η → dq E N K k Q (.pan x) .lf η)
  | [], _, _, hp, _ => by simp [panTo] at hp
  | .code _ :: k, N, K, hp, h => dq_panC hx hy k N K hp h
  | .blk _ :: k, N, K, hp, h => dq_panC hx hy k N K hp h
  | .ops _ _ :: k, N, K, hp, h => dq_panC hx hy k N K hp h
  | .lex _ _ _ _ _ :: k, N, K, hp, h => dq_panC hx hy k N K hp h
  | .tl _ _ _ _ _ :: k, N, K, hp, h => dq_panC hx hy k N K hp h
  | .lp _ :: k, N, K, hp, h => dq_panC hx hy k N K hp h
  | .lpu _ _ :: k, N, K, hp, h => dq_panC hx hy k N K hp h
  | .fr N1 K1 _ _ _ :: k, _, _, hp, h => dq_panC hx hy k N1 K1 hp h
  | .ct N1 K1 σ1 dst1 rs1 ty1 z1 :: k, _, _, hp, h => by
    simp only [panTo, Option.some.injEq, Prod.mk.injEq] at hp
    obtain ⟨rfl, rfl, rfl, rfl, rfl, rfl⟩ := hp
    exact ⟨y, hx, hy, h⟩
def CtOk (E : Env) (f : FuncId) (ty : TypeId) (z : AV) : Prop := ∀ (g : FuncId) (fs cs : List AV) (η : List Ent) (Q : AR → List Ent → Prop), ACall E.toCx g (fs ++ cs) η Q → (∀ x η', Q (.pan x) η' → ∃ y, x = .ifc ty y ∧ faultB y = true) →
  ACall E.toCx f [.fn g fs cs] η (fun r η' => (∃ x, Q (.ret x) η' ∧ r = .ret z) ∨ ∃ x, Q (.pan (.ifc ty x)) η' ∧ r = .ret x)
theorem faultB_inst {ρ : Rho} {x : CV} {y : AV} {ty : Nat} {y0 : AV} (hx : x = .ifc ty (.d y0) ∨ x = .d (.ifc ty y0)) (hi : Inst ρ x y) : y = .ifc ty y0 := by
  rcases hx with rfl | rfl
  · simp only [Inst] at hi; obtain ⟨u, rfl, rfl⟩ := hi; rfl
  · simp only [Inst] at hi; exact hi
theorem DCall.ct {f g : FuncId} {ty : TypeId} {z : AV} (hct : CtOk E f ty z) {fs cs : List CV} {Q' : DR → Hp → Prop} (h : DCall E g (fs ++ cs) η Q') (hp : ∀ x η', Q' (.pan x) η' → ∃ y, (x = .ifc ty (.d y) ∨ x = .d (.ifc ty y)) ∧ faultB y = true) :
    DCall E f [.fn g fs cs] η (fun r η' => (∃ x, Q' (.ret x) η' ∧ r = .ret (.d z)) ∨ ∃ x y, Q' (.pan x) η' ∧ (x = .ifc ty (.d y) ∨ x = .d (.ifc ty y)) ∧ faultB y = true ∧ r = .ret (.d y)) := fun ρ ys ηB hi hh => by
  simp only [InstL, Inst] at hi
  obtain ⟨y, r, rfl, ⟨us, vs, rfl, h1, h2⟩, rfl⟩ := hi
  refine (hct g us vs ηB _ (h ρ (us ++ vs) ηB (h1.append h2) hh) ?_).mono ?_
  · rintro x ηB' ⟨ρ', d, η1, g1, g2, g3, g4⟩
    cases d with
    | ret x' => obtain ⟨y', e, _⟩ := g2; cases e
    | pan x' =>
      obtain ⟨y', e, g2⟩ := g2
      cases e
      obtain ⟨y0, q1, q2⟩ := hp _ _ g4
      exact ⟨y0, faultB_inst q1 g2, q2⟩
  · rintro r ηB' (⟨x, ⟨ρ', d, η1, g1, g2, g3, g4⟩, rfl⟩ | ⟨x, ⟨ρ', d, η1, g1, g2, g3, g4⟩, rfl⟩)
    · cases d with
      | ret x' => exact ⟨ρ', .ret (.d z), η1, g1, ⟨z, rfl, rfl⟩, g3, .inl ⟨x', g4, rfl⟩⟩
      | pan x' => obtain ⟨y', e, _⟩ := g2; cases e
    · cases d with
      | ret x' => obtain ⟨y', e, _⟩ := g2; cases e
      | pan x' =>
        obtain ⟨y', e, g2⟩ := g2
        cases e
        obtain ⟨y0, q1, q2⟩ := hp _ _ g4
        have := faultB_inst q1 g2
        cases this
        exact ⟨ρ', .ret (.d x), η1, g1, ⟨x, rfl, rfl⟩, g3, .inr ⟨x', x, g4, q1, q2, rfl⟩⟩
def fnC : CV → Option (FuncId × List CV × List CV)
  | .fn g fs cs => some (g, fs, cs)
  | .d (.fn g fs cs) => some (g, fs.map .d, cs.map .d)
  | _ => none
theorem fnC_inst {ρ : Rho} {x : CV} {g : FuncId} {fs cs : List CV} (h : fnC x = some (g, fs, cs)) {y : AV} (hi : Inst ρ x y) : Inst ρ (.fn g fs cs) y := by
  unfold fnC at h
  split at h
  · simp only [Option.some.injEq, Prod.mk.injEq] at h; obtain ⟨rfl, rfl, rfl⟩ := h; exact hi
  · simp only [Option.some.injEq, Prod.mk.injEq] at h; obtain ⟨rfl, rfl, rfl⟩ := h
    simp only [Inst] at hi ⊢; subst hi
    exact ⟨_, _, rfl, instL_d _, instL_d _⟩
  · cases h
theorem DWP.one {c : Code} (h : DWP E N K [.code c] Q σ η) : DC E N K c Q σ η := h
theorem DWP.loop {c : Code} (ts : List Nat) (m : Nat) (I : Nat → List (Nat × CV) → List CEnt → Prop) (n : Nat) (hK : K ≤ m) {l : List (Nat × CV)} {es : List CEnt} (hm : m ≤ η.n) (hp : pickT m ts σ = some l) (he : takeH m η = some es) (h0 : I n l es)
    (round : ∀ n l es, I n l es → DWP E N K (.code c :: .lp (fun σ1 η1 => ∃ n', n' < n ∧ ∃ l' es', m ≤ η1.n ∧ pickT m ts σ1 = some l' ∧ takeH m η1 = some es' ∧ I n' l' es') :: k) Q (ofT l) (ofH es)) : DWP E N K (.code (.loop c) :: k) Q σ η :=
  DC.loop ts m I n hK hm hp he h0 fun n l es hI => by
    have := round n l es hI
    unfold DWP at this
    simp only [dq] at this
    rw [dq_lp]; exact this
theorem DWP.lp {next : TS → Hp → Prop} (h : next σ η) : DWP E N K (.lp next :: k) Q σ η := h
theorem DWP.inl {dst : Option Nat} {f : Operand} {args : List Operand} {g : FuncId} {cs : List CV} {tys : Array TypeId} {ty : TypeId} {pos : String} {after : Array Edge} {fn : Func} {c : Code} {rs : List ResultVar} {nt : Nat} {all rest : List Oper}
    (hc : calleeC σ f args = some (g, cs)) (hf : E.P.funcs[g]? = some fn) (hb : fn.body = some c) (hname : (fn.name == "runtime.NumGoroutine") = false) (hrs : fn.results = rs.toArray) (hnt : fn.ntmps = nt) (hn : Nat.ble cs.length nt = true) (hd : dstB N dst = true)
    (h : DWP E nt η.n (.code c :: .fr N K σ dst rs :: .ops all rest :: k) Q (ofArgs 0 cs) η) : DWP E N K (.ops all (⟨dst, .call { callee := .value f, args := args.toArray, argTypes := tys }, ty, pos, after, none⟩ :: rest) :: k) Q σ η := by
  show DO E N K all _ (dq E N K k Q) σ η
  refine DO.call (Q' := fun r η' => match r with
    | .ret x => DO E N K all rest (dq E N K k Q) (putT σ dst x) η'
    | .pan x => dq E N K k Q (.pan x) .lf η') ?_ hc hd (fun _ _ h => h) (fun _ _ h => h)
  refine DCall.enter hf hb hname rs hrs nt hnt hn (DC.mono h ?_)
  intro e σ1 η1 h1
  cases e with
  | norm => exact h1
  | ret => exact h1
  | exit i => exact h1
  | pan x => exact h1
theorem DWP.ct {dst : Option Nat} {f : Operand} {args : List Operand} {f0 g : FuncId} {x : CV} {fs cs : List CV} {ty' : TypeId} {z : AV} {tys : Array TypeId} {ty : TypeId} {pos : String} {after : Array Edge} {fn : Func} {c : Code} {rs : List ResultVar} {nt : Nat} {all rest : List Oper}
    (hct : CtOk E f0 ty' z) (hc : calleeC σ f args = some (f0, [x])) (hx : fnC x = some (g, fs, cs)) (hf : E.P.funcs[g]? = some fn) (hb : fn.body = some c) (hname : (fn.name == "runtime.NumGoroutine") = false) (hrs : fn.results = rs.toArray) (hnt : fn.ntmps = nt) (hn : Nat.ble (fs ++ cs).length nt = true) (hd : dstB N dst = true)
    (h : DWP E nt η.n (.code c :: .ct N K σ dst rs ty' z :: .ops all rest :: k) Q (ofArgs 0 (fs ++ cs)) η) : DWP E N K (.ops all (⟨dst, .call { callee := .value f, args := args.toArray, argTypes := tys }, ty, pos, after, none⟩ :: rest) :: k) Q σ η := by
  show DO E N K all _ (dq E N K k Q) σ η
  have key : DCall E g (fs ++ cs) η (fun r η' => match r with
    | .ret _ => DO E N K all rest (dq E N K k Q) (putT σ dst (.d z)) η'
    | .pan x => ∃ y, (x = .ifc ty' (.d y) ∨ x = .d (.ifc ty' y)) ∧ faultB y = true ∧ DO E N K all rest (dq E N K k Q) (putT σ dst (.d y)) η') := by
    refine DCall.enter hf hb hname rs hrs nt hnt hn (DC.mono h ?_)
    intro e σ1 η1 h1
    cases e with
    | norm => exact h1
    | ret => exact h1
    | exit i => exact h1
    | pan x => exact h1
  have key2 : DCall E f0 [x] η (fun r η' => match r with
    | .ret y => DO E N K all rest (dq E N K k Q) (putT σ dst y) η'
    | .pan _ => False) := fun ρ ys ηB hi hh => by
    have hi' : InstL ρ [.fn g fs cs] ys := by
      simp only [InstL] at hi
      obtain ⟨y, r, rfl, h1, rfl⟩ := hi
      have := fnC_inst hx h1
      simp only [InstL]
      exact ⟨y, [], rfl, this, rfl⟩
    refine (DCall.ct hct key (fun x η' hx => ?_) ρ ys ηB hi' hh).mono ?_
    · obtain ⟨y, h1, h2, _⟩ := hx; exact ⟨y, h1, h2⟩
    · rintro r ηB' ⟨ρ', d, η1, g1, g2, g3, (⟨x, g4, rfl⟩ | ⟨x, y, ⟨y', q1, q2, q3⟩, q4, q5, rfl⟩)⟩
      · exact ⟨ρ', _, η1, g1, g2, g3, g4⟩
      · refine ⟨ρ', _, η1, g1, g2, g3, ?_⟩
        have : y = y' := by
          rcases q1 with rfl | rfl <;> rcases q4 with e | e <;> cases e <;> rfl
        subst this; exact q3
  exact DO.call key2 hc hd (fun _ _ h => h) (fun _ _ h => h.elim)
theorem DWP.inlT {o : Oper} {i : Nat} {f : Operand} {args : List Operand} {g : FuncId} {cs : List CV} {tys : Array TypeId} {fn : Func} {c : Code} {rs : List ResultVar} {nt : Nat} {all : List Oper} {l : List (Nat × Oper × TK)} {A : Als} {pend : List (Nat × Oper × CV)} {fs : List (Nat × List AV × AV)} {σ1 : TS} {η1 : Hp} (ho : o.op = .call { callee := .value f, args := args.toArray, argTypes := tys })
    (hp : FOk E fs → PendD E N all pend σ η) (hnd' : nodupB ((nuC (mOf all.toArray i A)).map (·.1)) = true) (hop : openN (nuC (mOf all.toArray i A)) σ η = (σ1, η1)) (hw : wantedD all o σ1 = some true) (hc : calleeC σ1 f args = some (g, cs)) (hf : E.P.funcs[g]? = some fn) (hb : fn.body = some c) (hname : (fn.name == "runtime.NumGoroutine") = false) (hrs : fn.results = rs.toArray) (hnt : fn.ntmps = nt) (hn : Nat.ble cs.length nt = true) (hd : dstB N o.dst = true)
    (h : DWP E nt η1.n (.code c :: .fr N K σ1 o.dst rs :: .tl all l (mNot all.toArray i A) (keepC all i pend) fs :: k) Q (ofArgs 0 cs) η1) : DWP E N K (.tl all ((i, o, .one) :: l) A pend fs :: k) Q σ η := by
  show FOk E fs → DTl E N K all (dq E N K k Q) _ A pend σ η
  intro hfs
  refine DTl.eff (R := fun r η' => match r with
    | .ret x => FOk E fs → DTl E N K all (dq E N K k Q) l (mNot all.toArray i A) (keepC all i pend) (putT σ1 o.dst x) η'
    | .pan x => dq E N K k Q (.pan x) .lf η') (hp hfs) hnd' hd hop hw (DEff.call ho ?_ hc) (fun _ _ h => h hfs) (fun _ _ h => h)
  refine DCall.enter hf hb hname rs hrs nt hnt hn (DC.mono h ?_)
  intro e σ1 η1 h1
  cases e with
  | norm => exact h1
  | ret => exact h1
  | exit i => exact h1
  | pan x => exact h1
end
end Go.Bw
