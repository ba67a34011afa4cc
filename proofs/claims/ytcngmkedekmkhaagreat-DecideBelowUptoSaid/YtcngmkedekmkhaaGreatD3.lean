/-
  Own work. The abstract machine, third part: operations on own memory; handing own memory on; calls.
-/
import Derived.Test.YtcngmkedekmkhaaGreatD2
noncomputable section
namespace Go.Bw
open Go
theorem Oper.wp_monoQ {P : Program} {o : Oper} {a : Act} {w : World} {K K' : Act → World → Prop} {Q Q' : Exit → Act → World → Prop} (h : ∀ a w, K a w → K' a w) (hq : ∀ e a w, Q e a w → Q' e a w)
    (hh : o.wp P a w K Q) : o.wp P a w K' Q' := by
  unfold Oper.wp at *
  generalize (execOp a.eval o).run P w = r at *
  cases r with
  | ok n w' =>
    cases n <;> simp only [Oper.upon] at hh ⊢ <;>
      first
        | exact h _ _ hh
        | exact Calls.mono hh (fun e w'' he => by cases e <;> first | exact h _ _ he | exact hq _ _ _ he | exact (let ⟨a, w, hz⟩ := he; ⟨a, w, hq _ _ _ hz⟩))
        | exact Rows.mono hh (fun _ _ he => h _ _ he)
  | halt x w' => cases x <;> simp only [Oper.upon] at hh ⊢ <;> first | exact hh | exact hq _ _ _ hh
theorem wpList_monoQ {P : Program} {ops : Array Oper} {Q Q' : Exit → Act → World → Prop} (hq : ∀ e a w, Q e a w → Q' e a w) : ∀ {l : List Oper} {a : Act} {w : World}, wpList P ops Q l a w → wpList P ops Q' l a w
  | [], _, _, h => hq _ _ _ h
  | o :: rest, a, w, h => by
    unfold wpList at h ⊢
    split
    · rename_i hw
      rw [if_pos hw] at h
      exact h.imp (Oper.wp_monoQ (fun _ _ hh => wpList_monoQ hq hh) hq) fun ⟨h1, a, w, h2⟩ => ⟨h1, a, w, hq _ _ _ h2⟩
    · rename_i hw
      rw [if_neg hw] at h
      exact wpList_monoQ hq h
theorem AOps.mono {C : Cx} {N : Nat} {ops : Array Oper} {rest : List Oper} {Q Q' : AQ} {σ : Sg} {η : List Ent} (h : AOps C N ops rest Q σ η) (hq : ∀ e σ η, Q e σ η → Q' e σ η) : AOps C N ops rest Q' σ η := fun F w0 η0 a w hs hx =>
  wpList_monoQ (fun _ _ _ ⟨e0, σ', η', h1, h2⟩ => ⟨e0, σ', η', hq _ _ _ h1, h2⟩) (h F w0 η0 a w hs hx)
theorem DO.up {E : Env} {N K : Nat} {all rest : List Oper} {Q : DQ} {σB : Sg} {ηB : List Ent} {ρ ρ' : Rho} (hl : ρ.le ρ') (h : AOps E.toCx N all.toArray rest (lift K ρ' Q) σB ηB) : AOps E.toCx N all.toArray rest (lift K ρ Q) σB ηB :=
  h.mono fun _ _ _ h => lift_mono (hl.toK K) (fun _ _ _ h => h) h
def Hp.push (η : Hp) (x : CEnt) : Hp := ⟨Tr.put 24 η.e η.n (some x), η.n + 1⟩
def Hp.set (η : Hp) (i : Nat) (x : CEnt) : Hp := ⟨Tr.put 24 η.e i (some x), η.n⟩
def Rho.setB (ρ : Rho) (t b : Nat) : Rho := ⟨fun u => if u = t then some b else ρ.b u, ρ.s⟩
def Rho.setS (ρ : Rho) (t n : Nat) (x : Option Addr × Nat) : Rho := ⟨ρ.b, fun u m => if u = t ∧ m = n then some x else ρ.s u m⟩
theorem Rho.le_setB {ρ : Rho} {t b : Nat} (h : ρ.b t = none) : ρ.le (ρ.setB t b) := ⟨fun u x hx => by
  have : u ≠ t := fun e => by subst e; rw [h] at hx; cases hx
  simp [Rho.setB, this, hx], fun _ _ _ h => h⟩
theorem Rho.le_setS {ρ : Rho} {t n : Nat} {x : Option Addr × Nat} (h : ∀ y, ρ.s t n = some y → y = x) : ρ.le (ρ.setS t n x) := ⟨fun _ _ h => h, fun u m y hy => by
  by_cases hu : u = t ∧ m = n
  · obtain ⟨rfl, rfl⟩ := hu
    simp [Rho.setS, h y hy]
  · simp [Rho.setS, hu, hy]⟩
theorem nth_append_left {α : Type} {l r : List α} {i : Nat} {x : α} (h : nth l i = some x) : nth (l ++ r) i = some x := by
  rw [nth_eq] at h ⊢; rw [List.getElem?_append_left (List.getElem?_eq_some_iff.1 h).1]; exact h
theorem HS.lt {ρ : Rho} {η : Hp} {ηB : List Ent} (hh : HS ρ η ηB) {i : Nat} {x : CEnt} (h : η.e.get i = some x) : i < η.n := by
  obtain ⟨y, h1, _⟩ := hh.en i x h
  rw [nth_eq] at h1
  rw [← hh.len]; exact (List.getElem?_eq_some_iff.1 h1).1
theorem HS.push {ρ ρ' : Rho} {η : Hp} {ηB : List Ent} (hh : HS ρ η ηB) (hl : ρ.le ρ') (hs : ∀ i, i ≠ η.n → ρ'.s i = ρ.s i) (hb : ∀ i, i ≠ η.n → ρ'.b i = ρ.b i) {x : CEnt} {y : Ent} (hx : EInst ρ' η.n x y) : HS ρ' (η.push x) (ηB ++ [y]) := by
  refine ⟨fun i z hz => ?_, by simp [Hp.push, hh.len], fun t ht => ?_⟩
  · rcases Tr.get_put 24 η.e η.n i _ z hz with ⟨rfl, h1⟩ | ⟨hne, h1⟩
    · cases h1
      exact ⟨y, by rw [nth_eq, ← hh.len]; simp, hx⟩
    · obtain ⟨q, h2, h3⟩ := hh.en i z h1
      exact ⟨q, nth_append_left h2, h3.mono hl (hs i hne)⟩
  · have : t ≠ η.n := by simp [Hp.push] at ht; omega
    rw [hb t this, hs t this]
    exact hh.dom t (by simp [Hp.push] at ht; omega)
theorem HS.set {ρ ρ' : Rho} {η : Hp} {ηB : List Ent} (hh : HS ρ η ηB) (hl : ρ.le ρ') {i : Nat} (hs : ∀ j, j ≠ i → ρ'.s j = ρ.s j) (hb : ∀ j, j ≠ i → ρ'.b j = ρ.b j) (hi : i < η.n) {x : CEnt} {y : Ent} (hx : EInst ρ' i x y) : HS ρ' (η.set i x) (ηB.set i y) := by
  refine ⟨fun j z hz => ?_, by simp [Hp.set, hh.len], fun t ht => ?_⟩
  · rcases Tr.get_put 24 η.e i j _ z hz with ⟨rfl, h1⟩ | ⟨hne, h1⟩
    · cases h1
      exact ⟨y, by rw [nth_eq]; simp [hh.len, hi], hx⟩
    · obtain ⟨q, h2, h3⟩ := hh.en j z h1
      exact ⟨q, by rw [nth_eq] at h2 ⊢; rw [List.getElem?_set_ne (Ne.symm hne)]; exact h2, h3.mono hl (hs j hne)⟩
  · have : t ≠ i := by simp [Hp.set] at ht; omega
    rw [hb t this, hs t this]
    exact hh.dom t ht
section
variable {E : Env} {N K : Nat} {Q : DQ} {σ : TS} {η : Hp} {o : Oper} {x : CV} {all rest : List Oper}
theorem DO.ofN {cells : List CV} {d : Nat} (hg : o.guard = none) (hd : o.dst = some d) (hdN : Nat.blt d N = true) (h : ∀ ρ s ηB, SS ρ σ s → HS ρ η ηB → ∃ cs, InstL ρ cells cs ∧ OpN E.toCx N o s ηB cs)
    (k : DO E N K all rest Q (putT σ (some d) (.own η.n 0)) (η.push (.box cells))) : DO E N K all (o :: rest) Q σ η := fun ρ σB ηB hs hh => by
  obtain ⟨cs, h1, h2⟩ := h ρ _ ηB hs hh
  refine AOps.ofN hg hd hdN h2 fun b => ?_
  have hdom := hh.dom η.n (Nat.le_refl _)
  have hl : ρ.le (ρ.setB η.n b) := Rho.le_setB hdom.1
  have hbn : (ρ.setB η.n b).b η.n = some b := by simp [Rho.setB]
  refine DO.up hl (k _ _ _ ((hs.mono hl).put (some d) (by simp only [Inst]; exact ⟨b, ηB.length, hbn, rfl⟩)) ?_)
  exact hh.push hl (fun _ _ => rfl) (fun i hi => by simp [Rho.setB, hi]) ⟨b, cs, hbn, rfl, h1.mono hl⟩
theorem box_new {t : TypeId} {p : Operand} (ho : o.op = .box t p) (hp : cev σ p = some x) : ∀ ρ s ηB, SS ρ σ s → HS ρ η ηB → ∃ cs, InstL ρ (cellsC x) cs ∧ OpN E.toCx N o s ηB cs := fun ρ s ηB hs _ => by
  obtain ⟨y, h1, h2⟩ := cev_inst hs hp
  exact ⟨_, cellsC_inst h2, OpN.box ho h1⟩
theorem alloc_new' {t : TypeId} {td : TD} {sz by' : Nat} {z : List Value} (ho : o.op = .alloc t) (ht : tget E.T t = some ⟨td, sz, by', z⟩) : ∀ ρ s ηB, SS ρ σ s → HS ρ η ηB → ∃ cs, InstL ρ ((z.map .v).map .d) cs ∧ OpN E.toCx N o s ηB cs := fun _ _ _ _ _ =>
  ⟨_, instL_d _, OpN.alloc ho ht⟩
def onesC : List CV → Bool
  | [] => true
  | .d y :: r => match onesB [y] with
    | true => onesC r
    | false => false
  | .agg _ :: _ => false
  | .tup _ :: _ => false
  | _ :: r => onesC r
theorem onesB_cons {y : AV} {r : List AV} (h : onesB [y] = true) (hr : onesB r = true) : onesB (y :: r) = true := by
  cases y <;> simp_all [onesB]
theorem onesC_inst {ρ : Rho} : ∀ {xs : List CV} {ys : List AV}, onesC xs = true → InstL ρ xs ys → onesB ys = true
  | [], ys, _, h => by simp only [InstL] at h; subst h; rfl
  | x :: r, ys, ho, h => by
    simp only [InstL] at h
    obtain ⟨y, r', rfl, h1, h2⟩ := h
    have key : onesC r = true → onesB [y] = true → onesB (y :: r') = true := fun h3 h4 => onesB_cons h4 (onesC_inst h3 h2)
    cases x with
    | d z =>
      simp only [Inst] at h1; subst h1
      simp only [onesC] at ho
      split at ho
      · rename_i h3; exact key ho h3
      · cases ho
    | agg xs => cases ho
    | tup xs => cases ho
    | own t n => simp only [Inst] at h1; obtain ⟨b, t', _, rfl⟩ := h1; exact key ho rfl
    | os t n => simp only [Inst] at h1; obtain ⟨a, c, t', _, rfl⟩ := h1; exact key ho rfl
    | oe t n m => simp only [Inst] at h1; obtain ⟨a, c, t', _, rfl⟩ := h1; exact key ho rfl
    | om t => simp only [Inst] at h1; obtain ⟨b, t', _, rfl⟩ := h1; exact key ho rfl
    | fn f fs cs => simp only [Inst] at h1; obtain ⟨us, vs, rfl, _⟩ := h1; exact key ho rfl
    | ifc t z => simp only [Inst] at h1; obtain ⟨u, rfl, _⟩ := h1; exact key ho rfl
theorem DO.store {t : TypeId} {p v : Operand} {i off : Nat} {cs cs' : List CV} {ti : TI} (hg : o.guard = none) (ho : o.op = .store t p v) (hd : o.dst = none) (hp : cev σ p = some (.own i off)) (hv : cev σ v = some x) (hi : η.e.get i = some (.box cs)) (ht : tget E.T t = some ti)
    (hk : Nat.beq (cellsC x).length ti.size = true) (h1 : onesC (cellsC x) = true) (hl : spliceC cs off (cellsC x) = some cs') (k : DO E N K all rest Q σ (η.set i (.box cs'))) : DO E N K all (o :: rest) Q σ η := fun ρ σB ηB hs hh => by
  obtain ⟨y, h2, h3⟩ := cev_inst hs hp
  simp only [Inst] at h3
  obtain ⟨b, t', h3, rfl⟩ := h3
  obtain ⟨z, h4, h5⟩ := cev_inst hs hv
  obtain ⟨q, h6, h7⟩ := hh.en i _ hi
  obtain ⟨b', us, h8, rfl, h9⟩ := h7
  rw [h3] at h8; cases h8
  have hc := cellsC_inst h5
  obtain ⟨us', h10, h11⟩ := spliceC_inst hl h9 hc
  refine AOps.opU hg hd (opU_store ho h2 h4 h6 ht (by rw [hc.length]; exact hk) (onesC_inst h1 hc) h10) (k ρ _ _ hs ?_)
  exact hh.set (.refl ρ) (fun _ _ => rfl) (fun _ _ => rfl) (hh.lt hi) ⟨b, us', h3, rfl, h11⟩
theorem DO.storeRow {t : TypeId} {p v : Operand} {i n m e kk : Nat} {rows : List (List AV)} {r r' : List AV} {y : AV} {ti : TI} (j off : Nat) (hg : o.guard = none) (ho : o.op = .store t p v) (hd : o.dst = none) (hp : cev σ p = some (.oe i n m)) (hv : cev σ v = some (.d y)) (hi : η.e.get i = some (.row e kk rows)) (hn : n = rows.length)
    (hm : m = j * kk + off) (hr : rows[j]? = some r) (ht : tget E.T t = some ti) (hk : Nat.beq (cellsA y).length ti.size = true) (h1 : onesB (cellsA y) = true) (hl : spliceA r off (cellsA y) = some r') (k : DO E N K all rest Q σ (η.set i (.row e kk (rows.set j r')))) : DO E N K all (o :: rest) Q σ η := fun ρ σB ηB hs hh => by
  obtain ⟨z, h2, h3⟩ := cev_inst hs hp
  simp only [Inst] at h3
  obtain ⟨a, c, t', h3, rfl⟩ := h3
  obtain ⟨z, h4, h5⟩ := cev_inst hs hv
  simp only [Inst] at h5; subst h5
  obtain ⟨q, h6, h7⟩ := hh.en i _ hi
  obtain ⟨⟨a', c', h8, rfl⟩, h9⟩ := h7
  subst hn
  rw [h3] at h8; cases h8
  refine AOps.opU hg hd (opU_storeRow ho j off h2 hm h4 h6 hr ht hk h1 hl) (k ρ _ _ hs ?_)
  exact hh.set (.refl ρ) (fun _ _ => rfl) (fun _ _ => rfl) (hh.lt hi) ⟨⟨a, c, by simpa using h3, by simp⟩, by simpa using h9⟩
theorem DO.lit {d n : Nat} {t : TypeId} {parts : Array (Nat × Operand)} {ty : TypeId} {pos : String} {after : Array Edge} {e k sz by' sz' by'' : Nat} {z z' : List Value} {td' : TD} {cells : List AV}
    (ht : tget E.T t = some ⟨.slice e k, sz, by', z⟩) (hte : tget E.T e = some ⟨td', sz', by'', z'⟩) (hf : fillG k (dat σ) (reps n (z'.map .v)) parts.toList = some cells) (hb : Nat.ble (n * k) 16777216 = true) (hk : Nat.ble 1 k = true) (hd : Nat.blt d N = true)
    (kk : DO E N K all rest Q (putT σ (some d) (.os η.n n)) (η.push (.row e k (chunk n k cells)))) : DO E N K all (⟨some d, .buildSlice t n parts, ty, pos, after, none⟩ :: rest) Q σ η := fun ρ σB ηB hs hh => by
  have hf' : fillG k (look σB) (reps n (z'.map .v)) parts.toList = some cells := by
    have key : ∀ (l : List (Nat × Operand)) (cs r : List AV), fillG k (dat σ) cs l = some r → fillG k (look σB) cs l = some r := by
      intro l
      induction l with
      | nil => intro cs r h; exact h
      | cons p l ih =>
        intro cs r h
        obtain ⟨i, p⟩ := p
        simp only [fillG] at h ⊢
        split at h
        · rename_i y hy
          have hy' : ev (look σB) p = some y := by
            cases p with
            | tmp u => exact dat_ss hs hy
            | const v => exact hy
            | global g => exact hy
            | func f => exact hy
          simp only [hy']
          split at h
          · rename_i c1 h1 h2
            exact ih _ _ h
          · cases h
        · cases h
    exact key _ _ _ hf
  refine AOps.lit ht hte hf' hb hk hd fun b => ?_
  have hdom := hh.dom η.n (Nat.le_refl _)
  have hl : ρ.le (ρ.setS η.n n (some ⟨b, 0, none⟩, n)) := Rho.le_setS fun y hy => by rw [hdom.2] at hy; cases hy
  have hbn : (ρ.setS η.n n (some ⟨b, 0, none⟩, n)).s η.n n = some (some ⟨b, 0, none⟩, n) := by simp [Rho.setS]
  refine DO.up hl (kk _ _ _ ((hs.mono hl).put (some d) (by simp only [Inst]; exact ⟨_, _, ηB.length, hbn, rfl⟩)) ?_)
  refine hh.push hl (fun i hi => by funext m; simp [Rho.setS, hi]) (fun _ _ => rfl) ⟨⟨some ⟨b, 0, none⟩, n, by rw [chunk_length]; exact hbn, by rw [chunk_length]⟩, fun m hm => ?_⟩
  rw [chunk_length] at hm
  have : m ≠ n := by omega
  simp only [Rho.setS, this, and_false, if_false]
  exact hdom.2 m
theorem DO.nilRow (t e k : Nat) (ht : σ.get t = some (.d (.v (.slice none 0 0)))) (kk : DO E N K all rest Q (Tr.put 24 σ t (some (.os η.n 0))) (η.push (.row e k []))) : DO E N K all rest Q σ η := fun ρ σB ηB hs hh => by
  obtain ⟨y, h1, h2⟩ := hs t _ ht
  simp only [Inst] at h2; subst h2
  refine AOps.nilRow t e k h1 ?_
  have hdom := hh.dom η.n (Nat.le_refl _)
  have hl : ρ.le (ρ.setS η.n 0 (none, 0)) := Rho.le_setS fun y hy => by rw [hdom.2] at hy; cases hy
  have hbn : (ρ.setS η.n 0 (none, 0)).s η.n 0 = some (none, 0) := by simp [Rho.setS]
  refine DO.up hl (kk _ _ _ ((hs.mono hl).put (some t) (by simp only [Inst]; exact ⟨_, _, ηB.length, hbn, rfl⟩)) ?_)
  refine hh.push hl (fun i hi => by funext m; simp [Rho.setS, hi]) (fun _ _ => rfl) ⟨⟨none, 0, by simpa using hbn, by simp⟩, fun m hm => ?_⟩
  have : m ≠ 0 := by simp at hm; omega
  simp only [Rho.setS, this, and_false, if_false]
  exact hdom.2 m
inductive SrcC (E : Env) (σ : TS) (η : Hp) (k : Nat) : Operand → List (List AV) → Prop where
  | sl {p : Operand} {rows : List (List AV)} : cev σ p = some (.d (.sl k rows)) → SrcC E σ η k p rows
  | slI {p : Operand} {x : AV} {rows : List (List AV)} : cev σ p = some (.d x) → (∀ w A v, Rel w A x v → Rel w A (.sl k rows) v) → SrcC E σ η k p rows
  | nil {p : Operand} : cev σ p = some (.d (.v (.slice none 0 0))) → SrcC E σ η k p []
  | row {p : Operand} {j n e : Nat} {rows : List (List AV)} : cev σ p = some (.os j n) → η.e.get j = some (.row e k rows) → n = rows.length → SrcC E σ η k p rows
  | fz {p : Operand} {j n : Nat} {rows : List (List AV)} : cev σ p = some (.os j n) → η.e.get j = some (.fzS k rows) → n = rows.length → SrcC E σ η k p rows
theorem SrcC.ok {ρ : Rho} {σB : Sg} {ηB : List Ent} (hs : SS ρ σ (look σB)) (hh : HS ρ η ηB) {k : Nat} {p : Operand} {rows : List (List AV)} (h : SrcC E σ η k p rows) : ∀ F a w, St E.G N w F a σB ηB → SrcOk w (Al F ηB) k (a.eval p) rows := fun F a w hst => by
  cases h with
  | sl h =>
    obtain ⟨y, h1, h2⟩ := cev_inst hs h
    simp only [Inst] at h2; subst h2
    exact SrcOk.sl (ev_rel hst.sg h1)
  | slI h hI =>
    obtain ⟨y, h1, h2⟩ := cev_inst hs h
    simp only [Inst] at h2; subst h2
    exact SrcOk.sl (hI _ _ _ (ev_rel hst.sg h1))
  | nil h =>
    obtain ⟨y, h1, h2⟩ := cev_inst hs h
    simp only [Inst] at h2; subst h2
    have := ev_rel hst.sg h1
    simp only [Rel] at this
    rw [this]
    exact ⟨none, 0, 0, [], rfl, rfl, by simp [RelRows], fun _ => rfl, fun _ h => by cases h⟩
  | row h h3 hn =>
    obtain ⟨y, h1, h2⟩ := cev_inst hs h
    simp only [Inst] at h2
    obtain ⟨a', c, t', h4, rfl⟩ := h2
    obtain ⟨q, h5, h6⟩ := hh.en _ _ h3
    obtain ⟨⟨a2, c2, h7, rfl⟩, _⟩ := h6
    subst hn
    rw [h4] at h7; cases h7
    have := ev_rel hst.sg h1
    simp only [Rel] at this
    rw [this]
    exact SrcOk.row (ents_nth hst.hp h5)
  | fz h h3 hn =>
    obtain ⟨y, h1, h2⟩ := cev_inst hs h
    simp only [Inst] at h2
    obtain ⟨a', c, t', h4, rfl⟩ := h2
    obtain ⟨q, h5, h6⟩ := hh.en _ _ h3
    obtain ⟨a2, c2, h7, rfl⟩ := h6
    subst hn
    rw [h4] at h7; cases h7
    have := ev_rel hst.sg h1
    simp only [Rel] at this
    rw [this]
    exact SrcOk.sl (fact_ok hst.hp h5)
theorem DO.append {i d n : Nat} {s p : Operand} {t : TypeId} {ty : TypeId} {pos : String} {after : Array Edge} {e k sz by' sz' by'' : Nat} {z z' : List Value} {td' : TD} {rows rows2 : List (List AV)}
    (hb : (rows ++ rows2).length * by'' ≤ 140737488355328) (hs' : cev σ s = some (.os i n)) (hi : η.e.get i = some (.row e k rows)) (hn : n = rows.length) (hx : SrcC E σ η k p rows2) (ht : tget E.T t = some ⟨.slice e k, sz, by', z⟩) (hte : tget E.T e = some ⟨td', sz', by'', z'⟩) (h1 : rowsOnes rows2 = true)
    (hk : Nat.ble 1 k = true) (hby : Nat.ble 1 by'' = true) (hd : Nat.blt d N = true)
    (kk : DO E N K all rest Q (putT σ (some d) (.os i (rows ++ rows2).length)) (η.set i (.row e k (rows ++ rows2)))) :
    DO E N K all (⟨some d, .call { callee := .builtin .append, args := #[s, p], argTypes := #[t, t] }, ty, pos, after, none⟩ :: rest) Q σ η := fun ρ σB ηB hs hh => by
  obtain ⟨y, h2, h3⟩ := cev_inst hs hs'
  simp only [Inst] at h3
  obtain ⟨a, c, t', h3, rfl⟩ := h3
  obtain ⟨q, h6, h7⟩ := hh.en i _ hi
  obtain ⟨⟨a', c', h8, rfl⟩, h9⟩ := h7
  subst hn
  rw [h3] at h8; cases h8
  refine AOps.opR rfl hd (opR_append rfl ht hte h2 h6 (hx.ok hs hh) h1 hk hby hb) ?_
  rintro r η' ⟨a', c', h0, rfl, rfl⟩
  have hl : ρ.le (ρ.setS i (rows ++ rows2).length (a', c')) := Rho.le_setS fun y hy => by
    by_cases hz : rows2 = []
    · subst hz
      simp only [List.append_nil] at hy
      rw [h3] at hy; cases hy
      obtain ⟨rfl, rfl⟩ := h0 rfl; rfl
    · have : rows.length < (rows ++ rows2).length := by
        have := List.length_pos_iff.2 hz
        simp; omega
      rw [h9 _ this] at hy; cases hy
  have hbn : (ρ.setS i (rows ++ rows2).length (a', c')).s i (rows ++ rows2).length = some (a', c') := by simp [Rho.setS]
  refine DO.up hl (kk _ _ _ ((hs.mono hl).put (some d) (by simp only [Inst]; exact ⟨_, _, i, hbn, rfl⟩)) ?_)
  refine hh.set hl (fun j hj => by funext m; simp [Rho.setS, hj]) (fun _ _ => rfl) (hh.lt hi) ⟨⟨a', c', hbn, rfl⟩, fun m hm => ?_⟩
  have hne : m ≠ (rows ++ rows2).length := by omega
  simp only [Rho.setS, hne, and_false, if_false]
  exact h9 m (by simp at hm; omega)
theorem DO.appendS {i d n : Nat} {s p : Operand} {t u : TypeId} {ty : TypeId} {pos : String} {after : Array Edge} {e k sz by' sz' by'' szu byu : Nat} {z z' zu : List Value} {td' : TD} {rows : List (List AV)} {b : ByteArray}
    (hb : (rows ++ bytesR b).length * by'' ≤ 140737488355328) (hs' : cev σ s = some (.os i n)) (hi : η.e.get i = some (.row e k rows)) (hn : n = rows.length) (hx : cev σ p = some (.d (.v (.string b)))) (ht : tget E.T t = some ⟨.slice e k, sz, by', z⟩) (hu : tget E.T u = some ⟨.str, szu, byu, zu⟩) (hte : tget E.T e = some ⟨td', sz', by'', z'⟩)
    (hk : Nat.beq k 1 = true) (hby : Nat.beq by'' 1 = true) (hd : Nat.blt d N = true)
    (kk : DO E N K all rest Q (putT σ (some d) (.os i (rows ++ bytesR b).length)) (η.set i (.row e k (rows ++ bytesR b)))) :
    DO E N K all (⟨some d, .call { callee := .builtin .append, args := #[s, p], argTypes := #[t, u] }, ty, pos, after, none⟩ :: rest) Q σ η := fun ρ σB ηB hs hh => by
  obtain ⟨y, h2, h3⟩ := cev_inst hs hs'
  simp only [Inst] at h3
  obtain ⟨a, c, t', h3, rfl⟩ := h3
  obtain ⟨y2, g2, g3⟩ := cev_inst hs hx
  simp only [Inst] at g3; subst g3
  obtain ⟨q, h6, h7⟩ := hh.en i _ hi
  obtain ⟨⟨a', c', h8, rfl⟩, h9⟩ := h7
  subst hn
  rw [h3] at h8; cases h8
  refine AOps.opR rfl hd (opR_appendS rfl ht hu hte h2 h6 g2 hk hby hb) ?_
  rintro r η' ⟨a', c', h0, rfl, rfl⟩
  have hl : ρ.le (ρ.setS i (rows ++ bytesR b).length (a', c')) := Rho.le_setS fun y hy => by
    by_cases hz : bytesR b = []
    · rw [hz] at hy
      simp only [List.append_nil] at hy
      rw [h3] at hy; cases hy
      obtain ⟨rfl, rfl⟩ := h0 hz; rfl
    · have : rows.length < (rows ++ bytesR b).length := by
        have := List.length_pos_iff.2 hz
        simp; omega
      rw [h9 _ this] at hy; cases hy
  have hbn : (ρ.setS i (rows ++ bytesR b).length (a', c')).s i (rows ++ bytesR b).length = some (a', c') := by simp [Rho.setS]
  refine DO.up hl (kk _ _ _ ((hs.mono hl).put (some d) (by simp only [Inst]; exact ⟨_, _, i, hbn, rfl⟩)) ?_)
  refine hh.set hl (fun j hj => by funext m; simp [Rho.setS, hj]) (fun _ _ => rfl) (hh.lt hi) ⟨⟨a', c', hbn, rfl⟩, fun m hm => ?_⟩
  have hne : m ≠ (rows ++ bytesR b).length := by omega
  simp only [Rho.setS, hne, and_false, if_false]
  exact h9 m (by simp at hm; omega)
theorem DO.make {d : Nat} {t : TypeId} {p q : Operand} {ty : TypeId} {pos : String} {after : Array Edge} {e k sz by' sz' by'' : Nat} {z z' : List Value} {td' : TD} {kl kc : IntKind} {li ci : Int} (l c : Nat)
    (hb : c * by'' ≤ 140737488355328) (hl : l ≤ c) (hx : cev σ p = some (.d (.v (.int kl li)))) (hli : li = (l : Int)) (hy : cev σ q = some (.d (.v (.int kc ci)))) (hci : ci = (c : Int)) (ht : tget E.T t = some ⟨.slice e k, sz, by', z⟩) (hte : tget E.T e = some ⟨td', sz', by'', z'⟩)
    (hk : Nat.ble 1 k = true) (hby : Nat.ble 1 by'' = true) (hd : Nat.blt d N = true)
    (kk : DO E N K all rest Q (putT σ (some d) (.os η.n l)) (η.push (.row e k (List.replicate l (z'.map .v))))) : DO E N K all (⟨some d, .makeSlice t p q, ty, pos, after, none⟩ :: rest) Q σ η := fun ρ σB ηB hs hh => by
  obtain ⟨y1, h2, h3⟩ := cev_inst hs hx
  simp only [Inst] at h3; subst h3
  obtain ⟨y1, h4, h5⟩ := cev_inst hs hy
  simp only [Inst] at h5; subst h5
  refine AOps.make l c hb hl h2 hli h4 hci ht hte hk hby hd fun b => ?_
  have hdom := hh.dom η.n (Nat.le_refl _)
  have hle : ρ.le (ρ.setS η.n l (some ⟨b, 0, none⟩, c)) := Rho.le_setS fun y hy => by rw [hdom.2] at hy; cases hy
  have hbn : (ρ.setS η.n l (some ⟨b, 0, none⟩, c)).s η.n l = some (some ⟨b, 0, none⟩, c) := by simp [Rho.setS]
  refine DO.up hle (kk _ _ _ ((hs.mono hle).put (some d) (by simp only [Inst]; exact ⟨_, _, ηB.length, hbn, rfl⟩)) ?_)
  refine hh.push hle (fun i hi => by funext m; simp [Rho.setS, hi]) (fun _ _ => rfl) ⟨⟨some ⟨b, 0, none⟩, c, by simpa using hbn, by simp⟩, fun m hm => ?_⟩
  have : m ≠ l := by simp at hm; omega
  simp only [Rho.setS, this, and_false, if_false]
  exact hdom.2 m
end
end Go.Bw
