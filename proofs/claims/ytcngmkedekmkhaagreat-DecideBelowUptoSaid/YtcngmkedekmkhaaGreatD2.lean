/-
  Own work. The abstract machine, second part: operations that yield one value.
-/
import Derived.Test.YtcngmkedekmkhaaGreatD1
noncomputable section
namespace Go.Bw
open Go
theorem OpP.mono {C : Cx} {N : Nat} {o : Oper} {s s' : Sl} {η : List Ent} {x : AV} (h : OpP C N o s η x) (hs : ∀ t ∈ tmpsOf o, ∀ y, s t = some y → s' t = some y) : OpP C N o s' η x :=
  fun F w a h1 h2 h3 h4 => h F w a h1 h2 h3 fun t ht y hy => h4 t ht y (hs t ht y hy)
theorem OpP.strong {C : Cx} {N : Nat} {o : Oper} {s s' : Sl} {η : List Ent} {x : AV} (h : OpP C N o s' η x)
    (hs : ∀ F w a, HOk C.G w F η → OpdOk w (Al F η) N a o s → OpdOk w (Al F η) N a o s') : OpP C N o s η x :=
  fun F w a h1 h2 h3 h4 => h F w a h1 h2 h3 (hs F w a h3 h4)
def dat (σ : TS) : Sl := fun t => match σ.get t with
  | some (.d x) => some x
  | _ => none
theorem dat_ss {ρ : Rho} {σ : TS} {s : Sl} (hs : SS ρ σ s) {t : Nat} {x : AV} (h : dat σ t = some x) : s t = some x := by
  unfold dat at h
  split at h
  · rename_i y hy
    simp only [Option.some.injEq] at h; subst h
    obtain ⟨z, h1, h2⟩ := hs t _ hy
    simp only [Inst] at h2; subst h2; exact h1
  · cases h
def DOpP (E : Env) (N : Nat) (o : Oper) (σ : TS) (η : Hp) (x : CV) : Prop := ∀ ρ s ηB, SS ρ σ s → HS ρ η ηB → ∃ y, Inst ρ x y ∧ OpP E.toCx N o s ηB y
section
variable {E : Env} {N K : Nat} {Q : DQ} {σ : TS} {η : Hp} {o : Oper} {x : CV} {all rest : List Oper}
theorem DO.ofP (hg : o.guard = none) (hd : dstB N o.dst = true) (h : DOpP E N o σ η x) (k : DO E N K all rest Q (putT σ o.dst x) η) : DO E N K all (o :: rest) Q σ η := fun ρ σB ηB hs hh => by
  obtain ⟨y, h1, h2⟩ := h ρ _ ηB hs hh
  exact AOps.ofP hg hd h2 (k ρ _ ηB (hs.put o.dst h1) hh)
theorem DOpP.aop {y : AV} (h : aop E.T (dat σ) o.op = some y) : DOpP E N o σ η (.d y) := fun ρ s ηB hs _ => ⟨y, rfl, (OpP.aop h).mono fun _ _ _ hy => dat_ss hs hy⟩
theorem DOpP.kop {y : AV} (h : kop E.P E.T (dat σ) o.op = some y) : DOpP E N o σ η (.d y) := fun ρ s ηB hs _ => ⟨y, rfl, (OpP.kop h).mono fun _ _ _ hy => dat_ss hs hy⟩
theorem DOpP.nop {y : AV} (h : nop E.P (dat σ) o.op = some y) : DOpP E N o σ η (.d y) := fun ρ s ηB hs _ => ⟨y, rfl, (OpP.nop h).mono fun _ _ _ hy => dat_ss hs hy⟩
theorem DOpP.gop {y : AV} (h : gop E.G E.T (dat σ) o.op = some y) : DOpP E N o σ η (.d y) := fun ρ s ηB hs _ => ⟨y, rfl, (OpP.gop h).mono fun _ _ _ hy => dat_ss hs hy⟩
def cellsC : CV → List CV
  | .agg xs => xs
  | .d y => (cellsA y).map .d
  | x => [x]
theorem cellsC_inst {ρ : Rho} {x : CV} {y : AV} (h : Inst ρ x y) : InstL ρ (cellsC x) (cellsA y) := by
  cases x with
  | d z => simp only [Inst] at h; subst h; exact instL_d _
  | agg xs => simp only [Inst] at h; obtain ⟨ys, rfl, h⟩ := h; exact h
  | tup xs => have h0 := h; simp only [Inst] at h0; obtain ⟨ys, rfl, _⟩ := h0; simp only [cellsC, cellsA, InstL]; exact ⟨_, _, rfl, h, rfl⟩
  | own t n => have h0 := h; simp only [Inst] at h0; obtain ⟨b, t', _, rfl⟩ := h0; simp only [cellsC, cellsA, InstL]; exact ⟨_, _, rfl, h, rfl⟩
  | os t n => have h0 := h; simp only [Inst] at h0; obtain ⟨a, c, t', _, rfl⟩ := h0; simp only [cellsC, cellsA, InstL]; exact ⟨_, _, rfl, h, rfl⟩
  | oe t n m => have h0 := h; simp only [Inst] at h0; obtain ⟨a, c, t', _, rfl⟩ := h0; simp only [cellsC, cellsA, InstL]; exact ⟨_, _, rfl, h, rfl⟩
  | om t => have h0 := h; simp only [Inst] at h0; obtain ⟨b, t', _, rfl⟩ := h0; simp only [cellsC, cellsA, InstL]; exact ⟨_, _, rfl, h, rfl⟩
  | fn f fs cs => have h0 := h; simp only [Inst] at h0; obtain ⟨us, vs, rfl, _⟩ := h0; simp only [cellsC, cellsA, InstL]; exact ⟨_, _, rfl, h, rfl⟩
  | ifc t z => have h0 := h; simp only [Inst] at h0; obtain ⟨u, rfl, _⟩ := h0; simp only [cellsC, cellsA, InstL]; exact ⟨_, _, rfl, h, rfl⟩
def overC : List CV → List CV → Option (List CV)
  | xs, [] => some xs
  | [], _ :: _ => none
  | _ :: xs, y :: ys => match overC xs ys with
    | some r => some (y :: r)
    | none => none
def spliceC : List CV → Nat → List CV → Option (List CV)
  | xs, 0, ys => overC xs ys
  | [], _ + 1, _ => none
  | x :: xs, n + 1, ys => match spliceC xs n ys with
    | some r => some (x :: r)
    | none => none
theorem overC_inst {ρ : Rho} : ∀ {ys xs r : List CV} {us vs : List AV}, overC xs ys = some r → InstL ρ xs us → InstL ρ ys vs → ∃ r', overA us vs = some r' ∧ InstL ρ r r'
  | [], xs, r, us, vs, h, hx, hy => by
    simp only [InstL] at hy; subst hy
    cases xs <;> simp only [overC, Option.some.injEq] at h <;> subst h
    · simp only [InstL] at hx; subst hx; exact ⟨[], rfl, rfl⟩
    · exact ⟨us, by cases us <;> rfl, hx⟩
  | y :: ys, [], r, us, vs, h, hx, hy => by simp [overC] at h
  | y :: ys, x :: xs, r, us, vs, h, hx, hy => by
    simp only [overC] at h
    split at h
    · rename_i r' h1
      simp only [Option.some.injEq] at h; subst h
      simp only [InstL] at hx hy
      obtain ⟨u, ur, rfl, _, hx⟩ := hx
      obtain ⟨v, vr, rfl, hv, hy⟩ := hy
      obtain ⟨q, h2, h3⟩ := overC_inst h1 hx hy
      exact ⟨v :: q, by simp [overA, h2], by simp only [InstL]; exact ⟨_, _, rfl, hv, h3⟩⟩
    · cases h
theorem spliceC_inst {ρ : Rho} : ∀ {n : Nat} {xs ys r : List CV} {us vs : List AV}, spliceC xs n ys = some r → InstL ρ xs us → InstL ρ ys vs → ∃ r', spliceA us n vs = some r' ∧ InstL ρ r r'
  | 0, xs, ys, r, us, vs, h, hx, hy => by
    have h' : overC xs ys = some r := by cases xs <;> exact h
    obtain ⟨q, h1, h2⟩ := overC_inst h' hx hy
    exact ⟨q, by cases us <;> exact h1, h2⟩
  | n + 1, [], ys, r, us, vs, h, hx, hy => by simp [spliceC] at h
  | n + 1, x :: xs, ys, r, us, vs, h, hx, hy => by
    simp only [spliceC] at h
    split at h
    · rename_i r' h1
      simp only [Option.some.injEq] at h; subst h
      simp only [InstL] at hx
      obtain ⟨u, ur, rfl, hu, hx⟩ := hx
      obtain ⟨q, h2, h3⟩ := spliceC_inst h1 hx hy
      exact ⟨u :: q, by simp [spliceA, h2], by simp only [InstL]; exact ⟨_, _, rfl, hu, h3⟩⟩
    · cases h
def fillC (fs : List (Nat × Nat × Nat × Bool)) (σ : TS) : List CV → List (Nat × Operand) → Option (List CV)
  | cells, [] => some cells
  | cells, (i, o) :: rest => match nth fs i, cev σ o with
    | some (off, _, k, _), some x => match Nat.beq (cellsC x).length k, spliceC cells off (cellsC x) with
      | true, some cells' => fillC fs σ cells' rest
      | _, _ => none
    | _, _ => none
theorem fillC_inst {ρ : Rho} {s : Sl} (hs : SS ρ σ s) {fs : List (Nat × Nat × Nat × Bool)} : ∀ {l : List (Nat × Operand)} {cells r : List CV} {us : List AV}, fillC fs σ cells l = some r → InstL ρ cells us → ∃ r', fillA fs s us l = some r' ∧ InstL ρ r r'
  | [], cells, r, us, h, hr => by simp only [fillC, Option.some.injEq] at h; subst h; exact ⟨us, rfl, hr⟩
  | (i, p) :: l, cells, r, us, h, hr => by
    simp only [fillC] at h
    split at h
    · rename_i off t k g x h1 h2
      split at h
      · rename_i cells' h3 h4
        obtain ⟨y, h5, h6⟩ := cev_inst hs h2
        have h7 := cellsC_inst h6
        obtain ⟨q, h8, h9⟩ := spliceC_inst h4 hr h7
        obtain ⟨r', h10, h11⟩ := fillC_inst hs h h9
        refine ⟨r', ?_, h11⟩
        simp only [fillA, h1, h5, h7.length, h3, h8, h10]
      · cases h
    · cases h
def cevs (σ : TS) : List Operand → Option (List CV)
  | [] => some []
  | o :: r => match cev σ o, cevs σ r with
    | some x, some xs => some (x :: xs)
    | _, _ => none
theorem cevs_inst {ρ : Rho} {s : Sl} (hs : SS ρ σ s) : ∀ {os : List Operand} {xs : List CV}, cevs σ os = some xs → ∃ ys, evs s os = some ys ∧ InstL ρ xs ys
  | [], _, h => by simp only [cevs, Option.some.injEq] at h; subst h; exact ⟨[], rfl, rfl⟩
  | o :: os, xs, h => by
    simp only [cevs] at h
    split at h
    · rename_i x ys h1 h2
      simp only [Option.some.injEq] at h; subst h
      obtain ⟨y, h3, h4⟩ := cev_inst hs h1
      obtain ⟨zs, h5, h6⟩ := cevs_inst hs h2
      exact ⟨y :: zs, by simp [evs, h3, h5], by simp only [InstL]; exact ⟨_, _, rfl, h4, h6⟩⟩
    · cases h
def refIn : List CV → Bool
  | [] => false
  | .d _ :: r => refIn r
  | _ :: _ => true
theorem refIn_allV {ρ : Rho} : ∀ {xs : List CV} {ys : List AV}, refIn xs = true → InstL ρ xs ys → allV ys = none
  | [], _, h, _ => by simp [refIn] at h
  | x :: r, ys, h, hr => by
    simp only [InstL] at hr
    obtain ⟨y, r', rfl, h1, h2⟩ := hr
    cases x with
    | d z =>
      simp only [refIn] at h
      have := refIn_allV h h2
      cases y <;> simp [allV, this]
    | agg xs => simp only [Inst] at h1; obtain ⟨ys, rfl, _⟩ := h1; rfl
    | tup xs => simp only [Inst] at h1; obtain ⟨ys, rfl, _⟩ := h1; rfl
    | own t n => simp only [Inst] at h1; obtain ⟨b, t', _, rfl⟩ := h1; rfl
    | os t n => simp only [Inst] at h1; obtain ⟨a, c, t', _, rfl⟩ := h1; rfl
    | oe t n m => simp only [Inst] at h1; obtain ⟨a, c, t', _, rfl⟩ := h1; rfl
    | om t => simp only [Inst] at h1; obtain ⟨b, t', _, rfl⟩ := h1; rfl
    | fn f fs cs => simp only [Inst] at h1; obtain ⟨us, vs, rfl, _⟩ := h1; rfl
    | ifc t z => simp only [Inst] at h1; obtain ⟨u, rfl, _⟩ := h1; rfl
def rop (T : Tab) (σ : TS) : Op → Option CV
  | .move x => cev σ x
  | .assign x => cev σ x
  | .pick c a b => match cev σ c with
    | some (.d (.v (.bool true))) => cev σ a
    | some (.d (.v (.bool false))) => cev σ b
    | _ => none
  | .extract x i => match cev σ x with
    | some (.tup xs) => nth xs i
    | _ => none
  | .field t x f => match cev σ x, tget T t with
    | some (.agg xs), some ⟨.struct fs, _, _, _⟩ => match nth fs f with
      | some (o, _, k, g) => match g with
        | true => some (mkAgg ((xs.drop o).take k))
        | false => nth xs o
      | none => none
    | _, _ => none
  | .fieldAddr t x f => match tget T t with
    | some ⟨.struct fs, _, _, _⟩ => match nth fs f with
      | some (off, _, _, _) => match cev σ x with
        | some (.own t o) => some (.own t (o + off))
        | some (.oe t n o) => some (.oe t n (o + off))
        | _ => none
      | none => none
    | _ => none
  | .nilCheck x => match cev σ x with
    | some (.own t o) => some (.own t o)
    | some (.oe t n o) => some (.oe t n o)
    | some (.fn f fs cs) => some (.fn f fs cs)
    | _ => none
  | .makeInterface t x => match cev σ x, tget T t with
    | some _, some ⟨.iface, _, _, _⟩ => none
    | some y, some _ => some (.ifc t y)
    | _, _ => none
  | .typeAssert x _ t ok => match cev σ x, tget T t with
    | some (.ifc _ _), some ⟨.iface, _, _, _⟩ => none
    | some (.ifc u y), some _ => match Nat.beq u t, ok with
      | true, true => some (.tup [y, .d (.v (.bool true))])
      | true, false => some y
      | false, _ => none
    | _, _ => none
  | .makeFunc (.func f) first caps => match cevs σ first.toList, cevs σ caps.toList with
    | some fs, some cs => match refIn fs, refIn cs with
      | false, false => none
      | _, _ => some (.fn f fs cs)
    | _, _ => none
  | .build t parts => match tget T t with
    | some ⟨.struct fs, _, _, z⟩ => match fillC fs σ ((z.map .v).map .d) parts.toList with
      | some cells => some (mkAgg cells)
      | none => none
    | _ => none
  | _ => none
theorem rop_aop {ρ : Rho} {s : Sl} (hs : SS ρ σ s) {T : Tab} {op : Op} (h : rop T σ op = some x) : ∃ y, aop T s op = some y ∧ Inst ρ x y := by
  unfold rop at h
  split at h
  · exact cev_inst hs h
  · exact cev_inst hs h
  · rename_i c a b
    split at h
    · rename_i hc
      obtain ⟨y, h1, h2⟩ := cev_inst hs hc
      simp only [Inst] at h2; subst h2
      obtain ⟨z, h3, h4⟩ := cev_inst hs h
      exact ⟨z, by simp only [aop, h1, h3], h4⟩
    · rename_i hc
      obtain ⟨y, h1, h2⟩ := cev_inst hs hc
      simp only [Inst] at h2; subst h2
      obtain ⟨z, h3, h4⟩ := cev_inst hs h
      exact ⟨z, by simp only [aop, h1, h3], h4⟩
    · cases h
  · rename_i y i
    split at h
    · rename_i xs hy
      obtain ⟨z, h1, h2⟩ := cev_inst hs hy
      simp only [Inst] at h2
      obtain ⟨ys, rfl, h2⟩ := h2
      obtain ⟨u, h3, h4⟩ := h2.nth h
      exact ⟨u, by simp only [aop, h1, h3], h4⟩
    · cases h
  · rename_i t y f
    split at h
    · rename_i xs fs _ _ _ hy ht
      split at h
      · rename_i off ft k g hf
        obtain ⟨z, h1, h2⟩ := cev_inst hs hy
        simp only [Inst] at h2
        obtain ⟨ys, rfl, h2⟩ := h2
        split at h
        · simp only [Option.some.injEq] at h; subst h
          exact ⟨_, by simp only [aop, h1, ht, hf, partA], mkAgg_inst ((h2.drop off).take k)⟩
        · obtain ⟨u, h3, h4⟩ := h2.nth h
          exact ⟨u, by simp only [aop, h1, ht, hf, partA, h3], h4⟩
      · cases h
    · cases h
  · rename_i t y f
    split at h
    · rename_i fs _ _ _ ht
      split at h
      · rename_i off ft k g hf
        split at h
        · rename_i tg o hy
          simp only [Option.some.injEq] at h; subst h
          obtain ⟨z, h1, h2⟩ := cev_inst hs hy
          simp only [Inst] at h2
          obtain ⟨b, t', h2, rfl⟩ := h2
          exact ⟨.own t' b (o + off), by simp only [aop, ht, hf, h1], by simp only [Inst]; exact ⟨b, t', h2, rfl⟩⟩
        · rename_i tg n o hy
          simp only [Option.some.injEq] at h; subst h
          obtain ⟨z, h1, h2⟩ := cev_inst hs hy
          simp only [Inst] at h2
          obtain ⟨a, c, t', h2, rfl⟩ := h2
          exact ⟨.oe t' (.slice a n c) (o + off), by simp only [aop, ht, hf, h1], by simp only [Inst]; exact ⟨a, c, t', h2, rfl⟩⟩
        · cases h
      · cases h
    · cases h
  · rename_i y
    split at h
    · rename_i tg o hy
      simp only [Option.some.injEq] at h; subst h
      obtain ⟨z, h1, h2⟩ := cev_inst hs hy
      have h3 := h2
      simp only [Inst] at h3
      obtain ⟨b, t', _, rfl⟩ := h3
      exact ⟨_, by simp only [aop, h1], h2⟩
    · rename_i tg n o hy
      simp only [Option.some.injEq] at h; subst h
      obtain ⟨z, h1, h2⟩ := cev_inst hs hy
      have h3 := h2
      simp only [Inst] at h3
      obtain ⟨a, c, t', _, rfl⟩ := h3
      exact ⟨_, by simp only [aop, h1], h2⟩
    · rename_i f fs cs hy
      simp only [Option.some.injEq] at h; subst h
      obtain ⟨z, h1, h2⟩ := cev_inst hs hy
      have h3 := h2
      simp only [Inst] at h3
      obtain ⟨us, vs, rfl, _⟩ := h3
      exact ⟨_, by simp only [aop, h1], h2⟩
    · cases h
  · rename_i t y
    split at h
    · cases h
    · rename_i u i hne hy ht
      simp only [Option.some.injEq] at h; subst h
      obtain ⟨z, h1, h2⟩ := cev_inst hs hy
      refine ⟨.ifc t z, ?_, by simp only [Inst]; exact ⟨z, rfl, h2⟩⟩
      simp only [aop, h1, ht]
    · cases h
  · rename_i y xt t ok
    split at h
    · cases h
    · rename_i u y' i hne hy ht
      obtain ⟨z, h1, h2⟩ := cev_inst hs hy
      simp only [Inst] at h2
      obtain ⟨z', rfl, h2⟩ := h2
      have key : aop T s (.typeAssert y xt t ok) = (match (generalizing := false) Nat.beq u t, ok with
          | true, true => some (AV.tup [z', .v (.bool true)])
          | true, false => some z'
          | false, _ => none) := by
        simp only [aop, h1, ht]
        rfl
      rw [key]
      cases hb : Nat.beq u t with
      | false => rw [hb] at h; cases h
      | true =>
        rw [hb] at h
        cases ok with
        | true =>
          simp only [Option.some.injEq] at h; subst h
          refine ⟨_, rfl, ?_⟩
          simp only [Inst, InstL]
          exact ⟨_, rfl, _, _, rfl, h2, _, _, rfl, rfl, rfl⟩
        | false =>
          simp only [Option.some.injEq] at h; subst h
          exact ⟨_, rfl, h2⟩
    · cases h
  · rename_i f first caps
    split at h
    · rename_i fs cs h1 h2
      obtain ⟨us, h3, h4⟩ := cevs_inst hs h1
      obtain ⟨vs, h5, h6⟩ := cevs_inst hs h2
      split at h
      · cases h
      · rename_i hne
        simp only [Option.some.injEq] at h; subst h
        refine ⟨.fn f us vs, ?_, by simp only [Inst]; exact ⟨us, vs, rfl, h4, h6⟩⟩
        simp only [aop, h3, h5]
        cases hr : refIn fs with
        | true => rw [refIn_allV hr h4]
        | false => cases hr' : refIn cs with
          | true => rw [refIn_allV hr' h6]; cases allV us <;> rfl
          | false => exact (hne hr hr').elim
    · cases h
  · rename_i t parts
    split at h
    · rename_i fs _ _ z ht
      split at h
      · rename_i cells hf
        simp only [Option.some.injEq] at h; subst h
        obtain ⟨r', h1, h2⟩ := fillC_inst hs hf (instL_d _)
        exact ⟨.agg r', by simp only [aop, ht, h1], mkAgg_inst h2⟩
      · cases h
    · cases h
  · cases h
theorem DOpP.rop (h : rop E.T σ o.op = some x) : DOpP E N o σ η x := fun ρ s ηB hs _ => by
  obtain ⟨y, h1, h2⟩ := rop_aop hs h
  exact ⟨y, h2, OpP.aop h1⟩
def loadC (T : Tab) (t : TypeId) (cs : List CV) (o : Nat) : Option CV :=
  match tget T t with
  | some ⟨d, k, _, _⟩ => match d.agg with
    | true => match Nat.ble k (cs.drop o).length with
      | true => some (mkAgg ((cs.drop o).take k))
      | false => none
    | false => nth cs o
  | none => none
theorem fits_of_le : ∀ {l : List AV} {n : Nat}, n ≤ l.length → fits l n = true
  | _, 0, _ => by simp [fits]
  | [], n + 1, h => by simp at h
  | _ :: r, n + 1, h => by simp only [fits]; exact fits_of_le (by simpa using h)
theorem loadC_inst {ρ : Rho} {T : Tab} {t : TypeId} {cs : List CV} {us : List AV} {off : Nat} (h : loadC T t cs off = some x) (hc : InstL ρ cs us) : ∃ y, loadA T t us off = some y ∧ Inst ρ x y := by
  unfold loadC at h
  split at h
  · rename_i d k b z ht
    split at h
    · rename_i hd
      split at h
      · rename_i hle
        simp only [Option.some.injEq] at h; subst h
        have hle := Nat.le_of_ble_eq_true hle
        refine ⟨.agg ((us.drop off).take k), ?_, mkAgg_inst ((hc.drop off).take k)⟩
        simp only [loadA, ht, hd]
        rw [fits_of_le (by rw [(hc.drop off).length]; exact hle)]
      · cases h
    · rename_i hd
      obtain ⟨y, h1, h2⟩ := hc.nth h
      exact ⟨y, by simp only [loadA, ht, hd, h1], h2⟩
  · cases h
theorem tmp_of_ref {p : Operand} (h : cev σ p = some x) (hx : ∀ y, x ≠ .d y) : ∃ t, p = .tmp t ∧ σ.get t = some x := by
  cases p with
  | tmp t => exact ⟨t, rfl, h⟩
  | const v => simp only [cev, Option.some.injEq] at h; exact (hx _ h.symm).elim
  | global g => simp only [cev, Option.some.injEq] at h; exact (hx _ h.symm).elim
  | func f => simp only [cev, Option.some.injEq] at h; exact (hx _ h.symm).elim
theorem DOpP.load {t : TypeId} {p : Operand} {i off : Nat} {cs : List CV} (ho : o.op = .load t p) (hp : cev σ p = some (.own i off)) (hi : η.e.get i = some (.box cs)) (hl : loadC E.T t cs off = some x) : DOpP E N o σ η x := fun ρ s ηB hs hh => by
  obtain ⟨y, h1, h2⟩ := cev_inst hs hp
  simp only [Inst] at h2
  obtain ⟨b, t', h3, rfl⟩ := h2
  obtain ⟨z, h4, h5⟩ := hh.en i _ hi
  obtain ⟨b', cs', h6, rfl, h7⟩ := h5
  rw [h3] at h6; cases h6
  obtain ⟨q, h8, h9⟩ := loadC_inst hl h7
  exact ⟨q, h9, OpP.ofS (opS_load ho (by rw [ev_restr (by simp [ho, Op.operands])]; exact h1) h4 h8)⟩
def setSl (s : Sl) (t : Nat) (x : AV) : Sl := fun u => if u = t then some x else s u
theorem OpP.known {C : Cx} {s : Sl} {ηB : List Ent} {t : Nat} {x : AV} {y z : AV} (h : OpP C N o (setSl s t z) ηB x) (ht : s t = some y) (hk : ∀ F w v, HOk C.G w F ηB → Rel w (Al F ηB) y v → Rel w (Al F ηB) z v) : OpP C N o s ηB x :=
  h.strong fun F w a hh hs u hu q hq => by
    unfold setSl at hq
    split at hq
    · rename_i hut; subst hut
      simp only [Option.some.injEq] at hq; subst hq
      obtain ⟨h1, h2⟩ := hs u hu y ht
      exact ⟨h1, hk F w _ hh h2⟩
    · exact hs u hu q hq
theorem fact_ok {G : Gl} {w : World} {F : Nat → Prop} {ηB : List Ent} (hh : HOk G w F ηB) {i : Nat} {x : AV} {v : Value} (h : nth ηB i = some (.fact x v)) : Rel w (Al F ηB) x v := ents_nth hh h
theorem Rel.ipDrop {w : World} {A : Nat → Prop} {cs : List AV} {b : Nat} (off : Nat) (h : Rel w A (.ip cs) (.pointer (some ⟨b, 0, none⟩))) : Rel w A (.ip (cs.drop off)) (.pointer (some ⟨b, off, none⟩)) := by
  simp only [Rel] at h ⊢
  obtain ⟨b', o', vs, e1, e2, e3, e4⟩ := h
  cases e1
  exact ⟨b, off, vs.drop off, rfl, e2, e3.drop off, fun j u hj => by rw [List.getElem?_drop] at hj; have := e4 _ _ hj; simpa using this⟩
theorem DOpP.loadF {t : TypeId} {p : Operand} {i off : Nat} {cs : List AV} {y : AV} (ho : o.op = .load t p) (hp : cev σ p = some (.own i off)) (hi : η.e.get i = some (.fzP cs)) (hl : loadA E.T t (cs.drop off) 0 = some y) : DOpP E N o σ η (.d y) := fun ρ s ηB hs hh => by
  obtain ⟨u, rfl, hu⟩ := tmp_of_ref hp (fun _ h => by cases h)
  obtain ⟨z, h1, h2⟩ := hs u _ hu
  simp only [Inst] at h2
  obtain ⟨b, t', h3, rfl⟩ := h2
  obtain ⟨z, h4, h5⟩ := hh.en i _ hi
  obtain ⟨b', h6, rfl⟩ := h5
  rw [h3] at h6; cases h6
  refine ⟨y, rfl, OpP.known (t := u) (z := .ip (cs.drop off)) (OpP.aop ?_) h1 fun F w v hH hr => ?_⟩
  · rw [ho]
    unfold loadA at hl
    simp only [Bw.aop, ev, setSl, if_true]
    split at hl
    · rename_i d k b z ht
      simp only [ht]
      simp only [List.drop_zero] at hl
      rw [← hl]
      cases d.agg <;> rfl
    · cases hl
  · simp only [Rel] at hr
    subst hr
    exact (fact_ok hH h4).ipDrop off
theorem DOpP.len {t : TypeId} {p : Operand} {i n e k sz by' : Nat} {z : List Value} (ho : o.op = .call { callee := .builtin .len, args := #[p], argTypes := #[t] }) (hp : cev σ p = some (.os i n)) (ht : tget E.T t = some ⟨.slice e k, sz, by', z⟩) : DOpP E N o σ η (.d (.v (.int .i64 (n : Int)))) := fun ρ s ηB hs _ => by
  obtain ⟨y, h1, h2⟩ := cev_inst hs hp
  simp only [Inst] at h2
  obtain ⟨a, c, t', h3, rfl⟩ := h2
  exact ⟨_, rfl, OpP.len ho h1 (by simp [lenA, ht])⟩
theorem DOpP.lenD {t : TypeId} {p : Operand} {y : AV} {n : Int} (ho : o.op = .call { callee := .builtin .len, args := #[p], argTypes := #[t] }) (hp : cev σ p = some (.d y)) (hl : lenA E.T t y = some n) : DOpP E N o σ η (.d (.v (.int .i64 n))) := fun ρ s ηB hs _ => by
  obtain ⟨z, h1, h2⟩ := cev_inst hs hp
  simp only [Inst] at h2; subst h2
  exact ⟨_, rfl, OpP.len ho h1 hl⟩
theorem DOpP.idxRow {t : TypeId} {p ix : Operand} {i n e k sz by' : Nat} {z : List Value} {rows : List (List AV)} {kd : IntKind} {m : Int} (j : Nat) (ho : o.op = .indexAddr t p ix) (hp : cev σ p = some (.os i n)) (hi : η.e.get i = some (.row e k rows)) (hn : n = rows.length)
    (ht : tget E.T t = some ⟨.slice e k, sz, by', z⟩) (hix : cev σ ix = some (.d (.v (.int kd m)))) (hm : m = (j : Int)) (hj : j < rows.length) : DOpP E N o σ η (.oe i n (j * k)) := fun ρ s ηB hs hh => by
  obtain ⟨y, h1, h2⟩ := cev_inst hs hp
  simp only [Inst] at h2
  obtain ⟨a, c, t', h3, rfl⟩ := h2
  obtain ⟨y', h4, h5⟩ := cev_inst hs hix
  simp only [Inst] at h5; subst h5
  obtain ⟨q, h6, h7⟩ := hh.en i _ hi
  obtain ⟨⟨a', c', h8, rfl⟩, _⟩ := h7
  subst hn
  rw [h3] at h8; cases h8
  refine ⟨.oe i (.slice a rows.length c) (j * k), by simp only [Inst]; exact ⟨a, c, i, h3, rfl⟩, ?_⟩
  exact OpP.ofS (opS_idxRow ho j ht (by rw [ev_restr (by simp [ho, Op.operands])]; exact h1) h6 (by rw [ev_restr (by simp [ho, Op.operands])]; exact h4) hm hj)
theorem DOpP.loadRow {t : TypeId} {p : Operand} {i n m e k : Nat} {rows : List (List AV)} {r : List AV} {y : AV} (j off : Nat) (ho : o.op = .load t p) (hp : cev σ p = some (.oe i n m)) (hi : η.e.get i = some (.row e k rows)) (hn : n = rows.length) (hm : m = j * k + off) (hr : rows[j]? = some r)
    (hl : loadA E.T t r off = some y) : DOpP E N o σ η (.d y) := fun ρ s ηB hs hh => by
  obtain ⟨z, h1, h2⟩ := cev_inst hs hp
  simp only [Inst] at h2
  obtain ⟨a, c, t', h3, rfl⟩ := h2
  obtain ⟨q, h6, h7⟩ := hh.en i _ hi
  obtain ⟨⟨a', c', h8, rfl⟩, _⟩ := h7
  subst hn
  rw [h3] at h8; cases h8
  exact ⟨y, rfl, OpP.ofS (opS_loadRow ho j off (by rw [ev_restr (by simp [ho, Op.operands])]; exact h1) hm h6 hr hl)⟩
theorem DOpP.idxF {t : TypeId} {p ix : Operand} {i n e k sz by' : Nat} {z : List Value} {rows : List (List AV)} {r : List AV} {kd : IntKind} {m : Int} (j : Nat) (ho : o.op = .indexAddr t p ix) (hp : cev σ p = some (.os i n)) (hi : η.e.get i = some (.fzS k rows)) (hn : n = rows.length)
    (ht : tget E.T t = some ⟨.slice e k, sz, by', z⟩) (hix : cev σ ix = some (.d (.v (.int kd m)))) (hm : m = (j : Int)) (hr : rows[j]? = some r) : DOpP E N o σ η (.d (.ip r)) := fun ρ s ηB hs hh => by
  obtain ⟨u, rfl, hu⟩ := tmp_of_ref hp (fun _ h => by cases h)
  obtain ⟨y, h1, h2⟩ := hs u _ hu
  simp only [Inst] at h2
  obtain ⟨a, c, t', h3, rfl⟩ := h2
  obtain ⟨q, h6, h7⟩ := hh.en i _ hi
  obtain ⟨a', c', h8, rfl⟩ := h7
  subst hn
  rw [h3] at h8; cases h8
  obtain ⟨y', h4, h5⟩ := cev_inst hs hix
  simp only [Inst] at h5; subst h5
  subst hm
  refine ⟨.ip r, rfl, OpP.known (t := u) (z := .sl k rows) ?_ h1 fun F w v hH hrl => ?_⟩
  · refine OpP.kop (E := E) ?_
    have hev : ev (setSl s u (.sl k rows)) ix = some (.v (.int kd (j : Int))) := by
      cases ix with
      | tmp q =>
        simp only [ev, setSl] at h4 ⊢
        split
        · rename_i hq; subst hq; rw [h1] at h4; cases h4
        · exact h4
      | const v => exact h4
      | global g => exact h4
      | func f => exact h4
    have hnat : natV (some (.v (.int kd (j : Int)))) = some j := rfl
    rw [ho]
    simp only [Bw.kop, hev, hnat, ht, Nat.beq_refl, nth_eq]
    simp [ev, setSl, hr]
  · simp only [Rel] at hrl
    subst hrl
    exact fact_ok hH h6
theorem DOpP.idx {t : TypeId} {p ix : Operand} {e k sz by' : Nat} {z : List Value} {rows : List (List AV)} {r : List AV} {kd : IntKind} {m : Int} (j : Nat) (ho : o.op = .indexAddr t p ix) (hp : cev σ p = some (.d (.sl k rows)))
    (ht : tget E.T t = some ⟨.slice e k, sz, by', z⟩) (hix : cev σ ix = some (.d (.v (.int kd m)))) (hm : m = (j : Int)) (hr : rows[j]? = some r) : DOpP E N o σ η (.d (.ip r)) := fun ρ s ηB hs hh => by
  obtain ⟨y, h1, h2⟩ := cev_inst hs hp
  simp only [Inst] at h2; subst h2
  obtain ⟨y', h4, h5⟩ := cev_inst hs hix
  simp only [Inst] at h5; subst h5
  subst hm
  refine ⟨.ip r, rfl, OpP.kop (E := E) ?_⟩
  have hnat : natV (some (.v (.int kd (j : Int)))) = some j := rfl
  rw [ho]
  simp only [Bw.kop, h1, h4, hnat, ht, Nat.beq_refl, nth_eq, hr]
end
end Go.Bw
