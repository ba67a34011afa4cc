/-
  Own work. The abstract machine, twelfth part: values in other words; loops over what changes; lengths that are bounded.
-/
import Derived.Test.YtcngmkedekmkhaaGreatD11
namespace Go.Bw
open Go

/-! ### Values in other words -/

theorem Imp.of {x y : AV} (h : x = y) : Imp x y := h ▸ Imp.refl x
theorem ImpL.of {x y : List AV} (h : x = y) : ImpL x y := h ▸ ImpL.refl x
theorem ImpR.of {x y : List (List AV)} (h : x = y) : ImpR x y := h ▸ ImpR.refl x
theorem ImpL.append : ∀ {xs ys xs' ys' : List AV}, ImpL xs ys → ImpL xs' ys' → ImpL (xs ++ xs') (ys ++ ys')
  | _, _, _, _, .nil, h => h
  | _, _, _, _, .cons h t, g => .cons h (ImpL.append t g)

/-- A contract, its arguments in other words. -/
theorem Pure.args {C : Cx} {g : FuncId} {xs ys : List AV} {res : AR} (hi : ImpL xs ys) (h : Pure C g ys res) : Pure C g xs res :=
  ⟨h.1, fun F w vs h1 h2 => h.2 F w vs h1 (hi.rel h2)⟩

/-- A contract, its result in other words. -/
theorem Pure.impRet {C : Cx} {g : FuncId} {xs : List AV} {y z : AV} (hi : Imp y z) (h : Pure C g xs (.ret y)) : Pure C g xs (.ret z) :=
  ⟨h.1, fun F w vs h1 h2 => (h.2 F w vs h1 h2).mono fun e w' ⟨r, η', ⟨hr, hη⟩, hv, hh, hx⟩ => by
    subst hr
    obtain ⟨v, e1, e2⟩ := hv
    exact ⟨.ret z, η', ⟨rfl, hη⟩, ⟨v, e1, hi _ _ _ e2⟩, hh, hx⟩⟩

section
variable {E : Env} {Q : DQ} {N K : Nat} {σ : TS} {η : Hp} {o : Oper} {all rest : List Oper} {k : List It} {x : CV} {c : Code}

theorem RD.retI {rs : List ResultVar} {x y : AV} (h : resD E.T σ η rs = some [.d x]) (hf : frzL η.e 60 [.d x] = some ([x], [], [])) (e : Imp x y) : RD E.T rs (Ends 60 (.ret y)) .ret σ η := ⟨_, h, x, [], [], hf, trivial, y, rfl, e⟩

/-- A result that leads into own memory. -/
theorem RD.retO {rs : List ResultVar} {xs : List CV} {z y : AV} {ns : List (Nat × Nat)} {ms : List (Nat × CEnt)} (h : resD E.T σ η rs = some xs) (hf : frzL η.e 60 [packC xs] = some ([z], ns, ms)) (hn : eqs ns) (e : Imp z y) : RD E.T rs (Ends 60 (.ret y)) .ret σ η := ⟨xs, h, z, ns, ms, hf, hn, y, rfl, e⟩
theorem RD.normO {rs : List ResultVar} {xs : List CV} {z y : AV} {ns : List (Nat × Nat)} {ms : List (Nat × CEnt)} (h : resD E.T σ η rs = some xs) (hf : frzL η.e 60 [packC xs] = some ([z], ns, ms)) (hn : eqs ns) (e : Imp z y) : RD E.T rs (Ends 60 (.ret y)) .norm σ η := ⟨xs, h, z, ns, ms, hf, hn, y, rfl, e⟩
theorem RD.panO {rs : List ResultVar} {x : CV} {z y : AV} {ns : List (Nat × Nat)} {ms : List (Nat × CEnt)} (hf : frzL η.e 60 [x] = some ([z], ns, ms)) (hn : eqs ns) (e : Imp z y) : RD E.T rs (Ends 60 (.pan y)) (.pan x) σ η := ⟨z, ns, ms, hf, hn, y, rfl, e⟩

/-- A value, in a region whatever its order. -/
theorem DWP.valI {dst : Option Nat} {f : Operand} {args : List Operand} {g : FuncId} {cs : List CV} {xs ys : List AV} {res : AV} {tys : Array TypeId} {ty : TypeId} {pos : String} {after : Array Edge} (h : Pure E.toCx g ys (.ret res)) (hc : calleeC σ f args = some (g, cs)) (hx : allD cs = some xs) (hd : dstB N dst = true) (hi : ImpL xs ys)
    (hk : DWP E N K (.ops all rest :: k) Q (putT σ dst (.d res)) η) : DWP E N K (.ops all (⟨dst, .call { callee := .value f, args := args.toArray, argTypes := tys }, ty, pos, after, none⟩ :: rest) :: k) Q σ η :=
  DWP.pure (h.args hi) hc hx hd hk

theorem DOpP.callI {dst : Option Nat} {f : Operand} {args : List Operand} {g : FuncId} {cs : List CV} {xs ys : List AV} {res : AV} {tys : Array TypeId} {ty : TypeId} {pos : String} {after : Array Edge} {gd : Option (Nat × Bool)} (h : Pure E.toCx g ys (.ret res)) (hc : calleeC σ f args = some (g, cs)) (hx : allD cs = some xs) (hi : ImpL xs ys) :
    DOpP E N ⟨dst, .call { callee := .value f, args := args.toArray, argTypes := tys }, ty, pos, after, gd⟩ σ η (.d res) := DOpP.call (h.args hi) hc hx

/-! ### State in other words -/

theorem Weak.slot {G : Gl} {σ : Sg} {η : List Ent} {N : Nat} (t : Nat) {x y : AV} (ht : look σ t = some x) (hi : Imp x y) : Weak G N σ η ((t, y) :: σ) η := fun F w a hs => by
  obtain ⟨hlt, hv⟩ := hs.sg.2 t _ ht
  refine ⟨⟨⟨hs.sg.1, fun s z hz => ?_⟩, hs.hp, hs.df⟩, fun _ h => h⟩
  simp only [look] at hz
  cases hb : Nat.beq t s with
  | true => rw [hb] at hz; simp only [Option.some.injEq] at hz; subst hz; rw [← Nat.eq_of_beq_eq_true hb]; exact ⟨hlt, hi _ _ _ hv⟩
  | false => rw [hb] at hz; exact hs.sg.2 s z hz

/-- One entry in other words. -/
theorem Weak.ent {G : Gl} {σ : Sg} {η : List Ent} {N : Nat} (i : Nat) {x y : Ent} (hi : nth η i = some x) (hids : y.ids = x.ids) (hok : ∀ w A, x.ok w A → y.ok w A) : Weak G N σ η σ (η.set i y) := fun F w a hs => by
  have hsplit : η = η.take i ++ x :: η.drop (i + 1) := by
    rw [nth_eq] at hi
    obtain ⟨hlt, hx⟩ := List.getElem?_eq_some_iff.1 hi
    rw [← hx, List.getElem_cons_drop hlt, List.take_append_drop]
  have hset : η.set i y = η.take i ++ y :: η.drop (i + 1) := by
    rw [nth_eq] at hi
    obtain ⟨hlt, hx⟩ := List.getElem?_eq_some_iff.1 hi
    rw [List.set_eq_take_append_cons_drop, if_pos hlt]
  have hI : ids (η.set i y) = ids η := by
    rw [hset]
    conv => rhs; rw [hsplit]
    simp only [ids_append, ids_cons, hids]
  have hA : Al F (η.set i y) = Al F η := by funext b; simp only [Al, hI]
  refine ⟨⟨by rw [hA]; exact hs.sg, ⟨fun z hz => ?_, by rw [hI]; exact hs.hp.nodup, by rw [hI]; exact hs.hp.free, hs.hp.bound, by rw [hA]; exact hs.hp.glob⟩, hs.df⟩, by rw [hI]; exact fun _ h => h⟩
  rw [hA]
  rw [hset] at hz
  have hmem : ∀ z, z ∈ η ↔ z ∈ η.take i ++ x :: η.drop (i + 1) := fun z => by rw [← hsplit]
  simp only [List.mem_append, List.mem_cons] at hz hmem
  rcases hz with hz | rfl | hz
  · exact hs.hp.ents z ((hmem z).2 (.inl hz))
  · exact hok _ _ (hs.hp.ents x ((hmem x).2 (.inr (.inl rfl))))
  · exact hs.hp.ents z ((hmem z).2 (.inr (.inr hz)))

theorem DC.convS (t : Nat) {x y : AV} (ht : σ.get t = some (.d x)) (hi : Imp x y) (h : DC E N K c Q (Tr.put 24 σ t (some (.d y))) η) : DC E N K c Q σ η := fun ρ σB ηB hs hh => by
  obtain ⟨z, h1, h2⟩ := hs t _ ht
  simp only [Inst] at h2; subst h2
  exact AWP.weak (Weak.slot t h1 hi) (h ρ _ ηB (hs.put (some t) (x := .d y) (y := y) rfl) hh)
theorem DO.convS (t : Nat) {x y : AV} (ht : σ.get t = some (.d x)) (hi : Imp x y) (h : DO E N K all rest Q (Tr.put 24 σ t (some (.d y))) η) : DO E N K all rest Q σ η := fun ρ σB ηB hs hh => by
  obtain ⟨z, h1, h2⟩ := hs t _ ht
  simp only [Inst] at h2; subst h2
  exact AOps.weak (Weak.slot t h1 hi) (h ρ _ ηB (hs.put (some t) (x := .d y) (y := y) rfl) hh)
theorem DWP.convS (t : Nat) {x y : AV} (ht : σ.get t = some (.d x)) (hi : Imp x y) (h : DWP E N K (.code c :: k) Q (Tr.put 24 σ t (some (.d y))) η) : DWP E N K (.code c :: k) Q σ η := by
  unfold DWP at h ⊢; simp only [dq] at h ⊢; exact DC.convS t ht hi h
theorem DWP.convSo (t : Nat) {x y : AV} (ht : σ.get t = some (.d x)) (hi : Imp x y) (h : DWP E N K (.ops all rest :: k) Q (Tr.put 24 σ t (some (.d y))) η) : DWP E N K (.ops all rest :: k) Q σ η := by
  unfold DWP at h ⊢; simp only [dq] at h ⊢; exact DO.convS t ht hi h

/-- A nil slice owns an empty row. -/
theorem DC.nilRow (t e kk : Nat) (ht : σ.get t = some (.d (.v (.slice none 0 0)))) (h : DC E N K c Q (Tr.put 24 σ t (some (.os η.n 0))) (η.push (.row e kk []))) : DC E N K c Q σ η := fun ρ σB ηB hs hh => by
  obtain ⟨y, h1, h2⟩ := hs t _ ht
  simp only [Inst] at h2; subst h2
  refine AWP.nilRow t e kk h1 ?_
  have hdom := hh.dom η.n (Nat.le_refl _)
  have hl : ρ.le (ρ.setS η.n 0 (none, 0)) := Rho.le_setS fun y hy => by rw [hdom.2] at hy; cases hy
  have hbn : (ρ.setS η.n 0 (none, 0)).s η.n 0 = some (none, 0) := by simp [Rho.setS]
  refine AWP.mono (h _ _ _ ((hs.mono hl).put (some t) (by simp only [Inst]; exact ⟨_, _, ηB.length, hbn, rfl⟩)) ?_) fun _ _ _ hq => lift_mono (hl.toK K) (fun _ _ _ h => h) hq
  refine hh.push hl (fun i hi => by funext m; simp [Rho.setS, hi]) (fun _ _ => rfl) ⟨⟨none, 0, by simpa using hbn, by simp⟩, fun m hm => ?_⟩
  have : m ≠ 0 := by simp at hm; omega
  simp only [Rho.setS, this, and_false, if_false]
  exact hdom.2 m
theorem DWP.nilRow (t e kk : Nat) (ht : σ.get t = some (.d (.v (.slice none 0 0)))) (h : DWP E N K (.code c :: k) Q (Tr.put 24 σ t (some (.os η.n 0))) (η.push (.row e kk []))) : DWP E N K (.code c :: k) Q σ η := by
  unfold DWP at h ⊢; simp only [dq] at h ⊢; exact DC.nilRow t e kk ht h

/-! ### Lengths -/

theorem AWP.bound {C : Cx} {c : Code} {Q : AQ} {σ : Sg} {η : List Ent} {N : Nat} (t : Nat) {k : Nat} {rows : List (List AV)} (ht : look σ t = some (.sl k rows)) (h : rows.length ≤ 9223372036854775807 → AWP C N c Q σ η) : AWP C N c Q σ η := fun F w0 η0 a w hs hx => by
  obtain ⟨_, hv⟩ := hs.sg.2 t _ ht
  refine h ?_ F w0 η0 a w hs hx
  simp only [Rel] at hv
  rcases hv with ⟨rfl, _⟩ | ⟨b, o, cap, vs, e, h1, h2, h3, _⟩
  · simp
  · unfold maxLen at h3; omega

theorem DC.bound (t : Nat) {kk : Nat} {rows : List (List AV)} (ht : σ.get t = some (.d (.sl kk rows))) (h : rows.length ≤ 9223372036854775807 → DC E N K c Q σ η) : DC E N K c Q σ η := fun ρ σB ηB hs hh => by
  obtain ⟨z, h1, h2⟩ := hs t _ ht
  simp only [Inst] at h2; subst h2
  exact AWP.bound t h1 fun hl => h hl ρ σB ηB hs hh
theorem DWP.bound (t : Nat) {kk : Nat} {rows : List (List AV)} (ht : σ.get t = some (.d (.sl kk rows))) (h : rows.length ≤ 9223372036854775807 → DWP E N K (.code c :: k) Q σ η) : DWP E N K (.code c :: k) Q σ η := by
  unfold DWP at h ⊢; simp only [dq] at h ⊢; exact DC.bound t ht h

/-! ### Loops: what stays, what changes -/

/-- Entries in their places. -/
def setE : List CEnt → List (Nat × CEnt) → List CEnt
  | es, [] => es
  | es, (i, x) :: r => setE (setN es i x) r
where setN : List CEnt → Nat → CEnt → List CEnt
  | [], _, _ => []
  | _ :: l, 0, x => x :: l
  | y :: l, i + 1, x => y :: setN l i x

theorem pickT_append {m : Nat} {σ : TS} : ∀ {ts us : List Nat} {l r : List (Nat × CV)}, pickT m ts σ = some l → pickT m us σ = some r → pickT m (ts ++ us) σ = some (l ++ r)
  | [], _, _, _, h, g => by simp only [pickT, Option.some.injEq] at h; subst h; exact g
  | t :: ts, us, l, r, h, g => by
    simp only [pickT] at h
    split at h
    · rename_i x l' h1 h2
      split at h
      · rename_i h0
        simp only [Option.some.injEq] at h; subst h
        simp only [List.cons_append, pickT, h1, pickT_append h2 g, h0]
      · cases h
    · cases h

/-- What the next round is handed. -/
def NextA {S : Type} (m : Nat) (ts ks : List Nat) (l0 : List (Nat × CV)) (es0 : List CEnt) (vs : S → List (Nat × CV)) (hs : S → List (Nat × CEnt)) (J : Nat → S → Prop) (n : Nat) (σ1 : TS) (η1 : Hp) : Prop :=
  ∃ n', n' < n ∧ ∃ l' es', m ≤ η1.n ∧ pickT m (ts ++ ks) σ1 = some l' ∧ takeH m η1 = some es' ∧ ∃ s : S, l' = l0 ++ vs s ∧ es' = setE es0 (hs s) ∧ J n' s

theorem takeH_len {m : Nat} {l : List CEnt} (h : takeH m η = some l) : l.length = m := (takeHI_get h).1
theorem setN_len : ∀ (l : List CEnt) (i : Nat) (x : CEnt), (setE.setN l i x).length = l.length
  | [], _, _ => rfl
  | _ :: l, 0, _ => rfl
  | y :: l, i + 1, x => by simp [setE.setN, setN_len l i x]
theorem setE_len : ∀ (r : List (Nat × CEnt)) (l : List CEnt), (setE l r).length = l.length
  | [], _ => rfl
  | (i, x) :: r, l => by rw [setE, setE_len r, setN_len]

theorem DWP.loopA {S : Type} (m : Nat) (ts ks : List Nat) (vs : S → List (Nat × CV)) (hs : S → List (Nat × CEnt)) (J : Nat → S → Prop) (n : Nat) (s0 : S) {l0 : List (Nat × CV)} {es : List CEnt} (hm : η.n = m) (hK : Nat.ble K m = true) (hp0 : pickT m ts σ = some l0) (hp : pickT m ks σ = some (vs s0)) (he : takeH m η = some es) (hes : es = setE es (hs s0)) (h0 : J n s0)
    (round : ∀ n s, J n s → DWP E N K (.code c :: .lp (NextA m ts ks l0 es vs hs J n) :: k) Q (ofT (l0 ++ vs s)) ⟨ofE 0 (setE es (hs s)), m⟩) : DWP E N K (.code (.loop c) :: k) Q σ η := by
  subst hm
  exact DWP.loop (ts ++ ks) η.n (fun q l' es' => ∃ s : S, l' = l0 ++ vs s ∧ es' = setE es (hs s) ∧ J q s) n (Nat.le_of_ble_eq_true hK) (Nat.le_refl _) (pickT_append hp0 hp) he ⟨s0, rfl, hes, h0⟩ (by
    rintro q l' es' ⟨s, rfl, rfl, hj⟩
    have := round q s hj
    have hl : (setE es (hs s)).length = η.n := by rw [setE_len, takeH_len he]
    unfold ofH
    rw [hl]
    exact this)

theorem DWP.nextA {S : Type} {m : Nat} {ts ks : List Nat} {l0 : List (Nat × CV)} {es0 : List CEnt} {vs : S → List (Nat × CV)} {hs : S → List (Nat × CEnt)} {J : Nat → S → Prop} {n : Nat} (s' : S) (n' : Nat) (hm : Nat.ble m η.n = true) (hp0 : pickT m ts σ = some l0) (hp : pickT m ks σ = some (vs s')) (he : takeH m η = some (setE es0 (hs s'))) (hn : n' < n) (hj : J n' s') :
    DWP E N K (.lp (NextA m ts ks l0 es0 vs hs J n) :: k) Q σ η :=
  DWP.lp ⟨n', hn, _, _, Nat.le_of_ble_eq_true hm, pickT_append hp0 hp, he, s', rfl, rfl, hj⟩
end

theorem wrap_succ {i n : Nat} (h : i < n) (hn : n ≤ 9223372036854775807) : IntKind.i64.wrap ((i : Int) + 1) = ((i + 1 : Nat) : Int) := by
  rw [IntKind.wrap_i64]; omega
end Go.Bw
