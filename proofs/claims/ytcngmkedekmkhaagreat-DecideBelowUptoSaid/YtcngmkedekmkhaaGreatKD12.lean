/-
  Own work. The abstract machine, twelfth part: values in other words; loops over what changes; lengths that are bounded. Own work. The abstract machine, thirteenth part: the driver of walks with open values that stands still where an order is open. Own work. The abstract machine, fourteenth part: tails of open regions in walks with open values. Own work. The abstract machine, fifteenth part: parts of slices and of text, structs compared, in walks with open values.
-/
import Derived.Test.YtcngmkedekmkhaaGreatKD8
section
noncomputable section
namespace Go.Bw
open Go
theorem Imp.of {x y : AV} (h : x = y) : Imp x y := h ▸ Imp.refl x
theorem ImpL.of {x y : List AV} (h : x = y) : ImpL x y := h ▸ ImpL.refl x
theorem ImpR.of {x y : List (List AV)} (h : x = y) : ImpR x y := h ▸ ImpR.refl x
theorem ImpL.append : ∀ {xs ys xs' ys' : List AV}, ImpL xs ys → ImpL xs' ys' → ImpL (xs ++ xs') (ys ++ ys')
  | _, _, _, _, .nil, h => h
  | _, _, _, _, .cons h t, g => .cons h (ImpL.append t g)
theorem Pure.args {C : Cx} {g : FuncId} {xs ys : List AV} {res : AR} (hi : ImpL xs ys) (h : Pure C g ys res) : Pure C g xs res :=
  ⟨h.1, fun F w vs h1 h2 => h.2 F w vs h1 (hi.rel h2)⟩
section
variable {E : Env} {Q : DQ} {N K : Nat} {σ : TS} {η : Hp} {o : Oper} {all rest : List Oper} {k : List It} {x : CV} {c : Code}
theorem RD.retO {rs : List ResultVar} {xs : List CV} {z y : AV} {ns : List (Nat × Nat)} {ms : List (Nat × CEnt)} (h : resD E.T σ η rs = some xs) (hf : frzL η.e 60 [packC xs] = some ([z], ns, ms)) (hn : eqs ns) (e : Imp z y) : RD E.T rs (Ends 60 (.ret y)) .ret σ η := ⟨xs, h, z, ns, ms, hf, hn, y, rfl, e⟩
theorem DC.nilRow (t e kk : Nat) (ht : σ.get t = some (.d (.v (.slice none 0 0)))) (h : DC E N K c Q (Tr.put 24 σ t (some (.os η.n 0))) (η.push (.row e kk []))) : DC E N K c Q σ η := fun ρ σB ηB hs hh => by
  obtain ⟨y, h1, h2⟩ := hs t _ ht
  simp only [Inst] at h2; subst h2
  refine AWP.nilRow t e kk h1 ?_
  have hdom := hh.dom η.n (Nat.le_refl _)
  have hl : ρ.le (ρ.setS η.n 0 (none, 0)) := Rho.le_setS fun y hy => by rw [hdom.2] at hy; cases hy
  have hbn : (ρ.setS η.n 0 (none, 0)).s η.n 0 = some (none, 0) := by simp [Rho.setS]
  refine AWP.mono (h _ _ _ ((hs.mono hl).put (some t) (by simp only [Inst]; exact ⟨_, _, ηB.length, hbn, rfl⟩)) ?_) fun _ _ _ hq => lift_mono (hl.toK K) (fun _ _ _ h => h) hq
  refine hh.push hl (fun i hi => by funext m; simp [Rho.setS, hi]) (fun _ _ => rfl) ⟨⟨none, 0, by simpa using hbn, by simp⟩, fun m hm => ?_⟩
  have : m ≠ 0 := by simp at hm; omega
  simp only [Rho.setS, this, and_false, if_false]
  exact hdom.2 m
theorem DWP.nilRow (t e kk : Nat) (ht : σ.get t = some (.d (.v (.slice none 0 0)))) (h : DWP E N K (.code c :: k) Q (Tr.put 24 σ t (some (.os η.n 0))) (η.push (.row e kk []))) : DWP E N K (.code c :: k) Q σ η := by
  unfold DWP at h ⊢; simp only [dq] at h ⊢; exact DC.nilRow t e kk ht h
theorem AWP.bound {C : Cx} {c : Code} {Q : AQ} {σ : Sg} {η : List Ent} {N : Nat} (t : Nat) {k : Nat} {rows : List (List AV)} (ht : look σ t = some (.sl k rows)) (h : rows.length ≤ 9223372036854775807 → AWP C N c Q σ η) : AWP C N c Q σ η := fun F w0 η0 a w hs hx => by
  obtain ⟨_, hv⟩ := hs.sg.2 t _ ht
  refine h ?_ F w0 η0 a w hs hx
  simp only [Rel] at hv
  rcases hv with ⟨rfl, _⟩ | ⟨b, o, cap, vs, e, h1, h2, h3, _⟩
  · simp
  · unfold maxLen at h3; omega
theorem DC.bound (t : Nat) {kk : Nat} {rows : List (List AV)} (ht : σ.get t = some (.d (.sl kk rows))) (h : rows.length ≤ 9223372036854775807 → DC E N K c Q σ η) : DC E N K c Q σ η := fun ρ σB ηB hs hh => by
  obtain ⟨z, h1, h2⟩ := hs t _ ht
  simp only [Inst] at h2; subst h2
  exact AWP.bound t h1 fun hl => h hl ρ σB ηB hs hh
theorem DWP.bound (t : Nat) {kk : Nat} {rows : List (List AV)} (ht : σ.get t = some (.d (.sl kk rows))) (h : rows.length ≤ 9223372036854775807 → DWP E N K (.code c :: k) Q σ η) : DWP E N K (.code c :: k) Q σ η := by
  unfold DWP at h ⊢; simp only [dq] at h ⊢; exact DC.bound t ht h
def setE : List CEnt → List (Nat × CEnt) → List CEnt
  | es, [] => es
  | es, (i, x) :: r => setE (setN es i x) r
where setN : List CEnt → Nat → CEnt → List CEnt
  | [], _, _ => []
  | _ :: l, 0, x => x :: l
  | y :: l, i + 1, x => y :: setN l i x
theorem pickT_append {m : Nat} {σ : TS} : ∀ {ts us : List Nat} {l r : List (Nat × CV)}, pickT m ts σ = some l → pickT m us σ = some r → pickT m (ts ++ us) σ = some (l ++ r)
  | [], _, _, _, h, g => by simp only [pickT, Option.some.injEq] at h; subst h; exact g
  | t :: ts, us, l, r, h, g => by
    simp only [pickT] at h
    split at h
    · rename_i x l' h1 h2
      split at h
      · rename_i h0
        simp only [Option.some.injEq] at h; subst h
        simp only [List.cons_append, pickT, h1, pickT_append h2 g, h0]
      · cases h
    · cases h
def NextA {S : Type} (m : Nat) (ts ks : List Nat) (l0 : List (Nat × CV)) (es0 : List CEnt) (vs : S → List (Nat × CV)) (hs : S → List (Nat × CEnt)) (J : Nat → S → Prop) (n : Nat) (σ1 : TS) (η1 : Hp) : Prop :=
  ∃ n', n' < n ∧ ∃ l' es', m ≤ η1.n ∧ pickT m (ts ++ ks) σ1 = some l' ∧ takeH m η1 = some es' ∧ ∃ s : S, l' = l0 ++ vs s ∧ es' = setE es0 (hs s) ∧ J n' s
theorem takeH_len {m : Nat} {l : List CEnt} (h : takeH m η = some l) : l.length = m := (takeHI_get h).1
theorem setN_len : ∀ (l : List CEnt) (i : Nat) (x : CEnt), (setE.setN l i x).length = l.length
  | [], _, _ => rfl
  | _ :: l, 0, _ => rfl
  | y :: l, i + 1, x => by simp [setE.setN, setN_len l i x]
theorem setE_len : ∀ (r : List (Nat × CEnt)) (l : List CEnt), (setE l r).length = l.length
  | [], _ => rfl
  | (i, x) :: r, l => by rw [setE, setE_len r, setN_len]
theorem DWP.loopA {S : Type} (m : Nat) (ts ks : List Nat) (vs : S → List (Nat × CV)) (hs : S → List (Nat × CEnt)) (J : Nat → S → Prop) (n : Nat) (s0 : S) {l0 : List (Nat × CV)} {es : List CEnt} (hm : η.n = m) (hK : Nat.ble K m = true) (hp0 : pickT m ts σ = some l0) (hp : pickT m ks σ = some (vs s0)) (he : takeH m η = some es) (hes : es = setE es (hs s0)) (h0 : J n s0)
    (round : ∀ n s, J n s → DWP E N K (.code c :: .lp (NextA m ts ks l0 es vs hs J n) :: k) Q (ofT (l0 ++ vs s)) ⟨ofE 0 (setE es (hs s)), m⟩) : DWP E N K (.code (.loop c) :: k) Q σ η := by
  subst hm
  exact DWP.loop (ts ++ ks) η.n (fun q l' es' => ∃ s : S, l' = l0 ++ vs s ∧ es' = setE es (hs s) ∧ J q s) n (Nat.le_of_ble_eq_true hK) (Nat.le_refl _) (pickT_append hp0 hp) he ⟨s0, rfl, hes, h0⟩ (by
    rintro q l' es' ⟨s, rfl, rfl, hj⟩
    have := round q s hj
    have hl : (setE es (hs s)).length = η.n := by rw [setE_len, takeH_len he]
    unfold ofH
    rw [hl]
    exact this)
theorem DWP.nextA {S : Type} {m : Nat} {ts ks : List Nat} {l0 : List (Nat × CV)} {es0 : List CEnt} {vs : S → List (Nat × CV)} {hs : S → List (Nat × CEnt)} {J : Nat → S → Prop} {n : Nat} (s' : S) (n' : Nat) (hm : Nat.ble m η.n = true) (hp0 : pickT m ts σ = some l0) (hp : pickT m ks σ = some (vs s')) (he : takeH m η = some (setE es0 (hs s'))) (hn : n' < n) (hj : J n' s') :
    DWP E N K (.lp (NextA m ts ks l0 es0 vs hs J n) :: k) Q σ η :=
  DWP.lp ⟨n', hn, _, _, Nat.le_of_ble_eq_true hm, pickT_append hp0 hp, he, s', rfl, rfl, hj⟩
end
end Go.Bw
end

section
noncomputable section
namespace Go.Bw
open Go
theorem eqs_nil : eqs [] := trivial
theorem eqs_cons {a b : Nat} {r : List (Nat × Nat)} (h : a = b) (k : eqs r) : eqs ((a, b) :: r) := ⟨h, k⟩
def appB (σ : TS) : Op → Bool
  | .call { callee := .builtin .append, args := as, argTypes := _ } => match as.toList with
    | .tmp t :: _ => match σ.get t with
      | some (.os _ _) => true
      | _ => false
    | _ => false
  | _ => false
def opn (σ : TS) : List It → Bool
  | .code (.region _ _ true) :: _ => true
  | .ops _ (o :: _) :: _ => appB σ o.op
  | .tl _ ((_, o, .one) :: _) _ _ _ :: _ => appB σ o.op
  | _ => false
def ds (P : Program) (G : Gl) (T : Tab) : Nat → Nat → Nat → List It → TS → Hp → List (Nat × Nat) → Out
  | 0, N, K, todo, σ, η, ns => .stuck N K todo σ η ns
  | f + 1, N, K, todo, σ, η, ns => match opn σ todo with
    | true => .stuck N K todo σ η ns
    | false => match step P G T cfgS (fun _ _ => none) f N K todo σ η ns with
      | .go N' K' todo' σ' η' ns' => ds P G T f N' K' todo' σ' η' ns'
      | .out o => o
section
variable {E : Env}
variable {Q : DQ} {N K N' K' : Nat} {todo todo' t1 t2 : List It} {σ σ' s1 s2 : TS} {η η' : Hp} {ns : List (Nat × Nat)}
theorem Ok.stuck (hn : eqs ns) (k : DWP E N' K' todo' Q σ' η') : Out.ok E Q (.stuck N' K' todo' σ' η' ns) := ⟨hn, k⟩
theorem Ok.cond {b : Bool} (hn : eqs ns) (k1 : b = true → DWP E N' K' t1 Q s1 η') (k2 : b = false → DWP E N' K' t2 Q s2 η') : Out.ok E Q (.cond b N' K' t1 s1 t2 s2 η' ns) := ⟨hn, k1, k2⟩
theorem Ok.fin {e : DE} (hn : eqs ns) (k : Q e σ' η') : Out.ok E Q (.fin e σ' η' ns) := ⟨hn, k⟩
theorem Ok.val {o : Oper} {all rest : List Oper} {k : List It} {x : CV} (hn : eqs ns) (hg : o.guard = none) (hd : dstB N' o.dst = true) (h : DOpP E N' o σ' η' x) (hk : DWP E N' K' (.ops all rest :: k) Q (putT σ' o.dst x) η') : Out.ok E Q (.stuck N' K' (.ops all (o :: rest) :: k) σ' η' ns) :=
  ⟨hn, DWP.val hg hd h hk⟩
theorem Ok.lexVal {o : Oper} {all pre : List Oper} {tl : List (Nat × Oper × TK)} {A : Als} {ν : List (Nat × List CV)} {k : List It} {x : CV} (hn : eqs ns) (hd : dstB N' o.dst = true) (hw : wantedD all o σ' = some true) (hf : freshD o ν = true) (h : DOpP E N' o σ' η' x) (hk : DWP E N' K' (.lex all tl A pre ν :: k) Q (putT σ' o.dst x) η') :
    Out.ok E Q (.stuck N' K' (.lex all tl A (o :: pre) ν :: k) σ' η' ns) := ⟨hn, DWP.lexVal hd hw hf h hk⟩
theorem Ok.open {id : Nat} {l : List Oper} {k : List It} (pre : List Nat) (tl : List (Nat × TK)) (al : List Nat) {A : Als} (hn : eqs ns) (hm : E.P.follows .mixedOrders = true) (hA : alsA E.T l.toArray N' al = some A) (hB : orderT l.toArray pre tl al = true) (hl : Nat.beq (pickOps l.toArray pre).length pre.length = true)
    (h : DWP E N' K' (.lex l (pickT1 l.toArray tl) A (pickOps l.toArray pre) [] :: k) Q σ' η') : Out.ok E Q (.stuck N' K' (.code (.region id l.toArray true) :: k) σ' η' ns) := ⟨hn, DWP.openR pre tl al A hm hA hB hl h⟩
end
end Go.Bw
end

section
noncomputable section
namespace Go.Bw
open Go
section
variable {E : Env} {Q : DQ} {N K : Nat} {σ : TS} {η : Hp} {o : Oper} {all : List Oper} {k : List It} {x : CV} {l : List (Nat × Oper × TK)} {A : Als} {pend : List (Nat × Oper × CV)} {fs : List (Nat × List AV × AV)} {i : Nat} {ns : List (Nat × Nat)}
theorem DOpS.call {dst : Option Nat} {f : Operand} {args : List Operand} {g : FuncId} {cs : List CV} {xs : List AV} {res : AV} {tys : Array TypeId} {ty : TypeId} {pos : String} {after : Array Edge} {gd : Option (Nat × Bool)} (h : Pure E.toCx g xs (.ret res)) (hc : calleeC σ f args = some (g, cs)) (hx : allD cs = some xs) :
    DOpS E N ⟨dst, .call { callee := .value f, args := args.toArray, argTypes := tys }, ty, pos, after, gd⟩ σ (.d res) := fun ρ s ηB hs => by
  obtain ⟨ys, h1, h2⟩ := calleeC_inst hs hc
  have := allD_inst hx h2
  subst this
  exact ⟨res, rfl, OpP.pure rfl h h1⟩
theorem DOpS.idx {t : TypeId} {p ix : Operand} {e kk sz by' : Nat} {z : List Value} {rows : List (List AV)} {r : List AV} {kd : IntKind} {m : Int} (j : Nat) (ho : o.op = .indexAddr t p ix) (hp : cev σ p = some (.d (.sl kk rows)))
    (ht : tget E.T t = some ⟨.slice e kk, sz, by', z⟩) (hix : cev σ ix = some (.d (.v (.int kd m)))) (hm : m = (j : Int)) (hr : rows[j]? = some r) : DOpS E N o σ (.d (.ip r)) := fun ρ s ηB hs => by
  obtain ⟨y, h1, h2⟩ := cev_inst hs hp
  simp only [Inst] at h2; subst h2
  obtain ⟨y', h4, h5⟩ := cev_inst hs hix
  simp only [Inst] at h5; subst h5
  subst hm
  refine ⟨.ip r, rfl, OpP.kop (E := E) ?_⟩
  have hnat : natV (some (.v (.int kd (j : Int)))) = some j := rfl
  rw [ho]
  simp only [Bw.kop, h1, h4, hnat, ht, Nat.beq_refl, nth_eq, hr]
theorem DOpS.nop {y : AV} (h : nop E.P (dat σ) o.op = some y) : DOpS E N o σ (.d y) := fun ρ s ηB hs => ⟨y, rfl, (OpP.nop h).mono fun _ _ _ hy => dat_ss hs hy⟩
theorem PendD.nil : PendD E N all [] σ η := fun p hp => by cases hp
theorem PendD.cons {r : List (Nat × Oper × CV)} (hw : wantedD all o σ = some true) (h : DOpP E N o σ η x) (hr : PendD E N all r σ η) : PendD E N all ((i, o, x) :: r) σ η := fun p hp => by
  rcases List.mem_cons.1 hp with rfl | hp
  · exact .inl ⟨hw, h⟩
  · exact hr p hp
theorem PendD.skip {r : List (Nat × Oper × CV)} (hw : wantedD all o σ = some false) (hr : PendD E N all r σ η) : PendD E N all ((i, o, .d (.v undef)) :: r) σ η := fun p hp => by
  rcases List.mem_cons.1 hp with rfl | hp
  · exact .inr ⟨hw, rfl⟩
  · exact hr p hp
theorem DOpP.vop {cl : Bool} (h : vop E.P E.G E.T cl σ η o.op = some (x, ns)) (hn : eqs ns) : DOpP E N o σ η x := vop_ok h hn
theorem DWP.tlFl (hp : PendD E N all pend σ η) (hd : dstB N o.dst = true) (hw : wantedD all o σ = some true) (hv : DOpP E N o σ η x) (h : DWP E N K (.tl all l A ((i, o, x) :: pend) fs :: k) Q (putT σ o.dst x) η) : DWP E N K (.tl all ((i, o, .fl) :: l) A pend fs :: k) Q σ η :=
  fun hf => DTl.fl hp hd (.inl ⟨hw, hv⟩) (h hf)
theorem DWP.tlStep (hm : E.P.follows .mixedOrders = true) (hp : PendD E N all pend σ η) (h : Nx.ok E Q (stepTl E.P E.G E.T cfgS (fun _ _ => none) N K all l A pend fs k σ η [] (.out (.stuck N K (.tl all l A pend fs :: k) σ η [])))) : DWP E N K (.tl all l A pend fs :: k) Q σ η :=
  (stepTl_ok (c := cfgS) (nest := fun _ _ => none) (fun g xs z hz => by cases hz) (fun g x h => by cases h) (fun _ => hp) h (fun h => h)).2
theorem DO.appRow {rest : List Oper} {i d n j m : Nat} {s p : Operand} {t : TypeId} {ty : TypeId} {pos : String} {after : Array Edge} {e e' kk sz by' sz' by'' : Nat} {z z' : List Value} {td' : TD} {rows rows2 : List (List AV)}
    (hs' : cev σ s = some (.os i n)) (hi : η.e.get i = some (.row e kk rows)) (hn : n = rows.length) (hx : cev σ p = some (.os j m)) (hj : η.e.get j = some (.row e' kk rows2)) (hm : m = rows2.length) (ht : tget E.T t = some ⟨.slice e kk, sz, by', z⟩) (hte : tget E.T e = some ⟨td', sz', by'', z'⟩) (h1 : rowsOnes rows2 = true)
    (hk : Nat.ble 1 kk = true) (hby : Nat.ble 1 by'' = true) (hd : Nat.blt d N = true) (hb : (rows ++ rows2).length * by'' ≤ 140737488355328)
    (k1 : DWP E N K (.ops all rest :: k) Q (putT σ (some d) (.os i (rows ++ rows2).length)) (η.set i (.row e kk (rows ++ rows2)))) :
    DWP E N K (.ops all (⟨some d, .call { callee := .builtin .append, args := #[s, p], argTypes := #[t, t] }, ty, pos, after, none⟩ :: rest) :: k) Q σ η :=
  DO.append hb hs' hi hn (.row hx hj hm) ht hte h1 hk hby hd k1
theorem DWP.tlEff {R : DR → Hp → Prop} {σ1 : TS} {η1 : Hp} (hp : PendD E N all pend σ η) (hnd : nodupB ((nuC (mOf all.toArray i A)).map (·.1)) = true) (hd : dstB N o.dst = true) (hop : openN (nuC (mOf all.toArray i A)) σ η = (σ1, η1)) (hw : wantedD all o σ1 = some true) (h : DEff E N o σ1 η1 R)
    (k1 : ∀ x η', R (.ret x) η' → DWP E N K (.tl all l (mNot all.toArray i A) (keepC all i pend) fs :: k) Q (putT σ1 o.dst x) η') (k2 : ∀ x η', R (.pan x) η' → False) : DWP E N K (.tl all ((i, o, .one) :: l) A pend fs :: k) Q σ η :=
  fun hf => DTl.eff hp hnd hd hop hw h (fun x η' hR => k1 x η' hR hf) (fun x η' hR => (k2 x η' hR).elim)
variable {N' K' : Nat} {todo' : List It} {σ' : TS} {η' : Hp}
theorem Nx.go_ok (hn : eqs ns) (h : DWP E N' K' todo' Q σ' η') : Nx.ok E Q (.go N' K' todo' σ' η' ns) := ⟨hn, h⟩
end
end Go.Bw
end

section
noncomputable section
namespace Go.Bw
open Go
section
variable {E : Env} {Q : DQ} {N K : Nat} {σ : TS} {η : Hp} {o : Oper} {all : List Oper} {k : List It} {x : CV}
theorem DOpS.toP (h : DOpS E N o σ x) : DOpP E N o σ η x := fun ρ s ηB hs _ => h ρ s ηB hs
theorem DOpS.kop {y : AV} (h : kop E.P E.T (dat σ) o.op = some y) : DOpS E N o σ (.d y) := fun ρ s ηB hs => ⟨y, rfl, (OpP.kop h).mono fun _ _ _ hy => dat_ss hs hy⟩
def bndC (σ : TS) (dflt : Nat) : Option Operand → Option Nat
  | none => some dflt
  | some p => match cev σ p with
    | some (.d y) => natV (some y)
    | _ => none
theorem bndC_ok {d n : Nat} {p : Option Operand} (h : bndC σ d p = some n) : bndV (dat σ) d p = some n := by
  cases p with
  | none => exact h
  | some p =>
    simp only [bndC] at h
    split at h
    · rename_i y hy
      show natV (ev (dat σ) p) = some n
      rw [cev_dat hy]; exact h
    · cases h
theorem DOpS.part {t : TypeId} {p : Operand} {lo hi : Option Operand} {e kk sz by' : Nat} {z : List Value} {rows : List (List AV)} (l h : Nat) (ho : o.op = .slice t p lo hi none) (hp : cev σ p = some (.d (.sl kk rows))) (ht : tget E.T t = some ⟨.slice e kk, sz, by', z⟩)
    (hl : bndC σ 0 lo = some l) (hh : bndC σ rows.length hi = some h) (h1 : l ≤ h) (h2 : h ≤ rows.length) : DOpS E N o σ (.d (.sl kk ((rows.take h).drop l))) :=
  DOpS.kop (by
    rw [ho]
    simp only [Bw.kop, cev_dat hp, ht, bndC_ok hl, bndC_ok hh]
    have : (Nat.beq kk kk && Nat.ble l h && Nat.ble h rows.length) = true := by simp [h1, h2]
    rw [this])
theorem DOpS.boolNe {t : TypeId} {p q : Operand} {yt : TypeId} {a b : Bool} (ho : o.op = .binOp .neq t p q yt) (hu : E.P.underlying t = some .bool) (hp : cev σ p = some (.d (.v (.bool a)))) (hq : cev σ q = some (.d (.v (.bool b)))) : DOpS E N o σ (.d (.v (.bool (!(a == b))))) :=
  DOpS.nop (by rw [ho]; simp only [Bw.nop, hu, cev_dat hp, cev_dat hq, isNilS, boolV])
theorem DOpS.max2 {p q : Operand} {tys : Array TypeId} {kd kd' : IntKind} {a b : Int} (ho : o.op = .call { callee := .builtin .max, args := #[p, q], argTypes := tys }) (hp : cev σ p = some (.d (.v (.int kd a)))) (hq : cev σ q = some (.d (.v (.int kd' b)))) : DOpS E N o σ (.d (.v (.int kd (if b > a then b else a)))) :=
  DOpS.nop (by rw [ho]; simp only [Bw.nop, cev_dat hp, cev_dat hq, intV])
theorem DOpS.min2 {p q : Operand} {tys : Array TypeId} {kd kd' : IntKind} {a b : Int} (ho : o.op = .call { callee := .builtin .min, args := #[p, q], argTypes := tys }) (hp : cev σ p = some (.d (.v (.int kd a)))) (hq : cev σ q = some (.d (.v (.int kd' b)))) : DOpS E N o σ (.d (.v (.int kd (if b < a then b else a)))) :=
  DOpS.nop (by rw [ho]; simp only [Bw.nop, cev_dat hp, cev_dat hq, intV])
end
end Go.Bw
end
