/-
  Own work. Walks by program: partial functions that answer as the code does; first part: what the texts that a program prints lean on. Own work. Calls that write what they are handed: one entry of own memory, told before and after. Own work. Functions with fuel, and what they come to: limits, and their equations. Own work. Answers with what is known of them; loops over indices. Own work. Steps of printed walks in short form: what is found by computing need not be said. Own work. Limits of functions, by their types: what a body makes of the limits of what it calls.
-/
import Derived.Test.YtcngmkedekmkhaaGreatKD12
section
noncomputable section
namespace Go.Bw
open Go
inductive Res (α : Type) where
  | ret (x : α)
  | pan (x : AV)
def idxO {α : Type} (l : List α) (m : Int) : Option α := match m with
  | .ofNat j => l[j]?
  | .negSucc _ => none
theorem idxO_some {α : Type} {l : List α} {m : Int} {x : α} (h : idxO l m = some x) : ∃ j : Nat, m = (j : Int) ∧ l[j]? = some x := by
  cases m with
  | ofNat j => exact ⟨j, rfl, h⟩
  | negSucc j => cases h
theorem idxO_nat {α : Type} {l : List α} {m : Int} {x : α} (h : idxO l m = some x) : m = ((m.toNat : Nat) : Int) ∧ l[m.toNat]? = some x := by
  obtain ⟨j, rfl, h⟩ := idxO_some h
  exact ⟨rfl, h⟩
theorem bindO {α β : Type} {o : Option α} {f : α → Option β} {r : β} (h : o.bind f = some r) : ∃ x, o = some x ∧ f x = some r := by
  cases o with
  | none => cases h
  | some x => exact ⟨x, rfl, h⟩
theorem guardO {α : Type} {c : Bool} {a : Option α} {r : α} (h : (bif c then a else none) = some r) : c = true ∧ a = some r := by
  cases c with
  | true => exact ⟨rfl, h⟩
  | false => cases h
def rowsI (k : IntKind) (l : List Int) : List (List AV) := l.map fun x => [.v (.int k x)]
def rowsB (l : List Bool) : List (List AV) := l.map fun x => [.v (.bool x)]
def rowsS (l : List (List UInt8)) : List (List AV) := l.map fun x => [.v (.string ⟨⟨x⟩⟩)]
theorem rowsI_len {k : IntKind} {l : List Int} : (rowsI k l).length = l.length := List.length_map _
theorem rowsB_len {l : List Bool} : (rowsB l).length = l.length := List.length_map _
theorem rowsS_len {l : List (List UInt8)} : (rowsS l).length = l.length := List.length_map _
theorem rowsS_get {l : List (List UInt8)} {i : Nat} {x : List UInt8} (h : l[i]? = some x) : (rowsS l)[i]? = some [.v (.string ⟨⟨x⟩⟩)] := get_map h
theorem rowsI_app {k : IntKind} {a b : List Int} : rowsI k (a ++ b) = rowsI k a ++ rowsI k b := List.map_append
theorem rowsB_app {a b : List Bool} : rowsB (a ++ b) = rowsB a ++ rowsB b := List.map_append
theorem rowsS_app {a b : List (List UInt8)} : rowsS (a ++ b) = rowsS a ++ rowsS b := List.map_append
theorem rowsS_drop {n : Nat} {l : List (List UInt8)} : rowsS (l.drop n) = (rowsS l).drop n := List.map_drop
theorem rowsS_take {n : Nat} {l : List (List UInt8)} : rowsS (l.take n) = (rowsS l).take n := List.map_take
def bindR {α β : Type} (o : Option (Res α)) (f : α → Option (Res β)) : Option (Res β) := match o with
  | some (.ret x) => f x
  | some (.pan z) => some (.pan z)
  | none => none
theorem bindR_some {α β : Type} {o : Option (Res α)} {f : α → Option (Res β)} {r : Res β} (h : bindR o f = some r) : (∃ z, o = some (.pan z) ∧ r = .pan z) ∨ ∃ x, o = some (.ret x) ∧ f x = some r := by
  cases o with
  | none => cases h
  | some x => cases x with
    | ret x => exact .inr ⟨x, rfl, h⟩
    | pan z => cases h; exact .inl ⟨z, rfl, rfl⟩
section
variable {E : Env} {Q : DQ} {N K : Nat} {σ : TS} {η : Hp} {o : Oper} {all rest : List Oper} {k : List It} {x : CV} {c : Code}
theorem RD.leaf {rs : List ResultVar} {xs : List CV} {z y : AV} {res : AR} {ns : List (Nat × Nat)} {ms : List (Nat × CEnt)} (h : resD E.T σ η rs = some xs) (hf : frzL η.e 60 [packC xs] = some ([z], ns, ms)) (hn : eqs ns) (hr : res = .ret y) (e : Imp z y) : RD E.T rs (Ends 60 res) .ret σ η := by
  subst hr; exact RD.retO h hf hn e
theorem DOpS.conv {y z : CV} (h : DOpS E N o σ y) (e : y = z) : DOpS E N o σ z := e ▸ h
theorem atomT {c : Bool} (h : (!c) = false) : c = true := by cases c <;> simp_all
def outIf (b : Bool) (A B : Out) : Out := match b with
  | true => A
  | false => B
theorem Ok.split {b : Bool} {A B : Out} (h1 : b = true → Out.ok E Q A) (h2 : b = false → Out.ok E Q B) : Out.ok E Q (outIf b A B) := by
  cases b with
  | true => exact h1 rfl
  | false => exact h2 rfl
theorem Ok.splitT {b : Bool} {A B : Out} (hb : b = true) (h1 : Out.ok E Q A) : Out.ok E Q (outIf b A B) := by subst hb; exact h1
def askG (all : List Oper) (o : Oper) (σ : TS) : Option (Nat × Bool) := match o.guard with
  | none => none
  | some (j, _) => match (nth all j).bind (·.dst) with
    | none => none
    | some d => match σ.get d with
      | some (.d (.v (.bool t))) => some (d, t)
      | _ => none
def askOf (σ : TS) : List It → Option (Nat × Bool)
  | .lex all _ _ (o :: _) _ :: _ => askG all o σ
  | .tl all ((_, o, _) :: _) _ _ _ :: _ => askG all o σ
  | _ => none
theorem SS.pin {ρ : Rho} {s : Sl} (hs : SS ρ σ s) {d : Nat} {t b : Bool} (hd : σ.get d = some (.d (.v (.bool t)))) (ht : t = b) : SS ρ (Tr.put 24 σ d (some (.d (.v (.bool b))))) s := by
  subst ht
  intro u z hz
  rcases Tr.get_put 24 σ d u _ z hz with ⟨rfl, h3⟩ | ⟨_, h3⟩
  · cases h3; exact hs _ _ hd
  · exact hs _ _ h3
theorem askG_get {all : List Oper} {o : Oper} {d : Nat} {t : Bool} (h : askG all o σ = some (d, t)) : σ.get d = some (.d (.v (.bool t))) := by
  unfold askG at h
  split at h
  · cases h
  · split at h
    · cases h
    · split at h
      · rename_i h1; simp only [Option.some.injEq, Prod.mk.injEq] at h; obtain ⟨rfl, rfl⟩ := h; exact h1
      · cases h
theorem DWP.pin {todo : List It} {d : Nat} {t b : Bool} (ha : askOf σ todo = some (d, t)) (ht : t = b) (h : DWP E N K todo Q (Tr.put 24 σ d (some (.d (.v (.bool b))))) η) : DWP E N K todo Q σ η := by
  unfold askOf at ha
  split at ha
  · unfold DWP at h ⊢; simp only [dq] at h ⊢
    exact fun ρ s ηB νB hs => h ρ s ηB νB (hs.pin (askG_get ha) ht)
  · unfold DWP at h ⊢; simp only [dq] at h ⊢
    exact fun hf ρ s ηB pb hs => h hf ρ s ηB pb (hs.pin (askG_get ha) ht)
  · cases ha
def ownB (σ : TS) : Op → Bool
  | .indexAddr _ (.tmp t) _ => match σ.get t with
    | some (.os _ _) => true
    | _ => false
  | .load _ (.tmp t) => match σ.get t with
    | some (.oe _ _ _) => true
    | _ => false
  | .store _ (.tmp t) _ => match σ.get t with
    | some (.oe _ _ _) => true
    | _ => false
  | _ => false
def opnE (σ : TS) : List It → Bool
  | .ops _ (o :: _) :: _ => match o.guard with
    | none => ownB σ o.op
    | some _ => false
  | .lex _ _ _ (o :: _) _ :: _ => ownB σ o.op
  | .tl _ ((_, o, _) :: _) _ _ _ :: _ => ownB σ o.op
  | _ => false
def drN (rec : Nat → Nat → List It → TS → Hp → List (Nat × Nat) → Out) : Nx → Out
  | .go N' K' todo' σ' η' ns' => match η' with
    | ⟨e, m⟩ => normN 1000 m 0 fun n => rec N' K' todo' σ' ⟨e, n⟩ ns'
  | .out (.cond b N' K' t1 s1 t2 s2 η' ns') => outIf b (rec N' K' t1 s1 η' ns') (rec N' K' t2 s2 η' ns')
  | .out o => o
def dr (P : Program) (G : Gl) (T : Tab) : Nat → Nat → Nat → List It → TS → Hp → List (Nat × Nat) → Out
  | 0, N, K, todo, σ, η, ns => .stuck N K todo σ η ns
  | f + 1, N, K, todo, σ, η, ns => match opn σ todo with
    | true => .stuck N K todo σ η ns
    | false => match opnE σ todo with
     | true => .stuck N K todo σ η ns
     | false => match askOf σ todo with
      | none => drN (dr P G T f) (step P G T cfgS (fun _ _ => none) f N K todo σ η ns)
      | some (d, t) => outIf t (drN (dr P G T f) (step P G T cfgS (fun _ _ => none) f N K todo (Tr.put 24 σ d (some (.d (.v (.bool true))))) η ns)) (drN (dr P G T f) (step P G T cfgS (fun _ _ => none) f N K todo (Tr.put 24 σ d (some (.d (.v (.bool false))))) η ns))
theorem drN_ok {Q : DQ} {rec : Nat → Nat → List It → TS → Hp → List (Nat × Nat) → Out} (hr : ∀ N K todo σ η ns, Out.ok E Q (rec N K todo σ η ns) → eqs ns ∧ DWP E N K todo Q σ η) : ∀ {x : Nx}, Out.ok E Q (drN rec x) → Nx.ok E Q x
  | .go N' K' todo' σ' η' ns', h => by
    dsimp only [drN] at h
    rw [normN_eq] at h
    exact hr _ _ _ _ _ _ h
  | .out (.stuck ..), h => h
  | .out (.fin ..), h => h
  | .out (.cond b N' K' t1 s1 t2 s2 η' ns'), h => by
    cases b with
    | true =>
      have := hr _ _ _ _ _ _ h
      exact ⟨this.1, fun _ => this.2, (fun h => nomatch h)⟩
    | false =>
      have := hr _ _ _ _ _ _ h
      exact ⟨this.1, (fun h => nomatch h), fun _ => this.2⟩
theorem dr_ok (hm : E.P.follows .mixedOrders = true) : ∀ (f : Nat) (Q : DQ) (N K : Nat) (todo : List It) (σ : TS) (η : Hp) (ns : List (Nat × Nat)), Out.ok E Q (dr E.P E.G E.T f N K todo σ η ns) → eqs ns ∧ DWP E N K todo Q σ η
  | 0, _, _, _, _, _, _, _, h => h
  | f + 1, Q, N, K, todo, σ, η, ns, h => by
    have one : ∀ σ, Out.ok E Q (drN (dr E.P E.G E.T f) (step E.P E.G E.T cfgS (fun _ _ => none) f N K todo σ η ns)) → eqs ns ∧ DWP E N K todo Q σ η := fun σ h =>
      step_ok (c := cfgS) (fl := f) hm (fun f hf => by cases hf) (fun f ty z h => by cases h) (fun g x h => by cases h) (nest := fun _ _ => none) (fun g xs z hz => by cases hz) (drN_ok (fun N K todo σ η ns h => dr_ok hm f Q N K todo σ η ns h) h)
    unfold dr at h
    split at h
    · exact h
    · split at h
      · exact h
      · split at h
        · exact one σ h
        · rename_i d t ha
          cases t with
          | true => have := one _ h; exact ⟨this.1, DWP.pin ha rfl this.2⟩
          | false => have := one _ h; exact ⟨this.1, DWP.pin ha rfl this.2⟩
theorem dr_run (hm : E.P.follows .mixedOrders = true) (f : Nat) (h : Out.ok E Q (match η with | ⟨e, m⟩ => normN 1000 m 0 fun n => dr E.P E.G E.T f N K k σ ⟨e, n⟩ [])) : DWP E N K k Q σ η := by
  obtain ⟨e, m⟩ := η
  dsimp only at h
  rw [normN_eq] at h
  exact (dr_ok hm f Q N K k σ ⟨e, m⟩ [] h).2
theorem DOpP.callF {f : Operand} {args : List Operand} {g : FuncId} {cs : List CV} {xs' xs : List AV} {ns : List (Nat × Nat)} {ms : List (Nat × CEnt)} {res : AV} {tys : Array TypeId} (h : Pure E.toCx g xs (.ret res)) (ho : o.op = .call { callee := .value f, args := args.toArray, argTypes := tys })
    (hc : calleeC σ f args = some (g, cs)) (hf : frzL η.e 60 cs = some (xs', ns, ms)) (hn : eqs ns) (hi : ImpL xs' xs) (hl : ms = [] ∨ refFree res = true) : DOpP E N o σ η (.d res) := DOpP.pure 60 ho h hc hf hn hi hl
theorem DWP.frz {t : Nat} {z : AV} {ns : List (Nat × Nat)} {ms : List (Nat × CEnt)} (hx : σ.get t = some x) (hf : frzL η.e 60 [x] = some ([z], ns, ms)) (hn : eqs ns) (h : DWP E N K (.ops all rest :: k) Q (Tr.put 24 σ t (some (.d z))) (applyM ms η)) : DWP E N K (.ops all rest :: k) Q σ η := DO.frz 60 hx hf hn h
theorem DWP.storeRow {t : TypeId} {p v : Operand} {i n m e kk : Nat} {rows : List (List AV)} {r r' : List AV} {y : AV} {ti : TI} (j off : Nat) (ho : o.op = .store t p v) (hg : o.guard = none) (hd : o.dst = none) (hp : cev σ p = some (.oe i n m)) (hv : cev σ v = some (.d y)) (hi : η.e.get i = some (.row e kk rows)) (hn : n = rows.length)
    (hm : m = j * kk + off) (hr : rows[j]? = some r) (ht : tget E.T t = some ti) (hk : Nat.beq (cellsA y).length ti.size = true) (h1 : onesB (cellsA y) = true) (hl : spliceA r off (cellsA y) = some r') (h : DWP E N K (.ops all rest :: k) Q σ (η.set i (.row e kk (rows.set j r')))) : DWP E N K (.ops all (o :: rest) :: k) Q σ η :=
  DO.storeRow j off hg ho hd hp hv hi hn hm hr ht hk h1 hl h
theorem DWP.tlStoreRow {l : List (Nat × Oper × TK)} {A : Als} {pend : List (Nat × Oper × CV)} {fs : List (Nat × List AV × AV)} {q : Nat} {t : TypeId} {p v : Operand} {i n m e kk : Nat} {rows : List (List AV)} {r r' : List AV} {y : AV} {ti : TI} {σ1 : TS} {η1 : Hp} (j off : Nat) (hpd : PendD E N all pend σ η) (hnd : nodupB ((nuC (mOf all.toArray q A)).map (·.1)) = true) (hd : o.dst = none) (hop : openN (nuC (mOf all.toArray q A)) σ η = (σ1, η1)) (hw : wantedD all o σ1 = some true)
    (ho : o.op = .store t p v) (hp : cev σ1 p = some (.oe i n m)) (hv : cev σ1 v = some (.d y)) (hi : η1.e.get i = some (.row e kk rows)) (hn : n = rows.length)
    (hm : m = j * kk + off) (hr : rows[j]? = some r) (ht : tget E.T t = some ti) (hk : Nat.beq (cellsA y).length ti.size = true) (h1 : onesB (cellsA y) = true) (hl : spliceA r off (cellsA y) = some r')
    (h : DWP E N K (.tl all l (mNot all.toArray q A) (keepC all q pend) fs :: k) Q σ1 (η1.set i (.row e kk (rows.set j r')))) : DWP E N K (.tl all ((q, o, .one) :: l) A pend fs :: k) Q σ η :=
  DWP.tlEff hpd hnd (by rw [hd]; rfl) hop hw (DEff.storeRow j off ho hp hv hi hn hm hr ht hk h1 hl) (fun x η' hR => by obtain ⟨h2, rfl⟩ := hR; rw [hd]; exact h) (fun x η' hR => by cases hR.1)
theorem InstL.getD {ρ : Rho} : ∀ {xs : List CV} {ys : List AV} {c : Nat} {x : AV}, InstL ρ xs ys → xs[c]? = some (.d x) → ys[c]? = some x
  | y :: xs, ys, 0, x, h, hc => by
    simp only [List.getElem?_cons_zero, Option.some.injEq] at hc; subst hc
    simp only [InstL] at h
    obtain ⟨u, r, rfl, h1, _⟩ := h
    simp only [Inst] at h1; subst h1; rfl
  | y :: xs, ys, c + 1, x, h, hc => by
    simp only [InstL] at h
    obtain ⟨u, r, rfl, _, h2⟩ := h
    simpa using InstL.getD h2 (by simpa using hc)
theorem RelL.setSl {w : World} {A : Nat → Prop} {kk : Nat} : ∀ {xs : List AV} {vs : List Value} {c : Nat}, xs[c]? = some (.v (.slice none 0 0)) → RelL w A xs vs → RelL w A (xs.set c (.sl kk [])) vs
  | x :: xs, vs, 0, hc, h => by
    simp only [List.getElem?_cons_zero, Option.some.injEq] at hc; subst hc
    simp only [RelL] at h
    obtain ⟨v, r, rfl, h1, h2⟩ := h
    simp only [List.set_cons_zero, RelL]
    exact ⟨v, r, rfl, Imp.nil kk _ _ _ h1, h2⟩
  | x :: xs, vs, c + 1, hc, h => by
    simp only [RelL] at h
    obtain ⟨v, r, rfl, h1, h2⟩ := h
    simp only [List.set_cons_succ, RelL]
    exact ⟨v, r, rfl, h1, RelL.setSl (by simpa using hc) h2⟩
end
end Go.Bw
end

section
noncomputable section
namespace Go.Bw
open Go
inductive SEnt where
  | box (us : List AV)
  | row (e k : Nat) (rows : List (List AV))
def SEnt.c : SEnt → CEnt
  | .box us => .box (us.map .d)
  | .row e k rows => .row e k rows
inductive SImp : CEnt → SEnt → Prop where
  | box {cs : List CV} {us0 us : List AV} : allD cs = some us0 → ImpL us0 us → SImp (.box cs) (.box us)
  | row {e k : Nat} {rows0 rows : List (List AV)} : ImpR rows0 rows → SImp (.row e k rows0) (.row e k rows)
def SEnds (y : AV) (e' : SEnt) : DR → Hp → Prop
  | .ret x, η => (match e' with
    | .box us => ∃ cs z zs ns ms, η.e.get 0 = some (.box cs) ∧ frzL η.e 60 (x :: cs) = some (z :: zs, ns, ms) ∧ eqs ns ∧ (ms.all fun p => Nat.blt 0 p.1) = true ∧ Imp z y ∧ ImpL zs us
    | .row e k rows => ∃ rows0 z ns ms, η.e.get 0 = some (.row e k rows0) ∧ frzL η.e 60 [x] = some ([z], ns, ms) ∧ eqs ns ∧ (ms.all fun p => Nat.blt 0 p.1) = true ∧ Imp z y ∧ ImpR rows0 rows)
  | .pan _, _ => False
def SPure (E : Env) (g : FuncId) (args : List CV) (e : SEnt) (y : AV) (e' : SEnt) : Prop := DCall E g args (ofH [e.c]) (SEnds y e')
def ren1 (i : Nat) : CV → Option CV
  | .d x => some (.d x)
  | .own t o => match Nat.beq t i with
    | true => some (.own 0 o)
    | false => none
  | .os t n => match Nat.beq t i with
    | true => some (.os 0 n)
    | false => none
  | .oe t n o => match Nat.beq t i with
    | true => some (.oe 0 n o)
    | false => none
  | _ => none
def renL (i : Nat) : List CV → Option (List CV)
  | [] => some []
  | x :: xs => match ren1 i x, renL i xs with
    | some y, some ys => some (y :: ys)
    | _, _ => none
def Rho.one (ρ : Rho) (i : Nat) : Rho := ⟨fun t => if t = 0 then ρ.b i else none, fun t n => if t = 0 then ρ.s i n else none⟩
theorem ren1_inst {ρ : Rho} {i : Nat} {x y : CV} {u : AV} (h : ren1 i x = some y) (hi : Inst ρ x u) : Inst (ρ.one i) y u := by
  cases x with
  | d z => simp only [ren1, Option.some.injEq] at h; subst h; exact hi
  | own t o =>
    simp only [ren1] at h
    split at h
    · rename_i hb
      cases h
      have := Nat.eq_of_beq_eq_true hb; subst this
      simp only [Inst] at hi ⊢
      obtain ⟨b, t', h1, h2⟩ := hi
      exact ⟨b, t', by simpa [Rho.one] using h1, h2⟩
    · cases h
  | os t n =>
    simp only [ren1] at h
    split at h
    · rename_i hb
      cases h
      have := Nat.eq_of_beq_eq_true hb; subst this
      simp only [Inst] at hi ⊢
      obtain ⟨a, c, t', h1, h2⟩ := hi
      exact ⟨a, c, t', by simpa [Rho.one] using h1, h2⟩
    · cases h
  | oe t n o =>
    simp only [ren1] at h
    split at h
    · rename_i hb
      cases h
      have := Nat.eq_of_beq_eq_true hb; subst this
      simp only [Inst] at hi ⊢
      obtain ⟨a, c, t', h1, h2⟩ := hi
      exact ⟨a, c, t', by simpa [Rho.one] using h1, h2⟩
    · cases h
  | _ => cases h
theorem renL_inst {ρ : Rho} {i : Nat} : ∀ {xs ys : List CV} {us : List AV}, renL i xs = some ys → InstL ρ xs us → InstL (ρ.one i) ys us
  | [], ys, us, h, hi => by simp only [renL, Option.some.injEq] at h; subst h; exact hi
  | x :: xs, ys, us, h, hi => by
    simp only [renL] at h
    split at h
    · rename_i y ys' h1 h2
      cases h
      simp only [InstL] at hi ⊢
      obtain ⟨u, r, rfl, h3, h4⟩ := hi
      exact ⟨u, r, rfl, ren1_inst h1 h3, renL_inst h2 h4⟩
    · cases h
theorem instL_allD {ρ : Rho} : ∀ {cs : List CV} {us ys : List AV}, allD cs = some us → InstL ρ cs ys → ys = us
  | [], us, ys, h, hi => by simp only [allD, Option.some.injEq] at h; subst h; exact hi
  | c :: cs, us, ys, h, hi => by
    cases c <;> simp only [allD] at h <;> try cases h
    split at h
    · rename_i zs h1
      cases h
      simp only [InstL, Inst] at hi
      obtain ⟨u, r, rfl, rfl, h3⟩ := hi
      rw [instL_allD h1 h3]
    · cases h
theorem split_nth : ∀ {l : List Ent} {i : Nat} {x : Ent}, nth l i = some x → ∃ a b, l = a ++ x :: b ∧ a.length = i
  | [], _, _, h => by simp [nth] at h
  | y :: l, 0, x, h => by simp only [nth, Option.some.injEq] at h; subst h; exact ⟨[], l, rfl, rfl⟩
  | y :: l, i + 1, x, h => by
    simp only [nth] at h
    obtain ⟨a, b, rfl, rfl⟩ := split_nth h
    exact ⟨y :: a, b, rfl, rfl⟩
theorem nth_mid (a b : List Ent) (x : Ent) : nth (a ++ x :: b) a.length = some x := by rw [nth_eq]; simp
theorem nth_other {a b : List Ent} {x y : Ent} {j : Nat} (hj : j ≠ a.length) : nth (a ++ x :: b) j = nth (a ++ y :: b) j := by
  rw [nth_eq, nth_eq]
  rcases Nat.lt_or_ge j a.length with h | h
  · rw [List.getElem?_append_left h, List.getElem?_append_left h]
  · rw [List.getElem?_append_right h, List.getElem?_append_right h]
    obtain ⟨m, hm⟩ : ∃ m, j - a.length = m + 1 := ⟨j - a.length - 1, by omega⟩
    rw [hm]; rfl
section
variable {E : Env} {N K : Nat} {Q : DQ} {σ : TS} {η : Hp} {o : Oper} {all rest : List Oper} {k : List It}
theorem SPure.frame {g : FuncId} {cs args : List CV} {i : Nat} {ce : CEnt} {e0 e1 : SEnt} {y : AV} (h : SPure E g args e0 y e1) (hr : renL i cs = some args) (hi : η.e.get i = some ce) (hs : SImp ce e0) :
    DCall E g cs η (fun r η' => r = .ret (.d y) ∧ η' = η.set i e1.c) := fun ρ ys ηB hys hh => by
  obtain ⟨x, hx1, hx2⟩ := hh.en i _ hi
  obtain ⟨l, r, rfl, rfl⟩ := split_nth hx1
  -- the entry in the callee's words
  obtain ⟨x0, hx0, hids, hxe⟩ : ∃ x0 : Ent, EInst (ρ.one l.length) 0 e0.c x0 ∧ x0.ids = x.ids ∧ ∀ w A, x.ok w A → x0.ok w A := by
    cases hs with
    | box h1 h2 =>
      obtain ⟨b, cs', h3, rfl, h4⟩ := hx2
      rename_i us0 us
      have := instL_allD h1 h4; subst this
      refine ⟨.box b us, ⟨b, us, by simpa [Rho.one] using h3, rfl, instL_d _⟩, rfl, fun w A => ?_⟩
      rintro ⟨e, vs, h5, h6⟩
      exact ⟨e, vs, h5, h2.rel h6⟩
    | row h2 =>
      obtain ⟨⟨a, c, h3, rfl⟩, h4⟩ := hx2
      rename_i e k rows0 rows
      have hl := h2.length
      refine ⟨.row (.slice a rows.length c) e k rows, ⟨⟨a, c, by simpa [Rho.one, hl] using h3, rfl⟩, fun m hm => by simpa [Rho.one] using h4 m (by omega)⟩, by cases a <;> simp [Ent.ids, Value.ownBlock], fun w A => ?_⟩
      rintro ⟨vs, h5, h6⟩
      exact ⟨vs, h2.rel h5, by rw [hl]; exact h6⟩
  have hS0 : HS (ρ.one l.length) (ofH [e0.c]) [x0] := by
    refine ⟨fun t z hz => ?_, rfl, fun t ht => ?_⟩
    · simp only [ofH, ofE] at hz
      rcases Tr.get_put 24 .lf 0 t (some e0.c) z hz with ⟨rfl, h1⟩ | ⟨_, h1⟩
      · cases h1; exact ⟨x0, rfl, hx0⟩
      · simp [Tr.get_lf] at h1
    · have : t ≠ 0 := by simp [ofH] at ht; omega
      exact ⟨by simp [Rho.one, this], fun n => by simp [Rho.one, this]⟩
  have h0 := h (ρ.one l.length) ys [x0] (renL_inst hr hys) hS0
  refine ⟨h0.1, fun F w vs hH hR => ?_⟩
  let F0 : Nat → Prop := fun b => F b ∨ b ∈ ids l ∨ b ∈ ids r
  have hA : ∀ z : Ent, Al F0 [z] = Al F (l ++ z :: r) := fun z => funext fun b => propext (by
    simp only [Al, F0, ids_append, ids_cons, List.mem_append, show ids [] = [] from rfl, List.append_nil, not_or]
    constructor
    · rintro ⟨⟨a1, a2, a3⟩, a4⟩; exact ⟨a1, a2, a4, a3⟩
    · rintro ⟨a1, a2, a3, a4⟩; exact ⟨⟨a1, a2, a4⟩, a3⟩)
  have hAx : Al F0 [x0] = Al F (l ++ x :: r) := by
    rw [hA]; funext b; simp only [Al, ids_append, ids_cons, hids]
  have hnd := hH.nodup
  simp only [ids_append, ids_cons, List.nodup_append, List.mem_append] at hnd
  have hfr := hH.free
  have hltb := hH.lt
  simp only [ids_append, ids_cons, List.mem_append] at hfr hltb
  have hH0 : HOk E.toCx.G w F0 [x0] := by
    refine ⟨fun z hz => ?_, ?_, fun b hb => ?_, fun b hb => ?_, ?_⟩
    · simp only [List.mem_singleton] at hz; subst hz
      rw [hAx]; exact hxe _ _ (hH.ents x (by simp))
    · simp only [ids, List.flatMap_cons, List.flatMap_nil, List.append_nil, hids]; exact hnd.2.1.1
    · simp only [ids, List.flatMap_cons, List.flatMap_nil, List.append_nil, hids] at hb
      rintro (hF | hl | hr')
      · exact hfr b (.inr (.inl hb)) hF
      · exact hnd.2.2 b hl b (.inl hb) rfl
      · exact hnd.2.1.2.2 b hb b hr' rfl
    · rcases hb with hF | hl | hr'
      · exact hH.bound b hF
      · exact hltb b (.inl hl)
      · exact hltb b (.inr (.inr hr'))
    · rw [hAx]; exact hH.glob
  refine (h0.2 F0 w vs hH0 (by rw [hAx]; exact hR)).mono ?_
  rintro e w' ⟨r', ηB', ⟨ρ', d, η1, h1, h2, h3, h4⟩, hv, hh', hx⟩
  cases d with
  | pan z => exact h4.elim
  | ret z0 =>
  obtain ⟨u, rfl, h2⟩ := h2
  obtain ⟨v, rfl, hv⟩ := hv
  have h10 := h1 0 (by simp [ofH])
  -- what is left there
  obtain ⟨x', g1, g2, g3, g4, g5⟩ : ∃ x' : Ent, EInst ⟨fun t => if t = l.length then ρ'.b 0 else ρ.b t, fun t n => if t = l.length then ρ'.s 0 n else ρ.s t n⟩ l.length e1.c x' ∧ x'.ok w' (Al F (l ++ x' :: r)) ∧ (∀ b ∈ x'.ids, b ∈ ids ηB') ∧ x'.ids.Nodup ∧ Rel w' (Al F (l ++ x' :: r)) y v := by
    cases e1 with
    | box us =>
      obtain ⟨cs', z, zs, ns, ms, q1, q2, q3, q4, q5, q6⟩ := h4
      obtain ⟨q, hq1, hq2⟩ := h3.en 0 _ q1
      obtain ⟨b, us', hb, rfl, hi'⟩ := hq2
      obtain ⟨e', vs', hheap, hvs⟩ := ents_nth hh' hq1
      obtain ⟨f1, _⟩ := frzL_ok h3 hh' (ms.map (·.1)) 60 q2 q3 (fun p hp => List.mem_map.2 ⟨p, hp, rfl⟩) (by simp only [InstL]; exact ⟨u, us', rfl, h2, hi'⟩) (vs := v :: vs') (by simp only [RelL]; exact ⟨v, vs', rfl, hv, hvs⟩)
      have hk : Keeps w' (AlX F0 ηB' (ms.map (·.1))) w' (Al F (l ++ (Ent.box b us) :: r)) := ⟨Nat.le_refl _, fun b' _ hb' => ⟨by
        rw [← hA]
        refine ⟨hb'.1, ?_⟩
        have := hb'.2 0 _ hq1 (fun hm => by
          obtain ⟨p, hp, hp0⟩ := List.mem_map.1 hm
          have := List.all_eq_true.1 q4 p hp
          rw [hp0] at this; simp at this)
        simpa [ids, Ent.ids] using this, rfl⟩⟩
      simp only [RelL] at f1
      obtain ⟨v1, vs1, e1', f2, f3⟩ := f1
      simp only [List.cons.injEq] at e1'
      obtain ⟨rfl, rfl⟩ := e1'
      exact ⟨.box b us, ⟨b, us, by simpa using hb, rfl, instL_d _⟩, ⟨e', vs', hheap, q6.rel (f3.keep hk)⟩, fun b' hb' => List.mem_flatMap.2 ⟨_, List.mem_of_getElem? (by rw [← nth_eq]; exact hq1), by simpa [Ent.ids] using hb'⟩, by simp [Ent.ids], q5 _ _ _ (f2.keep hk)⟩
    | row e k rows =>
      obtain ⟨rows0, z, ns, ms, q1, q2, q3, q4, q5, q6⟩ := h4
      obtain ⟨q, hq1, hq2⟩ := h3.en 0 _ q1
      obtain ⟨⟨a, c, hb, rfl⟩, hm⟩ := hq2
      have hl := q6.length
      obtain ⟨vs', f4, f5⟩ := ents_nth hh' hq1
      obtain ⟨f1, _⟩ := frzL_ok h3 hh' (ms.map (·.1)) 60 q2 q3 (fun p hp => List.mem_map.2 ⟨p, hp, rfl⟩) (by simp only [InstL]; exact ⟨u, [], rfl, h2, rfl⟩) (vs := [v]) (by simp only [RelL]; exact ⟨v, [], rfl, hv, rfl⟩)
      have hk : Keeps w' (AlX F0 ηB' (ms.map (·.1))) w' (Al F (l ++ (Ent.row (.slice a rows.length c) e k rows) :: r)) := ⟨Nat.le_refl _, fun b' _ hb' => ⟨by
        rw [← hA]
        refine ⟨hb'.1, ?_⟩
        have := hb'.2 0 _ hq1 (fun hm => by
          obtain ⟨p, hp, hp0⟩ := List.mem_map.1 hm
          have := List.all_eq_true.1 q4 p hp
          rw [hp0] at this; simp at this)
        cases a with | none => simp [ids, Ent.ids, Value.ownBlock] | some a => simpa [ids, Ent.ids, Value.ownBlock] using this, rfl⟩⟩
      simp only [RelL] at f1
      obtain ⟨v1, vs1, e1', f2, f3⟩ := f1
      simp only [List.cons.injEq] at e1'
      obtain ⟨rfl, rfl⟩ := e1'
      refine ⟨.row (.slice a rows.length c) e k rows, ⟨⟨a, c, by simpa [hl] using hb, rfl⟩, fun m hm' => by simpa using hm m (by omega)⟩, ⟨vs', (q6.rel f4).keep ⟨Nat.le_refl _, fun b' hb' ha => hk.2 b' hb' (Al_AlX _ ha)⟩, by rw [hl]; exact f5⟩, fun b' hb' => List.mem_flatMap.2 ⟨_, List.mem_of_getElem? (by rw [← nth_eq]; exact hq1), by cases a with | none => simp [Ent.ids, Value.ownBlock] at hb' | some a => simpa [Ent.ids, Value.ownBlock] using hb'⟩, ?_, q5 _ _ _ (f2.keep hk)⟩
      simp only [Ent.ids]; cases (Value.slice a rows.length c).ownBlock <;> simp
  have hnew : ∀ b ∈ x'.ids, b ∈ x.ids ∨ w.heap.size ≤ b := fun b hb => (hx.new b (g3 b hb)).imp (fun hb => by simpa [ids, hids] using hb) id
  have hblk : ∀ b, b < w.heap.size → b ∉ x.ids → w'.heap[b]? = w.heap[b]? := fun b hb hn => hx.block b hb (by simpa [ids, hids] using hn)
  have hset : ∀ (t : Nat), t ≠ l.length → ∀ n, (fun (t n : Nat) => if t = l.length then ρ'.s 0 n else ρ.s t n) t n = ρ.s t n := fun t ht n => by simp [ht]
  have hle : ρ.le ⟨fun t => if t = l.length then ρ'.b 0 else ρ.b t, fun t n => if t = l.length then ρ'.s 0 n else ρ.s t n⟩ := by
    refine ⟨fun t b hb => ?_, fun t n b hb => ?_⟩
    · by_cases ht : t = l.length
      · subst ht; simp only [if_true]; exact h10.1 b (by simpa [Rho.one] using hb)
      · simp only [ht, if_false]; exact hb
    · by_cases ht : t = l.length
      · subst ht; simp only [if_true]; exact h10.2 n b (by simpa [Rho.one] using hb)
      · simp only [ht, if_false]; exact hb
  have hlen : l.length < η.n := by have := hh.len; simp at this; omega
  refine ⟨.ret y, l ++ x' :: r, ⟨_, .ret (.d y), η.set l.length e1.c, hle.toK _, ⟨y, rfl, rfl⟩, ⟨fun t z hz => ?_, ?_, fun t ht => ?_⟩, rfl, rfl⟩, ⟨v, rfl, g5⟩, hH.upd hx.size hblk hnew g4 g2, ⟨hx.os, hx.tape, hx.output, hx.size, fun b hb hn => hblk b hb (fun hm => hn (by simp only [ids_append, ids_cons, List.mem_append]; exact .inr (.inl hm))), fun b hb => ?_⟩⟩
  · simp only [Hp.set] at hz
    rcases Tr.get_put 24 η.e l.length t (some e1.c) z hz with ⟨rfl, q1⟩ | ⟨hne, q1⟩
    · cases q1; exact ⟨x', nth_mid _ _ _, g1⟩
    · obtain ⟨z', q2, q3⟩ := hh.en t z q1
      exact ⟨z', by rw [nth_other hne]; exact q2, q3.mono hle (by funext n; exact hset t hne n)⟩
  · have := hh.len; simpa [Hp.set] using this
  · simp only [Hp.set] at ht
    have hne : t ≠ l.length := by omega
    simp only [hne, if_false]
    exact hh.dom t ht
  · simp only [ids_append, ids_cons, List.mem_append] at hb ⊢
    rcases hb with hb | hb | hb
    · exact .inl (.inl hb)
    · rcases hnew b hb with hb | hb
      · exact .inl (.inr (.inl hb))
      · exact .inr hb
    · exact .inl (.inr (.inr hb))
theorem DWP.callS {dst : Option Nat} {f : Operand} {args : List Operand} {g : FuncId} {cs xs xs' : List CV} {ce : CEnt} {e0 e1 : SEnt} {y : AV} {tys : Array TypeId} {ty : TypeId} {pos : String} {after : Array Edge} (i : Nat)
    (h : SPure E g xs e0 y e1) (hc : calleeC σ f args = some (g, cs)) (hr : renL i cs = some xs') (hx : xs' = xs) (hi : η.e.get i = some ce) (hs : SImp ce e0) (hd : dstB N dst = true)
    (k1 : DWP E N K (.ops all rest :: k) Q (putT σ dst (.d y)) (η.set i e1.c)) :
    DWP E N K (.ops all (⟨dst, .call { callee := .value f, args := args.toArray, argTypes := tys }, ty, pos, after, none⟩ :: rest) :: k) Q σ η := by
  subst hx
  exact DO.call (h.frame hr hi hs) hc hd (fun x η' hq => by obtain ⟨e, rfl⟩ := hq; cases e; exact k1) (fun x η' hq => by cases hq.1)
def faultO (ty : Nat) (z : AV) : Option (Int × Int) := match z with
  | .ifc t (.agg [.v (.int .i64 a), .v (.int .i64 b)]) => bif Nat.beq t ty then some (a, b) else none
  | _ => none
def ctR {α β : Type} (ty : Nat) (o : Option (Res α)) (g : Int → Int → Option β) (f : α → Option β) : Option β := match o with
  | some (.ret x) => f x
  | some (.pan z) => (faultO ty z).bind fun p => g p.1 p.2
  | none => none
theorem DEff.callS {f : Operand} {args : List Operand} {g : FuncId} {cs xs xs' : List CV} {ce : CEnt} {e0 e1 : SEnt} {y : AV} {tys : Array TypeId} (i : Nat) (ho : o.op = .call { callee := .value f, args := args.toArray, argTypes := tys })
    (h : SPure E g xs e0 y e1) (hc : calleeC σ f args = some (g, cs)) (hr : renL i cs = some xs') (hx : xs' = xs) (hi : η.e.get i = some ce) (hs : SImp ce e0) : DEff E N o σ η (fun r η' => r = .ret (.d y) ∧ η' = η.set i e1.c) := by
  subst hx; exact DEff.call ho (h.frame hr hi hs) hc
theorem SPure.walk {g : FuncId} {fn : Func} {c : Code} {xs : List CV} {rs : List ResultVar} {nt : Nat} {e0 e1 : SEnt} {y : AV} (hf : E.P.funcs[g]? = some fn) (hb : fn.body = some c) (hname : (fn.name == "runtime.NumGoroutine") = false) (hrs : fn.results = rs.toArray) (hnt : fn.ntmps = nt) (hn : Nat.ble xs.length nt = true)
    (h : DWP E nt 1 [.code c] (RD E.T rs (SEnds y e1)) (ofArgs 0 xs) (ofH [e0.c])) : SPure E g xs e0 y e1 := DCall.enter hf hb hname rs hrs nt hnt hn h
theorem ImpR.replicate {a b : List AV} (h : ImpL a b) : ∀ m : Nat, ImpR (List.replicate m a) (List.replicate m b)
  | 0 => .nil
  | m + 1 => .cons h (ImpR.replicate h m)
theorem DWP.make {d : Nat} {t : TypeId} {p q : Operand} {ty : TypeId} {pos : String} {after : Array Edge} {e kk sz by' sz' by'' : Nat} {z z' : List Value} {td' : TD} {kl kc : IntKind} {li ci : Int} (l : Nat)
    (hx : cev σ p = some (.d (.v (.int kl li)))) (hli : li = (l : Int)) (hy : cev σ q = some (.d (.v (.int kc ci)))) (hci : ci = (l : Int)) (ht : tget E.T t = some ⟨.slice e kk, sz, by', z⟩) (hte : tget E.T e = some ⟨td', sz', by'', z'⟩)
    (hk : Nat.ble 1 kk = true) (hby : Nat.ble 1 by'' = true) (hd : Nat.blt d N = true) (hb : l * by'' ≤ 140737488355328)
    (h : DWP E N K (.ops all rest :: k) Q (putT σ (some d) (.os η.n l)) (η.push (.row e kk (List.replicate l (z'.map .v))))) : DWP E N K (.ops all (⟨some d, .makeSlice t p q, ty, pos, after, none⟩ :: rest) :: k) Q σ η :=
  DO.make l l hb (Nat.le_refl _) hx hli hy hci ht hte hk hby hd h
def FEnds (e k : Nat) (rows : List (List AV)) : DR → Hp → Prop
  | .ret x, η => (∃ j n rows0, x = .os j n ∧ n = rows0.length ∧ η.e.get j = some (.row e k rows0) ∧ ImpR rows0 rows) ∨ (x = .d (.v (.slice none 0 0)) ∧ rows = [])
  | .pan _, _ => False
def FPure (E : Env) (g : FuncId) (args : List AV) (e k : Nat) (rows : List (List AV)) : Prop := DCall E g (args.map .d) Hp.nil (FEnds e k rows)
theorem FPure.frame {g : FuncId} {args : List AV} {e k : Nat} {rows : List (List AV)} {cs : List CV} (h : FPure E g args e k rows) (hc : allD cs = some args) : DCall E g cs η (fun r η' => r = .ret (.os η.n rows.length) ∧ η' = η.push (.row e k rows)) := fun ρ ys ηB hys hh => by
  have := instL_allD hc hys; subst this
  have h0 := h ⟨fun _ => none, fun _ _ => none⟩ ys [] (instL_d ys) (HS.nil _ fun _ => ⟨rfl, fun _ => rfl⟩)
  refine ⟨h0.1, fun F w vs hH hR => ?_⟩
  have hA : Al (fun b => F b ∨ b ∈ ids ηB) [] = Al F ηB := funext fun b => propext (by simp [Al, ids])
  have hH0 : HOk E.toCx.G w (fun b => F b ∨ b ∈ ids ηB) [] := ⟨by simp, by simp [ids], by simp [ids], fun b hb => hb.elim (hH.bound b) (hH.lt b), by rw [hA]; exact hH.glob⟩
  refine (h0.2 _ w vs hH0 (by rw [hA]; exact hR)).mono ?_
  rintro e' w' ⟨r', ηB', ⟨ρ', d, η1, h1, h2, h3, h4⟩, hv, hh', hx⟩
  cases d with
  | pan z => exact h4.elim
  | ret z0 =>
  obtain ⟨u, rfl, h2⟩ := h2
  obtain ⟨v, rfl, hv⟩ := hv
  have hsame : ∀ b, b < w.heap.size → w'.heap[b]? = w.heap[b]? := fun b hb => hx.block b hb (by simp [ids])
  have hlen := hh.len
  -- the row
  obtain ⟨a, c, rfl, g2, g3⟩ : ∃ a c, v = .slice a rows.length c ∧ (Ent.row (.slice a rows.length c) e k rows).ok w' (Al F (ηB ++ [.row (.slice a rows.length c) e k rows])) ∧ ∀ b ∈ (Ent.row (.slice a rows.length c) e k rows).ids, w.heap.size ≤ b := by
    rcases h4 with ⟨j, n, rows0, rfl, rfl, hg, hi⟩ | ⟨rfl, rfl⟩
    · obtain ⟨q, hq1, hq2⟩ := h3.en j _ hg
      obtain ⟨⟨a, c, hb, rfl⟩, _⟩ := hq2
      simp only [Inst] at h2
      obtain ⟨a', c', t', hb', rfl⟩ := h2
      rw [hb] at hb'; cases hb'
      have hl := hi.length
      simp only [Rel] at hv; subst hv
      obtain ⟨vs', f4, f5⟩ := ents_nth hh' hq1
      have hnew : ∀ b ∈ (Ent.row (.slice a rows0.length c) e k rows0).ids, w.heap.size ≤ b := fun b hb => (hx.new b (List.mem_flatMap.2 ⟨_, List.mem_of_getElem? (by rw [← nth_eq]; exact hq1), hb⟩)).elim (fun h => by simp [ids] at h) id
      refine ⟨a, c, by rw [hl], ⟨vs', (hi.rel f4).keep ⟨Nat.le_refl _, fun b _ ha => ⟨⟨fun hF => ha.1 (.inl hF), fun hm => ?_⟩, rfl⟩⟩, by rw [hl]; exact f5⟩, fun b hb => hnew b (by cases a with | none => simp [Ent.ids, Value.ownBlock] at hb | some a => simpa [Ent.ids, Value.ownBlock] using hb)⟩
      rw [ids_append, List.mem_append] at hm
      rcases hm with hm | hm
      · exact ha.1 (.inr hm)
      · exact ha.2 (List.mem_flatMap.2 ⟨_, List.mem_of_getElem? (by rw [← nth_eq]; exact hq1), by cases a with | none => simp [ids, Ent.ids, Value.ownBlock] at hm | some a => simpa [ids, Ent.ids, Value.ownBlock] using hm⟩)
    · simp only [Inst] at h2; subst h2
      simp only [Rel] at hv; subst hv
      exact ⟨none, 0, rfl, ⟨[], by simp [RelRows], by simp, .inl ⟨rfl, rfl⟩⟩, by simp [Ent.ids, Value.ownBlock]⟩
  have hdom := hh.dom η.n (Nat.le_refl _)
  have hle : ρ.le (ρ.setS η.n rows.length (a, c)) := Rho.le_setS fun y hy => by rw [hdom.2] at hy; cases hy
  have hbn : (ρ.setS η.n rows.length (a, c)).s η.n rows.length = some (a, c) := by simp [Rho.setS]
  refine ⟨.ret (.os 0 a rows.length c), ηB ++ [.row (.slice a rows.length c) e k rows], ⟨_, .ret (.os η.n rows.length), η.push (.row e k rows), hle.toK _, ⟨_, rfl, by simp only [Inst]; exact ⟨_, _, _, hbn, rfl⟩⟩, ?_, rfl, rfl⟩, ⟨_, rfl, by simp only [Rel]⟩, hH.push hx.size hsame g3 (by simp only [Ent.ids]; cases (Value.slice a rows.length c).ownBlock <;> simp) g2, ⟨hx.os, hx.tape, hx.output, hx.size, fun b hb _ => hsame b hb, fun b hb => ?_⟩⟩
  · refine hh.push hle (fun i hi => by funext m; simp [Rho.setS, hi]) (fun _ _ => rfl) ⟨⟨a, c, hbn, rfl⟩, fun m hm => ?_⟩
    have : m ≠ rows.length := by omega
    simp only [Rho.setS, this, and_false, if_false]
    exact hdom.2 m
  · rw [ids_append, List.mem_append] at hb
    rcases hb with hb | hb
    · exact .inl hb
    · exact .inr (g3 b (by simpa [ids] using hb))
theorem FPure.walk {g : FuncId} {fn : Func} {c : Code} {xs : List AV} {rs : List ResultVar} {nt : Nat} {e kk : Nat} {rows : List (List AV)} (hf : E.P.funcs[g]? = some fn) (hb : fn.body = some c) (hname : (fn.name == "runtime.NumGoroutine") = false) (hrs : fn.results = rs.toArray) (hnt : fn.ntmps = nt) (hn : Nat.ble xs.length nt = true)
    (h : DWP E nt 0 [.code c] (RD E.T rs (FEnds e kk rows)) (ofArgs 0 (xs.map .d)) Hp.nil) : FPure E g xs e kk rows := DCall.enter hf hb hname rs hrs nt hnt (by simpa using hn) h
def SFEnds (us : List AV) (e k : Nat) (rows : List (List AV)) : DR → Hp → Prop
  | .ret x, η => ∃ cs zs ns ms j, η.e.get 0 = some (.box cs) ∧ frzL η.e 60 cs = some (zs, ns, ms) ∧ eqs ns ∧ (ms.all fun p => Nat.blt 0 p.1 && !Nat.beq p.1 j) = true ∧ ImpL zs us ∧ ((∃ n rows0, x = .os j n ∧ n = rows0.length ∧ 0 < j ∧ η.e.get j = some (.row e k rows0) ∧ ImpR rows0 rows) ∨ (x = .d (.v (.slice none 0 0)) ∧ rows = []))
  | .pan _, _ => False
def SFPure (E : Env) (g : FuncId) (args : List CV) (us0 us : List AV) (e k : Nat) (rows : List (List AV)) : Prop := DCall E g args (ofH [(SEnt.box us0).c]) (SFEnds us e k rows)
theorem ids_two {X Y : Ent} {l : List Ent} {j : Nat} (h0 : nth l 0 = some X) (hj : nth l j = some Y) (hp : 0 < j) (hY : Y.ids.Nodup) (hn : (ids l).Nodup) : (ids [X, Y]).Nodup ∧ ∀ b ∈ ids [X, Y], b ∈ ids l := by
  cases l with
  | nil => simp [nth] at h0
  | cons z l =>
    simp only [nth_eq, List.getElem?_cons_zero, Option.some.injEq] at h0
    subst h0
    obtain ⟨m, rfl⟩ : ∃ m, j = m + 1 := ⟨j - 1, by omega⟩
    simp only [nth_eq, List.getElem?_cons_succ] at hj
    have hm : ∀ b ∈ Y.ids, b ∈ ids l := fun b hb => List.mem_flatMap.2 ⟨_, List.mem_of_getElem? hj, hb⟩
    simp only [ids_cons, List.nodup_append] at hn ⊢
    simp only [show ids [] = [] from rfl, List.append_nil, List.mem_append]
    exact ⟨⟨hn.1, ⟨hY, List.nodup_nil, by simp⟩, fun a ha b hb => hn.2.2 a ha b (hm b hb)⟩, fun b hb => hb.imp id (hm b)⟩
theorem SFPure.frame {g : FuncId} {cs args : List CV} {i : Nat} {ce : CEnt} {us0 us : List AV} {e k : Nat} {rows : List (List AV)} (h : SFPure E g args us0 us e k rows) (hr : renL i cs = some args) (hi : η.e.get i = some ce) (hs : SImp ce (.box us0)) :
    DCall E g cs η (fun r η' => r = .ret (.os η.n rows.length) ∧ η' = (η.set i (SEnt.box us).c).push (.row e k rows)) := fun ρ ys ηB hys hh => by
  obtain ⟨x, hx1, hx2⟩ := hh.en i _ hi
  obtain ⟨l, r, rfl, rfl⟩ := split_nth hx1
  obtain ⟨x0, hx0, hids, hxe⟩ : ∃ x0 : Ent, EInst (ρ.one l.length) 0 (SEnt.box us0).c x0 ∧ x0.ids = x.ids ∧ ∀ w A, x.ok w A → x0.ok w A := by
    cases hs with
    | box h1 h2 =>
      obtain ⟨b, cs', h3, rfl, h4⟩ := hx2
      have := instL_allD h1 h4; subst this
      refine ⟨.box b us0, ⟨b, us0, by simpa [Rho.one] using h3, rfl, instL_d _⟩, rfl, fun w A => ?_⟩
      rintro ⟨e, vs, h5, h6⟩
      exact ⟨e, vs, h5, h2.rel h6⟩
  have hS0 : HS (ρ.one l.length) (ofH [(SEnt.box us0).c]) [x0] := by
    refine ⟨fun t z hz => ?_, rfl, fun t ht => ?_⟩
    · simp only [ofH, ofE] at hz
      rcases Tr.get_put 24 .lf 0 t (some (SEnt.box us0).c) z hz with ⟨rfl, h1⟩ | ⟨_, h1⟩
      · cases h1; exact ⟨x0, rfl, hx0⟩
      · simp [Tr.get_lf] at h1
    · have : t ≠ 0 := by simp [ofH] at ht; omega
      exact ⟨by simp [Rho.one, this], fun n => by simp [Rho.one, this]⟩
  have h0 := h (ρ.one l.length) ys [x0] (renL_inst hr hys) hS0
  refine ⟨h0.1, fun F w vs hH hR => ?_⟩
  let F0 : Nat → Prop := fun b => F b ∨ b ∈ ids (l ++ r)
  have hp : (l ++ x :: r).Perm ([x] ++ (l ++ r)) := List.perm_middle
  have hHp : HOk E.toCx.G w F ([x] ++ (l ++ r)) := hH.perm hp
  have hAx : Al F0 [x0] = Al F (l ++ x :: r) := by
    rw [Al_perm hp, ← Al_front]; funext b; simp only [Al, ids_cons, hids, F0]
  have hnd := hHp.nodup
  rw [ids_append, List.nodup_append] at hnd
  have hH0 : HOk E.toCx.G w F0 [x0] := by
    refine ⟨fun z hz => ?_, ?_, fun b hb => ?_, fun b hb => ?_, ?_⟩
    · simp only [List.mem_singleton] at hz; subst hz
      rw [hAx]; exact hxe _ _ (hH.ents x (by simp))
    · have := hnd.1; simpa only [ids, List.flatMap_cons, List.flatMap_nil, List.append_nil, hids] using this
    · simp only [ids, List.flatMap_cons, List.flatMap_nil, List.append_nil, hids] at hb
      have hb' : b ∈ ids [x] := by simpa [ids] using hb
      rintro (hF | hl)
      · exact hHp.free b (by rw [ids_append]; exact List.mem_append_left _ hb') hF
      · exact hnd.2.2 b hb' b hl rfl
    · rcases hb with hF | hl
      · exact hH.bound b hF
      · exact hHp.lt b (by rw [ids_append]; exact List.mem_append_right _ hl)
    · rw [hAx]; exact hH.glob
  refine (h0.2 F0 w vs hH0 (by rw [hAx]; exact hR)).mono ?_
  rintro e' w' ⟨r', ηB', ⟨ρ', d, η1, h1, h2, h3, h4⟩, hv, hh', hx⟩
  cases d with
  | pan z => exact h4.elim
  | ret z0 =>
  obtain ⟨u, rfl, h2⟩ := h2
  obtain ⟨v, rfl, hv⟩ := hv
  have h10 := h1 0 (by simp [ofH])
  obtain ⟨cs', zs, ns, ms, j, q1, q2, q3, q4, q5, q6⟩ := h4
  obtain ⟨q, hq1, hq2⟩ := h3.en 0 _ q1
  obtain ⟨b, us', hb, rfl, hi'⟩ := hq2
  obtain ⟨e1', vs', hheap, hvs⟩ := ents_nth hh' hq1
  obtain ⟨f1, _⟩ := frzL_ok h3 hh' (ms.map (·.1)) 60 q2 q3 (fun p hp => List.mem_map.2 ⟨p, hp, rfl⟩) hi' hvs
  have hms : ∀ t, (t = 0 ∨ t = j) → t ∉ ms.map (·.1) := fun t ht hm => by
    obtain ⟨p, hp, hp0⟩ := List.mem_map.1 hm
    have := List.all_eq_true.1 q4 p hp
    simp only [Bool.and_eq_true, Bool.not_eq_true'] at this
    rcases ht with rfl | rfl
    · rw [hp0] at this; simp at this
    · rw [hp0] at this; have h2 := this.2; rw [Nat.beq_refl] at h2; cases h2
  -- the row that is made, and the two together
  obtain ⟨a, c, R, rfl, rfl, hR1, hR2, hR3⟩ : ∃ a c R, v = .slice a rows.length c ∧ R = Ent.row (.slice a rows.length c) e k rows ∧ (ids [Ent.box b us, R]).Nodup ∧ (∀ t ∈ ids [Ent.box b us, R], t ∈ ids ηB') ∧ (∀ A, (∀ t, AlX F0 ηB' (ms.map (·.1)) t → A t) → (R.ok w' A ∧ (Ent.box b us).ok w' A)) := by
    have hbox : ∀ A, (∀ t, AlX F0 ηB' (ms.map (·.1)) t → A t) → (Ent.box b us).ok w' A := fun A hA => ⟨e1', vs', hheap, q5.rel (f1.keep ⟨Nat.le_refl _, fun t _ ht => ⟨hA t ht, rfl⟩⟩)⟩
    rcases q6 with ⟨n, rows0, rfl, rfl, hj, hg, hi2⟩ | ⟨rfl, rfl⟩
    · obtain ⟨q, hq1', hq2'⟩ := h3.en j _ hg
      obtain ⟨⟨a, c, hb', rfl⟩, _⟩ := hq2'
      simp only [Inst] at h2
      obtain ⟨a', c', t', hb'', rfl⟩ := h2
      rw [hb'] at hb''; cases hb''
      have hl := hi2.length
      simp only [Rel] at hv; subst hv
      obtain ⟨vs2, f4, f5⟩ := ents_nth hh' hq1'
      have hnr : (Ent.row (.slice a rows0.length c) e k rows0).ids.Nodup := by simp only [Ent.ids]; cases (Value.slice a rows0.length c).ownBlock <;> simp
      have h2 := ids_two hq1 hq1' hj hnr hh'.nodup
      have hid : ids [Ent.box b us, Ent.row (.slice a rows.length c) e k rows] = ids [Ent.box b us', Ent.row (.slice a rows0.length c) e k rows0] := by
        cases a <;> simp [ids, Ent.ids, Value.ownBlock]
      refine ⟨a, c, _, by rw [hl], rfl, by rw [hid]; exact h2.1, by rw [hid]; exact h2.2, fun A hA => ⟨⟨vs2, (hi2.rel f4).keep ⟨Nat.le_refl _, fun t _ ht => ⟨hA t (Al_AlX _ ht), rfl⟩⟩, by rw [hl]; exact f5⟩, hbox A hA⟩⟩
    · simp only [Inst] at h2; subst h2
      simp only [Rel] at hv; subst hv
      refine ⟨none, 0, _, rfl, rfl, by simp [ids, Ent.ids, Value.ownBlock], fun t ht => List.mem_flatMap.2 ⟨_, List.mem_of_getElem? (by rw [← nth_eq]; exact hq1), by simpa [ids, Ent.ids, Value.ownBlock] using ht⟩, fun A hA => ⟨⟨[], by simp [RelRows], by simp, .inl ⟨rfl, rfl⟩⟩, hbox A hA⟩⟩
  generalize hRd : Ent.row (.slice a rows.length c) e k rows = R at *
  have hsub : ∀ t, AlX F0 ηB' (ms.map (·.1)) t → Al F0 [Ent.box b us, R] t := fun t ht => by
    refine ⟨ht.1, fun hm => ?_⟩
    rw [show [Ent.box b us, R] = [Ent.box b us] ++ [R] from rfl, ids_append, List.mem_append] at hm
    rcases hm with hm | hm
    · exact ht.2 0 _ hq1 (hms 0 (.inl rfl)) (by simpa [ids, Ent.ids] using hm)
    · rcases q6 with ⟨n, rows0, rfl, rfl, hj, hg, hi2⟩ | ⟨rfl, rfl⟩
      · obtain ⟨q, hq1', hq2'⟩ := h3.en j _ hg
        obtain ⟨⟨a2, c2, hb', rfl⟩, _⟩ := hq2'
        simp only [Inst] at h2
        obtain ⟨a', c', t', hb'', h2'⟩ := h2
        rw [hb'] at hb''; cases hb''
        subst h2'
        simp only [Rel] at hv
        injection hv with hv1 hv2 hv3
        subst hv1
        refine ht.2 j _ hq1' (hms j (.inr rfl)) ?_
        subst hRd
        cases a with | none => simp [ids, Ent.ids, Value.ownBlock] at hm | some a => simpa [ids, Ent.ids, Value.ownBlock] using hm
      · simp only [Inst] at h2; subst h2
        simp only [Rel] at hv
        injection hv with hv1 hv2 hv3
        subst hv1; subst hRd
        simp [ids, Ent.ids, Value.ownBlock] at hm
  have hh2 : HOk E.toCx.G w' F0 [Ent.box b us, R] := by
    refine ⟨fun z hz => ?_, hR1, fun t ht => hh'.free t (hR2 t ht), hh'.bound, hh'.glob.keep ⟨Nat.le_refl _, fun t _ ht => ⟨hsub t (Al_AlX _ ht), rfl⟩⟩⟩
    have := hR3 _ hsub
    simp only [List.mem_cons, List.not_mem_nil, or_false] at hz
    rcases hz with rfl | rfl
    · exact this.2
    · exact this.1
  have hext : Ext [x] w [Ent.box b us, R] w' := ⟨hx.os, hx.tape, hx.output, hx.size, fun t ht hn => hx.block t ht (by simpa [ids, hids] using hn), fun t ht => (hx.new t (hR2 t ht)).imp (fun h => by simpa [ids, hids] using h) id⟩
  obtain ⟨k1, k2⟩ := HOk.back hHp hh2 hext
  have hp2 : ([Ent.box b us, R] ++ (l ++ r)).Perm ((l ++ Ent.box b us :: r) ++ [R]) := by
    have h1 : ((l ++ Ent.box b us :: r) ++ [R]).Perm (R :: (l ++ Ent.box b us :: r)) := List.perm_append_singleton _ _
    refine List.Perm.trans ?_ h1.symm
    refine List.Perm.trans (List.Perm.swap _ _ _) ?_
    refine List.Perm.cons _ ?_
    exact (List.perm_middle (l₁ := l) (l₂ := r) (a := Ent.box b us)).symm
  have hle : ρ.le ⟨fun t => if t = l.length then ρ'.b 0 else ρ.b t, fun t n => if t = l.length then ρ'.s 0 n else ρ.s t n⟩ := by
    refine ⟨fun t b hb => ?_, fun t n b hb => ?_⟩
    · by_cases ht : t = l.length
      · subst ht; simp only [if_true]; exact h10.1 b (by simpa [Rho.one] using hb)
      · simp only [ht, if_false]; exact hb
    · by_cases ht : t = l.length
      · subst ht; simp only [if_true]; exact h10.2 n b (by simpa [Rho.one] using hb)
      · simp only [ht, if_false]; exact hb
  have hset : ∀ (t : Nat), t ≠ l.length → ∀ n, (fun (t n : Nat) => if t = l.length then ρ'.s 0 n else ρ.s t n) t n = ρ.s t n := fun t ht n => by simp [ht]
  have hlen : l.length < η.n := by have := hh.len; simp at this; omega
  have hHS1 : HS ⟨fun t => if t = l.length then ρ'.b 0 else ρ.b t, fun t n => if t = l.length then ρ'.s 0 n else ρ.s t n⟩ (η.set l.length (SEnt.box us).c) (l ++ Ent.box b us :: r) := by
    refine ⟨fun t z hz => ?_, ?_, fun t ht => ?_⟩
    · simp only [Hp.set] at hz
      rcases Tr.get_put 24 η.e l.length t (some (SEnt.box us).c) z hz with ⟨rfl, q1⟩ | ⟨hne, q1⟩
      · cases q1; exact ⟨_, nth_mid _ _ _, ⟨b, us, by simpa using hb, rfl, instL_d _⟩⟩
      · obtain ⟨z', q2, q3⟩ := hh.en t z q1
        exact ⟨z', by rw [nth_other hne]; exact q2, q3.mono hle (by funext n; exact hset t hne n)⟩
    · have := hh.len; simpa [Hp.set] using this
    · simp only [Hp.set] at ht
      have hne : t ≠ l.length := by omega
      simp only [hne, if_false]
      exact hh.dom t ht
  have hdom := hHS1.dom η.n (Nat.le_refl _)
  generalize hρ1 : (⟨fun t => if t = l.length then ρ'.b 0 else ρ.b t, fun t n => if t = l.length then ρ'.s 0 n else ρ.s t n⟩ : Rho) = ρ1 at *
  have hle2 : ρ1.le (ρ1.setS η.n rows.length (a, c)) := Rho.le_setS fun y hy => by rw [hdom.2] at hy; cases hy
  have hbn : (ρ1.setS η.n rows.length (a, c)).s η.n rows.length = some (a, c) := by simp [Rho.setS]
  refine ⟨.ret (.os 0 a rows.length c), (l ++ Ent.box b us :: r) ++ [R], ⟨_, .ret (.os η.n rows.length), (η.set l.length (SEnt.box us).c).push (.row e k rows), (hle.trans hle2).toK _, ⟨_, rfl, by simp only [Inst]; exact ⟨_, _, _, hbn, rfl⟩⟩, ?_, rfl, rfl⟩, ⟨_, rfl, by simp only [Rel]⟩, k1.perm hp2, ⟨hx.os, hx.tape, hx.output, hx.size, fun t ht hn => k2.block t ht (fun hm => hn ((ids_perm hp).mem_iff.2 hm)), fun t ht => (k2.new t ((ids_perm hp2).mem_iff.2 ht)).imp (fun hm => (ids_perm hp).mem_iff.2 hm) id⟩⟩
  refine hHS1.push hle2 (fun i hi => by funext m; simp [Rho.setS]; intro h; exact absurd h hi) (fun _ _ => rfl) ?_
  subst hRd
  refine ⟨⟨a, c, hbn, rfl⟩, fun m hm => ?_⟩
  have : m ≠ rows.length := by omega
  simp only [Rho.setS, this, and_false, if_false]
  exact hdom.2 m
theorem SFPure.walk {g : FuncId} {fn : Func} {c : Code} {xs : List CV} {rs : List ResultVar} {nt : Nat} {us0 us : List AV} {e kk : Nat} {rows : List (List AV)} (hf : E.P.funcs[g]? = some fn) (hb : fn.body = some c) (hname : (fn.name == "runtime.NumGoroutine") = false) (hrs : fn.results = rs.toArray) (hnt : fn.ntmps = nt) (hn : Nat.ble xs.length nt = true)
    (h : DWP E nt 1 [.code c] (RD E.T rs (SFEnds us e kk rows)) (ofArgs 0 xs) (ofH [(SEnt.box us0).c])) : SFPure E g xs us0 us e kk rows := DCall.enter hf hb hname rs hrs nt hnt hn h
end
end Go.Bw
end

section
noncomputable section
namespace Go.Bw
open Go
def Le {α : Type} (a b : Option α) : Prop := ∀ r, a = some r → b = some r
section
variable {α β : Type}
theorem Le.refl (a : Option α) : Le a a := fun _ h => h
theorem Le.trans {a b c : Option α} (h : Le a b) (g : Le b c) : Le a c := fun r hr => g r (h r hr)
theorem Le.zero {a b : Option α} (h : a = none) : Le a b := fun r hr => by rw [h] at hr; cases hr
theorem Le.bif {c : Bool} {a a' b b' : Option α} (h : Le a a') (g : Le b b') : Le (bif c then a else b) (bif c then a' else b') := by cases c <;> assumption
theorem Le.bind {a a' : Option α} {f f' : α → Option β} (h : Le a a') (g : ∀ y, Le (f y) (f' y)) : Le (a.bind f) (a'.bind f') := fun r hr => by
  obtain ⟨y, h1, h2⟩ := bindO hr
  rw [h y h1]; exact g y r h2
theorem Le.bindR {a a' : Option (Res α)} {f f' : α → Option (Res β)} (h : Le a a') (g : ∀ y, Le (f y) (f' y)) : Le (bindR a f) (bindR a' f') := fun r hr => by
  rcases bindR_some hr with ⟨z, h1, rfl⟩ | ⟨y, h1, h2⟩
  · rw [h _ h1]; rfl
  · rw [h _ h1]; exact g y r h2
theorem Le.ctR {ty : Nat} {a a' : Option (Res α)} {g g' : Int → Int → Option β} {f f' : α → Option β} (h : Le a a') (hg : ∀ x y, Le (g x y) (g' x y)) (hf : ∀ y, Le (f y) (f' y)) : Le (ctR ty a g f) (ctR ty a' g' f') := fun r hr => by
  cases a with
  | none => cases hr
  | some x =>
    rw [h _ rfl]
    cases x with
    | ret x => exact hf x r hr
    | pan z =>
      obtain ⟨p, h1, h2⟩ := bindO hr
      show (faultO ty z).bind _ = some r
      rw [h1]; exact hg _ _ r h2
noncomputable def lim (f : Nat → Option α) : Option α := open Classical in if h : ∃ n r, f n = some r then f (Classical.choose h) else none
def Up (f : Nat → Option α) : Prop := ∀ n, Le (f n) (f (n + 1))
theorem Up.le {f : Nat → Option α} (h : Up f) {n : Nat} : ∀ m, n ≤ m → Le (f n) (f m)
  | 0, hm => by have : n = 0 := by omega
                subst this; exact Le.refl _
  | m + 1, hm => by
    rcases Nat.eq_or_lt_of_le hm with rfl | h1
    · exact Le.refl _
    · exact (h.le m (by omega)).trans (h m)
theorem lim_ex {f : Nat → Option α} {r : α} (h : lim f = some r) : ∃ n, f n = some r := by
  unfold lim at h
  split at h
  · rename_i h0; exact ⟨_, h⟩
  · cases h
theorem lim_of {f : Nat → Option α} (hu : Up f) {n : Nat} {r : α} (h : f n = some r) : lim f = some r := by
  have h0 : ∃ n r, f n = some r := ⟨n, r, h⟩
  unfold lim
  rw [dif_pos h0]
  obtain ⟨r', hr'⟩ := Classical.choose_spec h0
  have h1 := hu.le (max n (Classical.choose h0)) (Nat.le_max_left ..) r h
  have h2 := hu.le (max n (Classical.choose h0)) (Nat.le_max_right ..) r' hr'
  rw [h1] at h2; cases h2; exact hr'
theorem lim_eq {f : Nat → Option α} (hu : Up f) {v : Option α} (h : ∀ r, v = some r ↔ ∃ n, f n = some r) : lim f = v := by
  cases v with
  | none =>
    cases hl : lim f with
    | none => rfl
    | some r => have := (h r).2 (lim_ex hl); cases this
  | some r => obtain ⟨n, hn⟩ := (h r).1 rfl; exact lim_of hu hn
def Lm (f : Nat → Option α) (v : Option α) : Prop := Up f ∧ ∀ r, v = some r ↔ ∃ n, f n = some r
theorem Lm.lim {f : Nat → Option α} {v : Option α} (h : Lm f v) : Bw.lim f = v := lim_eq h.1 h.2
theorem Lm.of {f : Nat → Option α} (h : Up f) : Lm f (Bw.lim f) := ⟨h, fun _ => ⟨lim_ex, fun ⟨_, hn⟩ => lim_of h hn⟩⟩
theorem Lm.const (o : Option α) : Lm (fun _ => o) o := ⟨fun _ => Le.refl _, fun _ => ⟨fun h => ⟨0, h⟩, fun ⟨_, h⟩ => h⟩⟩
theorem Lm.bif {c : Bool} {f g : Nat → Option α} {v w : Option α} (h : Lm f v) (k : Lm g w) : Lm (fun n => bif c then f n else g n) (bif c then v else w) := by cases c <;> assumption
theorem Lm.bind {f : Nat → Option α} {g : Nat → α → Option β} {v : Option α} {w : α → Option β} (h : Lm f v) (k : ∀ y, Lm (fun n => g n y) (w y)) : Lm (fun n => (f n).bind (g n)) (v.bind w) := by
  refine ⟨fun n => Le.bind (h.1 n) fun y => (k y).1 n, fun r => ⟨fun hr => ?_, ?_⟩⟩
  · obtain ⟨y, h1, h2⟩ := bindO hr
    obtain ⟨n, hn⟩ := (h.2 y).1 h1
    obtain ⟨m, hm⟩ := ((k y).2 r).1 h2
    refine ⟨max n m, ?_⟩
    show (f (max n m)).bind (g (max n m)) = _
    rw [h.1.le _ (Nat.le_max_left ..) y hn]; exact (k y).1.le _ (Nat.le_max_right ..) r hm
  · rintro ⟨n, hn⟩
    obtain ⟨y, h1, h2⟩ := bindO hn
    rw [(h.2 y).2 ⟨n, h1⟩]; exact ((k y).2 r).2 ⟨n, h2⟩
theorem Lm.bindR {f : Nat → Option (Res α)} {g : Nat → α → Option (Res β)} {v : Option (Res α)} {w : α → Option (Res β)} (h : Lm f v) (k : ∀ y, Lm (fun n => g n y) (w y)) : Lm (fun n => bindR (f n) (g n)) (Bw.bindR v w) := by
  refine ⟨fun n => Le.bindR (h.1 n) fun y => (k y).1 n, fun r => ⟨fun hr => ?_, ?_⟩⟩
  · rcases bindR_some hr with ⟨z, h1, rfl⟩ | ⟨y, h1, h2⟩
    · obtain ⟨n, hn⟩ := (h.2 _).1 h1
      exact ⟨n, by show Bw.bindR (f n) _ = _; rw [hn]; rfl⟩
    · obtain ⟨n, hn⟩ := (h.2 _).1 h1
      obtain ⟨m, hm⟩ := ((k y).2 r).1 h2
      refine ⟨max n m, ?_⟩
      show Bw.bindR (f (max n m)) (g (max n m)) = _
      rw [h.1.le _ (Nat.le_max_left ..) _ hn]; exact (k y).1.le _ (Nat.le_max_right ..) r hm
  · rintro ⟨n, hn⟩
    rcases bindR_some hn with ⟨z, h1, rfl⟩ | ⟨y, h1, h2⟩
    · rw [(h.2 _).2 ⟨n, h1⟩]; rfl
    · rw [(h.2 _).2 ⟨n, h1⟩]; exact ((k y).2 r).2 ⟨n, h2⟩
theorem Lm.ctR {ty : Nat} {f : Nat → Option (Res α)} {g : Nat → Int → Int → Option β} {k : Nat → α → Option β} {v : Option (Res α)} {w : Int → Int → Option β} {z : α → Option β} (h : Lm f v) (hg : ∀ x y, Lm (fun n => g n x y) (w x y)) (hk : ∀ y, Lm (fun n => k n y) (z y)) : Lm (fun n => ctR ty (f n) (g n) (k n)) (Bw.ctR ty v w z) := by
  refine ⟨fun n => Le.ctR (h.1 n) (fun x y => (hg x y).1 n) fun y => (hk y).1 n, fun r => ⟨fun hr => ?_, ?_⟩⟩
  · cases v with
    | none => cases hr
    | some x =>
      obtain ⟨n, hn⟩ := (h.2 _).1 rfl
      cases x with
      | ret y =>
        obtain ⟨m, hm⟩ := ((hk y).2 r).1 hr
        refine ⟨max n m, ?_⟩
        show Bw.ctR ty (f (max n m)) _ _ = _
        rw [h.1.le _ (Nat.le_max_left ..) _ hn]; exact (hk y).1.le _ (Nat.le_max_right ..) r hm
      | pan q =>
        obtain ⟨p, h1, h2⟩ := bindO (f := fun p : Int × Int => w p.1 p.2) hr
        obtain ⟨m, hm⟩ := ((hg p.1 p.2).2 r).1 h2
        refine ⟨max n m, ?_⟩
        show Bw.ctR ty (f (max n m)) _ _ = _
        rw [h.1.le _ (Nat.le_max_left ..) _ hn]
        show (faultO ty q).bind _ = _
        rw [h1]; exact (hg p.1 p.2).1.le _ (Nat.le_max_right ..) r hm
  · rintro ⟨n, hn⟩
    replace hn : Bw.ctR ty (f n) (g n) (k n) = some r := hn
    cases hf : f n with
    | none => rw [hf] at hn; cases hn
    | some x =>
      rw [hf] at hn
      rw [(h.2 _).2 ⟨n, hf⟩]
      cases x with
      | ret y => exact ((hk y).2 r).2 ⟨n, hn⟩
      | pan q =>
        obtain ⟨p, h1, h2⟩ := bindO (f := fun p : Int × Int => g n p.1 p.2) hn
        show (faultO ty q).bind _ = _
        rw [h1]; exact ((hg p.1 p.2).2 r).2 ⟨n, h2⟩
theorem Lm.succ {f : Nat → Option α} {v w : Option α} (h : Lm f v) (g : Lm (fun n => f (n + 1)) w) : v = w := by
  have : ∀ r, v = some r ↔ w = some r := fun r => by
    rw [h.2 r, g.2 r]
    exact ⟨fun ⟨n, hn⟩ => ⟨n, h.1 n r hn⟩, fun ⟨n, hn⟩ => ⟨n + 1, hn⟩⟩
  cases v with
  | none => cases w with
    | none => rfl
    | some r => have := (this r).2 rfl; cases this
  | some r => exact ((this r).1 rfl).symm
theorem Le.conv {a a' b b' : Option α} (h : a = a') (g : b = b') (k : Le a' b') : Le a b := by subst h; subst g; exact k
theorem Lm.conv {f g : Nat → Option α} {v : Option α} (h : ∀ n, f n = g n) (k : Lm g v) : Lm f v := by rw [show f = g from funext h]; exact k
theorem Lm.uniq {f : Nat → Option α} {v w : Option α} (h : Lm f v) (g : Lm f w) : v = w := h.lim.symm.trans g.lim
end
end Go.Bw
end

section
noncomputable section
namespace Go.Bw
open Go
variable {α β γ : Type}
def Tri (o : Option α) (P : α → Prop) : Prop := ∃ r, o = some r ∧ P r
theorem Tri.ret {r : α} {P : α → Prop} (h : P r) : Tri (some r) P := ⟨r, rfl, h⟩
theorem Tri.mono {o : Option α} {P Q : α → Prop} (h : Tri o P) (g : ∀ r, P r → Q r) : Tri o Q := by obtain ⟨r, e, h⟩ := h; exact ⟨r, e, g r h⟩
theorem Tri.bif {c : Bool} {a b : Option α} {P : α → Prop} (h : c = true → Tri a P) (g : c = false → Tri b P) : Tri (bif c then a else b) P := by cases c; exact g rfl; exact h rfl
theorem Tri.bind {o : Option α} {f : α → Option β} {P : α → Prop} {Q : β → Prop} (h : Tri o P) (g : ∀ y, P y → Tri (f y) Q) : Tri (o.bind f) Q := by obtain ⟨r, rfl, h⟩ := h; exact g r h
theorem Tri.eq {o : Option α} {v : α} (h : o = some v) : Tri o (· = v) := ⟨v, h, rfl⟩
theorem Tri.of {o : Option α} {v : α} (h : Tri o (· = v)) : o = some v := by obtain ⟨r, e, rfl⟩ := h; exact e
theorem Tri.conv {o o' : Option α} {P : α → Prop} (e : o = o') (h : Tri o' P) : Tri o P := e ▸ h
theorem Tri.any {o : Option α} {P : α → Prop} (h : Tri o P) : Tri o (fun _ => True) := h.mono fun _ _ => trivial
theorem Tri.and {o : Option α} {P Q : α → Prop} (h : Tri o P) (g : ∀ r, o = some r → Q r) : Tri o (fun r => P r ∧ Q r) := by obtain ⟨r, e, h⟩ := h; exact ⟨r, e, h, g r e⟩
theorem idxO_cast {l : List α} (i : Nat) : idxO l (i : Int) = l[i]? := rfl
theorem idxO_lt {l : List α} {i : Nat} (h : i < l.length) : idxO l (i : Int) = some l[i] := by rw [idxO_cast]; exact List.getElem?_eq_getElem h
theorem Tri.idx {l : List α} {m : Int} (h0 : 0 ≤ m) (h1 : m < l.length) : Tri (idxO l m) (fun x => l[m.toNat]? = some x) := by
  obtain ⟨i, rfl⟩ := Int.eq_ofNat_of_zero_le h0
  have : i < l.length := by omega
  exact ⟨l[i], idxO_lt this, by simp [this]⟩
def TriR (o : Option (Res α)) (P : α → Prop) (E : AV → Prop) : Prop := ∃ r, o = some r ∧ (match r with | .ret x => P x | .pan z => E z)
theorem TriR.ret {r : α} {P : α → Prop} {E : AV → Prop} (h : P r) : TriR (some (.ret r)) P E := ⟨_, rfl, h⟩
theorem TriR.pan {z : AV} {P : α → Prop} {E : AV → Prop} (h : E z) : TriR (some (.pan z)) P E := ⟨_, rfl, h⟩
theorem TriR.mono {o : Option (Res α)} {P Q : α → Prop} {E F : AV → Prop} (h : TriR o P E) (g : ∀ r, P r → Q r) (k : ∀ z, E z → F z) : TriR o Q F := by
  obtain ⟨r, e, h⟩ := h; refine ⟨r, e, ?_⟩; cases r; exact g _ h; exact k _ h
theorem TriR.bif {c : Bool} {a b : Option (Res α)} {P : α → Prop} {E : AV → Prop} (h : c = true → TriR a P E) (g : c = false → TriR b P E) : TriR (bif c then a else b) P E := by cases c; exact g rfl; exact h rfl
theorem TriR.bind {o : Option α} {f : α → Option (Res β)} {P : α → Prop} {Q : β → Prop} {E : AV → Prop} (h : Tri o P) (g : ∀ y, P y → TriR (f y) Q E) : TriR (o.bind f) Q E := by obtain ⟨r, rfl, h⟩ := h; exact g r h
theorem TriR.bindR {o : Option (Res α)} {f : α → Option (Res β)} {P : α → Prop} {Q : β → Prop} {E : AV → Prop} (h : TriR o P E) (g : ∀ y, P y → TriR (f y) Q E) : TriR (Bw.bindR o f) Q E := by
  obtain ⟨r, rfl, h⟩ := h; cases r; exact g _ h; exact ⟨_, rfl, h⟩
theorem TriR.conv {o o' : Option (Res α)} {P : α → Prop} {E : AV → Prop} (e : o = o') (h : TriR o' P E) : TriR o P E := e ▸ h
def IsFault (ty : Nat) (z : AV) : Prop := ∃ a b : Int, z = .ifc ty (.agg [.v (.int .i64 a), .v (.int .i64 b)])
theorem Tri.ctR {ty : Nat} {o : Option (Res α)} {g : Int → Int → Option β} {f : α → Option β} {P : α → Prop} {Q : β → Prop} (h : TriR o P (IsFault ty)) (hg : ∀ a b, Tri (g a b) Q) (hf : ∀ y, P y → Tri (f y) Q) : Tri (Bw.ctR ty o g f) Q := by
  obtain ⟨r, rfl, h⟩ := h
  cases r with
  | ret x => exact hf x h
  | pan z => obtain ⟨a, b, rfl⟩ := h; simpa [Bw.ctR, faultO] using hg a b
theorem wrap64 {x : Int} (h0 : -9223372036854775808 ≤ x) (h1 : x < 9223372036854775808) : IntKind.i64.wrap x = x := by
  simp [IntKind.wrap, IntKind.bits, IntKind.signed]
  split <;> omega
theorem wrapS (i : Nat) (h : i < 9223372036854775807) : IntKind.i64.wrap ((i : Int) + 1) = ((i + 1 : Nat) : Int) := by
  rw [wrap64 (by omega) (by omega)]; rfl
theorem loop_tri {L : Int → β → Option α} {P : α → Prop} {len : Nat} (Inv : Nat → β → Prop)
    (step : ∀ (i : Nat) b, i < len → Inv i b → (∀ b', Inv (i + 1) b' → Tri (L ((i + 1 : Nat) : Int) b') P) → Tri (L (i : Int) b) P)
    (stop : ∀ b, Inv len b → Tri (L (len : Int) b) P) : ∀ (i : Nat) b, i ≤ len → Inv i b → Tri (L (i : Int) b) P := by
  intro i b hi hI
  obtain ⟨k, hk⟩ : ∃ k, len = i + k := ⟨len - i, by omega⟩
  induction k generalizing i b with
  | zero => have : i = len := by omega
            subst this; exact stop b hI
  | succ k ih => exact step i b (by omega) hI fun b' hb' => ih (i + 1) b' (by omega) hb' (by omega)
end Go.Bw
end

section
noncomputable section
namespace Go.Bw
open Go
def drE (E : Env) (N K : Nat) (k : List It) (σ : TS) (η : Hp) : Out := match η with | ⟨e, m⟩ => normN 1000 m 0 fun n => dr E.P E.G E.T 1000 N K k σ ⟨e, n⟩ []
section
variable {E : Env} {N K : Nat} {Q : DQ} {σ : TS} {η : Hp} {all rest : List Oper} {k : List It} {ns : List (Nat × Nat)}
theorem zz (hm : E.P.follows .mixedOrders = true) {X : Out} (hk : Out.ok E Q X) (hx : drE E N K k σ η = X := by conv => (lhs; whnf)) : DWP E N K k Q σ η := by
  subst hx; exact dr_run hm 1000 hk
theorem zs {α : Type} {U V : Option α} {r : α} {b : Bool} {A B X Y : Out} (hr : (bif b then U else V) = some r) (h1 : b = true → U = some r → Out.ok E Q X) (h2 : b = false → V = some r → Out.ok E Q Y) (hA : A = X := by conv => (lhs; whnf)) (hB : B = Y := by conv => (lhs; whnf)) : Out.ok E Q (outIf b A B) := by
  subst hA hB
  cases b with
  | true => exact h1 rfl hr
  | false => exact h2 rfl hr
theorem bindK {α β : Type} {o : Option α} {f : α → Option β} {r : β} {S : α → Prop} (h : o.bind f = some r) (k : ∀ x, o = some x → S x) : ∃ x, S x ∧ f x = some r := by
  obtain ⟨x, e, g⟩ := bindO h
  exact ⟨x, k x e, g⟩
theorem zv (hm : E.P.follows .mixedOrders = true) {dst : Option Nat} {f : Operand} {args : List Operand} {g : FuncId} {cs : List CV} {xs : List AV} {ns2 : List (Nat × Nat)} {ms : List (Nat × CEnt)} {res : AV} {tys : Array TypeId} {ty : TypeId} {pos : String} {after : Array Edge} {X : Out}
    (h : Pure E.toCx g xs (.ret res)) (hk : Out.ok E Q X) (hn : eqs ns := by repeat (first | exact eqs_nil | refine eqs_cons rfl ?_)) (hd : dstB N dst = true := by rfl) (hc : calleeC σ f args = some (g, cs) := by rfl) (hf : frzL η.e 60 cs = some (xs, ns2, ms) := by rfl) (hn2 : eqs ns2 := by repeat (first | exact eqs_nil | refine eqs_cons rfl ?_)) (hl : ms = [] ∨ refFree res = true := by first | exact .inl rfl | exact .inr rfl)
    (hx : drE E N K (.ops all rest :: k) (putT σ dst (.d res)) η = X := by conv => (lhs; whnf)) :
    Out.ok E Q (.stuck N K (.ops all (⟨dst, .call { callee := .value f, args := args.toArray, argTypes := tys }, ty, pos, after, none⟩ :: rest) :: k) σ η ns) :=
  Ok.val hn rfl hd (DOpP.callF h rfl hc hf hn2 (ImpL.refl _) hl) (zz hm hk hx)
theorem zl {rs : List ResultVar} {xs : List CV} {z : AV} {res : AR} {ns2 : List (Nat × Nat)} {ms : List (Nat × CEnt)} (hn : eqs ns := by repeat (first | exact eqs_nil | refine eqs_cons rfl ?_)) (h : resD E.T σ η rs = some xs := by rfl) (hf : frzL η.e 60 [packC xs] = some ([z], ns2, ms) := by rfl) (hn2 : eqs ns2 := by repeat (first | exact eqs_nil | refine eqs_cons rfl ?_)) (hr : res = .ret z := by rfl) : Out.ok E (RD E.T rs (Ends 60 res)) (.fin .ret σ η ns) :=
  Ok.fin hn (RD.leaf h hf hn2 hr (Imp.refl _))
end
def bindRF {α β : Type} (o : Option (Res α)) (f : α → Option (Res β)) : Option (Res β) := match o with
  | some (.pan z) => bif refFree z then some (.pan z) else none
  | some (.ret x) => f x
  | none => none
theorem bindRF_some {α β : Type} {o : Option (Res α)} {f : α → Option (Res β)} {r : Res β} (h : bindRF o f = some r) : (∃ z, (o = some (.pan z) ∧ refFree z = true) ∧ r = .pan z) ∨ ∃ x, o = some (.ret x) ∧ f x = some r := by
  unfold bindRF at h
  split at h
  · rename_i z
    cases hz : refFree z with
    | true => rw [hz] at h; cases h; exact .inl ⟨z, ⟨rfl, hz⟩, rfl⟩
    | false => rw [hz] at h; cases h
  · rename_i x; exact .inr ⟨x, rfl, h⟩
  · cases h
theorem Le.bindRF {α β : Type} {a a' : Option (Res α)} {f f' : α → Option (Res β)} (h : Le a a') (g : ∀ y, Le (f y) (f' y)) : Le (bindRF a f) (bindRF a' f') := fun r hr => by
  rcases bindRF_some hr with ⟨z, ⟨h1, h2⟩, rfl⟩ | ⟨x, h1, h2⟩
  · rw [h _ h1]; simp [Bw.bindRF, h2]
  · rw [h _ h1]; exact g x _ h2
theorem Lm.bindRF {α β : Type} {f : Nat → Option (Res α)} {g : Nat → α → Option (Res β)} {v : Option (Res α)} {w : α → Option (Res β)} (h : Lm f v) (k : ∀ y, Lm (fun n => g n y) (w y)) : Lm (fun n => Bw.bindRF (f n) (g n)) (Bw.bindRF v w) := by
  refine ⟨fun n => Le.bindRF (h.1 n) fun y => (k y).1 n, fun r => ⟨fun hr => ?_, fun ⟨n, hn⟩ => ?_⟩⟩
  · rcases bindRF_some hr with ⟨z, ⟨h1, h2⟩, rfl⟩ | ⟨x, h1, h2⟩
    · obtain ⟨n, hn⟩ := (h.2 _).1 h1
      exact ⟨n, by simp [Bw.bindRF, hn, h2]⟩
    · obtain ⟨n, hn⟩ := (h.2 _).1 h1
      obtain ⟨m, hm⟩ := ((k x).2 _).1 h2
      refine ⟨max n m, ?_⟩
      have e1 := h.1.le (max n m) (Nat.le_max_left n m) _ hn
      have e2 := (k x).1.le (max n m) (Nat.le_max_right n m) _ hm
      simp only [Bw.bindRF, e1]; exact e2
  · rcases bindRF_some hn with ⟨z, ⟨h1, h2⟩, rfl⟩ | ⟨x, h1, h2⟩
    · have := (h.2 _).2 ⟨n, h1⟩
      simp [Bw.bindRF, this, h2]
    · have e1 := (h.2 _).2 ⟨n, h1⟩
      have e2 := ((k x).2 _).2 ⟨n, h2⟩
      simp only [Bw.bindRF, e1]; exact e2
theorem TriR.bindRF {α β : Type} {o : Option (Res α)} {f : α → Option (Res β)} {P : α → Prop} {Q : β → Prop} {E : AV → Prop} (hE : ∀ z, E z → refFree z = true) (h : TriR o P E) (g : ∀ y, P y → TriR (f y) Q E) : TriR (Bw.bindRF o f) Q E := by
  obtain ⟨r, rfl, h⟩ := h
  cases r with
  | ret x => exact g _ h
  | pan z => exact ⟨.pan z, by simp [Bw.bindRF, hE z h], h⟩
end Go.Bw
end

section
noncomputable section
namespace Go.Bw
open Go
class PF (α : Type) where
  R : (Nat → α) → α → Prop
  le : α → α → Prop
  lm : (Nat → α) → α
  bot : α
  bot_le : ∀ x, le bot x
  of : ∀ {f : Nat → α}, (∀ n, le (f n) (f (n + 1))) → R f (lm f)
  up : ∀ {f : Nat → α} {p : α}, R f p → ∀ n, le (f n) (f (n + 1))
  uniq : ∀ {f : Nat → α} {p q : α}, R f p → R f q → p = q
  tail : ∀ {f : Nat → α} {p : α}, R f p → R (fun n => f (n + 1)) p
  two : ∀ {f g : α} (k : Nat), le f g → R (fun n => bif Nat.ble n k then f else g) g
theorem Lm.tail {α : Type} {f : Nat → Option α} {p : Option α} (h : Lm f p) : Lm (fun n => f (n + 1)) p :=
  ⟨fun n => h.1 (n + 1), fun r => ⟨fun hr => by obtain ⟨n, hn⟩ := (h.2 r).1 hr; exact ⟨n, h.1 n r hn⟩, fun ⟨n, hn⟩ => (h.2 r).2 ⟨n + 1, hn⟩⟩⟩
theorem Lm.two {α : Type} {f g : Option α} (k : Nat) (h : Le f g) : Lm (fun n => bif Nat.ble n k then f else g) g := by
  refine ⟨fun n r hr => ?_, fun r => ⟨fun hr => ⟨k + 1, ?_⟩, fun ⟨n, hn⟩ => ?_⟩⟩
  · cases h1 : Nat.ble n k with
    | true =>
      simp only [h1, cond_true] at hr
      cases h2 : Nat.ble (n + 1) k with
      | true => simpa only [h2, cond_true] using hr
      | false => simpa only [h2, cond_false] using h r hr
    | false =>
      simp only [h1, cond_false] at hr
      have h2 : Nat.ble (n + 1) k = false := by
        cases h3 : Nat.ble (n + 1) k with
        | false => rfl
        | true =>
          have := Nat.le_of_ble_eq_true h3
          have h4 : Nat.ble n k = true := Nat.ble_eq_true_of_le (by omega)
          rw [h1] at h4; cases h4
      simpa only [h2, cond_false] using hr
  · have h2 : Nat.ble (k + 1) k = false := by
      cases h3 : Nat.ble (k + 1) k with
      | false => rfl
      | true => have := Nat.le_of_ble_eq_true h3; omega
    simpa only [h2, cond_false] using hr
  · cases h1 : Nat.ble n k with
    | true => simp only [h1, cond_true] at hn; exact h r hn
    | false => simpa only [h1, cond_false] using hn
noncomputable instance PF.opt {α : Type} : PF (Option α) where
  R := Lm
  le := Le
  lm := lim
  bot := none
  bot_le := fun _ => Le.zero rfl
  of := Lm.of
  up := fun h => h.1
  uniq := Lm.uniq
  tail := Lm.tail
  two := Lm.two
theorem app_if {α β : Type} {f g : α → β} (k n : Nat) (x : α) : (bif Nat.ble n k then f else g) x = bif Nat.ble n k then f x else g x := by cases Nat.ble n k <;> rfl
noncomputable instance PF.fun {α β : Type} [PF β] : PF (α → β) where
  R f p := ∀ x, PF.R (fun n => f n x) (p x)
  le f g := ∀ x, PF.le (f x) (g x)
  lm f := fun x => PF.lm fun n => f n x
  bot := fun _ => PF.bot
  bot_le := fun _ _ => PF.bot_le _
  of := fun h x => PF.of fun n => h n x
  up := fun h n x => PF.up (h x) n
  uniq := fun h g => funext fun x => PF.uniq (h x) (g x)
  tail := fun h x => PF.tail (h x)
  two := fun {f g} k h x => by
    have := PF.two k (h x)
    rwa [show (fun n => (bif Nat.ble n k then f else g) x) = fun n => bif Nat.ble n k then f x else g x from funext fun n => app_if k n x]
theorem fst_if {α β : Type} {f g : α × β} (k n : Nat) : (bif Nat.ble n k then f else g).1 = bif Nat.ble n k then f.1 else g.1 := by cases Nat.ble n k <;> rfl
theorem snd_if {α β : Type} {f g : α × β} (k n : Nat) : (bif Nat.ble n k then f else g).2 = bif Nat.ble n k then f.2 else g.2 := by cases Nat.ble n k <;> rfl
noncomputable instance PF.prod {α β : Type} [PF α] [PF β] : PF (α × β) where
  R f p := PF.R (fun n => (f n).1) p.1 ∧ PF.R (fun n => (f n).2) p.2
  le f g := PF.le f.1 g.1 ∧ PF.le f.2 g.2
  lm f := (PF.lm fun n => (f n).1, PF.lm fun n => (f n).2)
  bot := (PF.bot, PF.bot)
  bot_le := fun _ => ⟨PF.bot_le _, PF.bot_le _⟩
  of := fun h => ⟨PF.of fun n => (h n).1, PF.of fun n => (h n).2⟩
  up := fun h n => ⟨PF.up h.1 n, PF.up h.2 n⟩
  uniq := fun h g => Prod.ext (PF.uniq h.1 g.1) (PF.uniq h.2 g.2)
  tail := fun h => ⟨PF.tail h.1, PF.tail h.2⟩
  two := fun {f g} k h => by
    constructor
    · rw [show (fun n => (bif Nat.ble n k then f else g).1) = fun n => bif Nat.ble n k then f.1 else g.1 from funext fun n => fst_if k n]; exact PF.two k h.1
    · rw [show (fun n => (bif Nat.ble n k then f else g).2) = fun n => bif Nat.ble n k then f.2 else g.2 from funext fun n => snd_if k n]; exact PF.two k h.2
section
variable {α β γ : Type}
def PF.Fix [PF α] (F : Nat → α) (Ψ : α → α) : Prop := PF.R F (PF.lm F) ∧ PF.lm F = Ψ (PF.lm F)
theorem PF.fix [PF α] {F : Nat → α} {Φ : Nat → α → α} {Ψ : α → α} (hΦ : ∀ f p, PF.R f p → PF.R (fun n => Φ n (f n)) (Ψ p)) (h0 : F 0 = PF.bot) (hs : ∀ n, F (n + 1) = Φ n (F n)) : PF.Fix F Ψ := by
  have up : ∀ n, PF.le (F n) (F (n + 1)) := by
    intro n
    induction n with
    | zero => rw [h0]; exact PF.bot_le _
    | succ n ih =>
      have h1 := PF.up (hΦ _ _ (PF.two n ih)) n
      have e1 : Nat.ble n n = true := Nat.ble_eq_true_of_le (Nat.le_refl n)
      have e2 : Nat.ble (n + 1) n = false := by
        cases h3 : Nat.ble (n + 1) n with
        | false => rfl
        | true => have := Nat.le_of_ble_eq_true h3; omega
      simp only [e1, e2, cond_true, cond_false] at h1
      rw [hs (n + 1), hs n] at *
      exact h1
  have hR := PF.of up
  refine ⟨hR, PF.uniq (f := fun n => F (n + 1)) (PF.tail hR) ?_⟩
  rw [show (fun n => F (n + 1)) = fun n => Φ n (F n) from funext hs]
  exact hΦ _ _ hR
theorem PF.fn [PF β] {f : Nat → α → β} {p : α → β} (h : ∀ x, PF.R (fun n => f n x) (p x)) : PF.R f p := h
theorem PF.ap [PF β] {f : Nat → α → β} {p : α → β} (h : PF.R f p) (x : α) : PF.R (fun n => f n x) (p x) := h x
theorem PF.fst [PF α] [PF β] {f : Nat → α × β} {p : α × β} (h : PF.R f p) : PF.R (fun n => (f n).1) p.1 := h.1
theorem PF.snd [PF α] [PF β] {f : Nat → α × β} {p : α × β} (h : PF.R f p) : PF.R (fun n => (f n).2) p.2 := h.2
theorem PF.pair [PF α] [PF β] {f : Nat → α} {g : Nat → β} {p : α} {q : β} (h : PF.R f p) (k : PF.R g q) : PF.R (fun n => (f n, g n)) (p, q) := ⟨h, k⟩
theorem PF.const (o : Option α) : PF.R (fun _ => o) o := Lm.const o
theorem PF.bif {c : Bool} {f g : Nat → Option α} {v w : Option α} (h : PF.R f v) (k : PF.R g w) : PF.R (fun n => bif c then f n else g n) (bif c then v else w) := Lm.bif h k
theorem PF.bind {f : Nat → Option α} {g : Nat → α → Option β} {v : Option α} {w : α → Option β} (h : PF.R f v) (k : ∀ y, PF.R (fun n => g n y) (w y)) : PF.R (fun n => (f n).bind (g n)) (v.bind w) := Lm.bind h k
theorem PF.bindR {f : Nat → Option (Res α)} {g : Nat → α → Option (Res β)} {v : Option (Res α)} {w : α → Option (Res β)} (h : PF.R f v) (k : ∀ y, PF.R (fun n => g n y) (w y)) : PF.R (fun n => Bw.bindR (f n) (g n)) (Bw.bindR v w) := Lm.bindR h k
theorem PF.bindRF {f : Nat → Option (Res α)} {g : Nat → α → Option (Res β)} {v : Option (Res α)} {w : α → Option (Res β)} (h : PF.R f v) (k : ∀ y, PF.R (fun n => g n y) (w y)) : PF.R (fun n => Bw.bindRF (f n) (g n)) (Bw.bindRF v w) := Lm.bindRF h k
theorem PF.ctR {ty : Nat} {f : Nat → Option (Res α)} {g : Nat → Int → Int → Option β} {k : Nat → α → Option β} {v : Option (Res α)} {w : Int → Int → Option β} {z : α → Option β} (h : PF.R f v) (hg : ∀ x y, PF.R (fun n => g n x y) (w x y)) (hk : ∀ y, PF.R (fun n => k n y) (z y)) : PF.R (fun n => Bw.ctR ty (f n) (g n) (k n)) (Bw.ctR ty v w z) := Lm.ctR h hg hk
theorem PF.ex {f : Nat → Option α} {v : Option α} (h : PF.R f v) {r : α} (e : v = some r) : ∃ n, f n = some r := (h.2 r).1 e
theorem zR {p : Prop} (h : p := by repeat' (first | with_reducible refine PF.bif ?_ ?_ | with_reducible refine PF.bind ?_ (fun _ => ?_) | with_reducible refine PF.bindR ?_ (fun _ => ?_) | with_reducible refine PF.bindRF ?_ (fun _ => ?_) | with_reducible refine PF.ctR ?_ (fun _ _ => ?_) (fun _ => ?_) | with_reducible exact PF.const _ | ((repeat with_reducible refine PF.ap ?_ _); assumption))) : p := h
end
end Go.Bw
end
