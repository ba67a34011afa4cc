/-
  Own work. Walks by program: partial functions that answer as the code does; first part: what the texts that a program prints lean on.
-/
import Derived.Test.YtcngmkedekmkhaaGreatD15
namespace Go.Bw
open Go

/-- A result, or a panic. -/
inductive Res (α : Type) where
  | ret (x : α)
  | pan (x : AV)
def Res.ar {α : Type} (f : α → AV) : Res α → AR
  | .ret x => .ret (f x)
  | .pan y => .pan y

def idxO {α : Type} (l : List α) (m : Int) : Option α := match m with
  | .ofNat j => l[j]?
  | .negSucc _ => none
theorem idxO_some {α : Type} {l : List α} {m : Int} {x : α} (h : idxO l m = some x) : ∃ j : Nat, m = (j : Int) ∧ l[j]? = some x := by
  cases m with
  | ofNat j => exact ⟨j, rfl, h⟩
  | negSucc j => cases h

theorem idxO_nat {α : Type} {l : List α} {m : Int} {x : α} (h : idxO l m = some x) : m = ((m.toNat : Nat) : Int) ∧ l[m.toNat]? = some x := by
  obtain ⟨j, rfl, h⟩ := idxO_some h
  exact ⟨rfl, h⟩

theorem bindO {α β : Type} {o : Option α} {f : α → Option β} {r : β} (h : o.bind f = some r) : ∃ x, o = some x ∧ f x = some r := by
  cases o with
  | none => cases h
  | some x => exact ⟨x, rfl, h⟩
theorem bT {α : Type} {c : Bool} {a b : α} {r : α} (hc : c = true) (h : (bif c then a else b) = r) : a = r := by subst hc; exact h
theorem bF {α : Type} {c : Bool} {a b : α} {r : α} (hc : c = false) (h : (bif c then a else b) = r) : b = r := by subst hc; exact h
theorem guardO {α : Type} {c : Bool} {a : Option α} {r : α} (h : (bif c then a else none) = some r) : c = true ∧ a = some r := by
  cases c with
  | true => exact ⟨rfl, h⟩
  | false => cases h
theorem noneO {α : Type} {r : α} {P : Prop} (h : (none : Option α) = some r) : P := nomatch h

/-- Rows of plain things. -/
def rowsI (k : IntKind) (l : List Int) : List (List AV) := l.map fun x => [.v (.int k x)]
def rowsB (l : List Bool) : List (List AV) := l.map fun x => [.v (.bool x)]
def rowsS (l : List (List UInt8)) : List (List AV) := l.map fun x => [.v (.string ⟨⟨x⟩⟩)]

theorem rowsI_len {k : IntKind} {l : List Int} : (rowsI k l).length = l.length := List.length_map _
theorem rowsB_len {l : List Bool} : (rowsB l).length = l.length := List.length_map _
theorem rowsS_len {l : List (List UInt8)} : (rowsS l).length = l.length := List.length_map _
theorem rowsI_get {k : IntKind} {l : List Int} {i : Nat} {x : Int} (h : l[i]? = some x) : (rowsI k l)[i]? = some [.v (.int k x)] := get_map h
theorem rowsB_get {l : List Bool} {i : Nat} {x : Bool} (h : l[i]? = some x) : (rowsB l)[i]? = some [.v (.bool x)] := get_map h
theorem rowsS_get {l : List (List UInt8)} {i : Nat} {x : List UInt8} (h : l[i]? = some x) : (rowsS l)[i]? = some [.v (.string ⟨⟨x⟩⟩)] := get_map h
theorem rowsI_app {k : IntKind} {a b : List Int} : rowsI k (a ++ b) = rowsI k a ++ rowsI k b := List.map_append
theorem rowsB_app {a b : List Bool} : rowsB (a ++ b) = rowsB a ++ rowsB b := List.map_append
theorem rowsS_app {a b : List (List UInt8)} : rowsS (a ++ b) = rowsS a ++ rowsS b := List.map_append
theorem rowsI_one {k : IntKind} {x : Int} : rowsI k [x] = [[.v (.int k x)]] := rfl
theorem rowsB_one {x : Bool} : rowsB [x] = [[.v (.bool x)]] := rfl
theorem rowsS_one {x : List UInt8} : rowsS [x] = [[.v (.string ⟨⟨x⟩⟩)]] := rfl
theorem rowsI_drop {k : IntKind} {n : Nat} {l : List Int} : rowsI k (l.drop n) = (rowsI k l).drop n := List.map_drop
theorem rowsS_drop {n : Nat} {l : List (List UInt8)} : rowsS (l.drop n) = (rowsS l).drop n := List.map_drop
theorem rowsI_take {k : IntKind} {n : Nat} {l : List Int} : rowsI k (l.take n) = (rowsI k l).take n := List.map_take
theorem rowsS_take {n : Nat} {l : List (List UInt8)} : rowsS (l.take n) = (rowsS l).take n := List.map_take

/-- A result or a panic is handed on. -/
def bindR {α β : Type} (o : Option (Res α)) (f : α → Option (Res β)) : Option (Res β) := match o with
  | some (.ret x) => f x
  | some (.pan z) => some (.pan z)
  | none => none
theorem bindR_some {α β : Type} {o : Option (Res α)} {f : α → Option (Res β)} {r : Res β} (h : bindR o f = some r) : (∃ z, o = some (.pan z) ∧ r = .pan z) ∨ ∃ x, o = some (.ret x) ∧ f x = some r := by
  cases o with
  | none => cases h
  | some x => cases x with
    | ret x => exact .inr ⟨x, rfl, h⟩
    | pan z => cases h; exact .inl ⟨z, rfl, rfl⟩

/-- A part of a list. -/
def partO {α : Type} (l : List α) (lo hi : Int) : Option (List α) := match lo, hi with
  | .ofNat a, .ofNat b => bif Nat.ble a b && Nat.ble b l.length then some ((l.take b).drop a) else none
  | _, _ => none
theorem partO_some {α : Type} {l x : List α} {lo hi : Int} (h : partO l lo hi = some x) : ∃ a b : Nat, lo = (a : Int) ∧ hi = (b : Int) ∧ a ≤ b ∧ b ≤ l.length ∧ (l.take b).drop a = x := by
  unfold partO at h
  split at h
  · rename_i a b
    revert h
    cases hc : (Nat.ble a b && Nat.ble b l.length) with
    | false => intro h; cases h
    | true =>
      intro h
      simp only [Bool.and_eq_true, Nat.ble_eq] at hc
      exact ⟨a, b, rfl, rfl, hc.1, hc.2, Option.some.inj h⟩
  · cases h

theorem rowsOnes_of {α : Type} {f : α → List AV} (hf : ∀ x, rowsOnes [f x] = true) (l : List α) : rowsOnes (l.map f) = true := rowsOnes_map fun x _ => hf x
theorem rowsI_ones {k : IntKind} (l : List Int) : rowsOnes (rowsI k l) = true := rowsOnes_of (fun _ => rfl) l
theorem rowsB_ones (l : List Bool) : rowsOnes (rowsB l) = true := rowsOnes_of (fun _ => rfl) l
theorem rowsS_ones (l : List (List UInt8)) : rowsOnes (rowsS l) = true := rowsOnes_of (fun _ => rfl) l

section
variable {E : Env} {Q : DQ} {N K : Nat} {σ : TS} {η : Hp} {o : Oper} {all rest : List Oper} {k : List It} {x : CV} {c : Code}

/-- The end of a walk, whatever is answered. -/
theorem RD.leaf {rs : List ResultVar} {xs : List CV} {z y : AV} {res : AR} {ns : List (Nat × Nat)} {ms : List (Nat × CEnt)} (h : resD E.T σ η rs = some xs) (hf : frzL η.e 60 [packC xs] = some ([z], ns, ms)) (hn : eqs ns) (hr : res = .ret y) (e : Imp z y) : RD E.T rs (Ends 60 res) .ret σ η := by
  subst hr; exact RD.retO h hf hn e
theorem RD.leafN {rs : List ResultVar} {xs : List CV} {z y : AV} {res : AR} {ns : List (Nat × Nat)} {ms : List (Nat × CEnt)} (h : resD E.T σ η rs = some xs) (hf : frzL η.e 60 [packC xs] = some ([z], ns, ms)) (hn : eqs ns) (hr : res = .ret y) (e : Imp z y) : RD E.T rs (Ends 60 res) .norm σ η := by
  subst hr; exact RD.normO h hf hn e
theorem RD.leafP {rs : List ResultVar} {x : CV} {z y : AV} {res : AR} {ns : List (Nat × Nat)} {ms : List (Nat × CEnt)} (hf : frzL η.e 60 [x] = some ([z], ns, ms)) (hn : eqs ns) (hr : res = .pan y) (e : Imp z y) : RD E.T rs (Ends 60 res) (.pan x) σ η := by
  subst hr; exact RD.panO hf hn e

/-- A call that keeps nothing, its arguments in other words. -/
theorem DOpS.callI {dst : Option Nat} {f : Operand} {args : List Operand} {g : FuncId} {cs : List CV} {xs ys : List AV} {res : AV} {tys : Array TypeId} {ty : TypeId} {pos : String} {after : Array Edge} {gd : Option (Nat × Bool)} (h : Pure E.toCx g ys (.ret res)) (hc : calleeC σ f args = some (g, cs)) (hx : allD cs = some xs) (hi : ImpL xs ys) :
    DOpS E N ⟨dst, .call { callee := .value f, args := args.toArray, argTypes := tys }, ty, pos, after, gd⟩ σ (.d res) := DOpS.call (h.args hi) hc hx

theorem DOpS.conv {y z : CV} (h : DOpS E N o σ y) (e : y = z) : DOpS E N o σ z := e ▸ h

theorem notT {c : Bool} (h : c = false) : (!c) = true := by rw [h]; rfl
theorem notF {c : Bool} (h : c = true) : (!c) = false := by rw [h]; rfl
theorem atomT {c : Bool} (h : (!c) = false) : c = true := by cases c <;> simp_all
theorem atomF {c : Bool} (h : (!c) = true) : c = false := by cases c <;> simp_all

/-! ### The driver: what is decided is gone through -/

def outIf (b : Bool) (A B : Out) : Out := match b with
  | true => A
  | false => B
theorem Ok.split {b : Bool} {A B : Out} (h1 : b = true → Out.ok E Q A) (h2 : b = false → Out.ok E Q B) : Out.ok E Q (outIf b A B) := by
  cases b with
  | true => exact h1 rfl
  | false => exact h2 rfl
theorem Ok.splitT {b : Bool} {A B : Out} (hb : b = true) (h1 : Out.ok E Q A) : Out.ok E Q (outIf b A B) := by subst hb; exact h1
theorem Ok.splitF {b : Bool} {A B : Out} (hb : b = false) (h2 : Out.ok E Q B) : Out.ok E Q (outIf b A B) := by subst hb; exact h2

/-- A guard that is asked in a region whose order is open. -/
def askG (all : List Oper) (o : Oper) (σ : TS) : Option (Nat × Bool) := match o.guard with
  | none => none
  | some (j, _) => match (nth all j).bind (·.dst) with
    | none => none
    | some d => match σ.get d with
      | some (.d (.v (.bool t))) => some (d, t)
      | _ => none
def askOf (σ : TS) : List It → Option (Nat × Bool)
  | .lex all _ _ (o :: _) _ :: _ => askG all o σ
  | .tl all ((_, o, _) :: _) _ _ _ :: _ => askG all o σ
  | _ => none

theorem SS.pin {ρ : Rho} {s : Sl} (hs : SS ρ σ s) {d : Nat} {t b : Bool} (hd : σ.get d = some (.d (.v (.bool t)))) (ht : t = b) : SS ρ (Tr.put 24 σ d (some (.d (.v (.bool b))))) s := by
  subst ht
  intro u z hz
  rcases Tr.get_put 24 σ d u _ z hz with ⟨rfl, h3⟩ | ⟨_, h3⟩
  · cases h3; exact hs _ _ hd
  · exact hs _ _ h3

theorem askG_get {all : List Oper} {o : Oper} {d : Nat} {t : Bool} (h : askG all o σ = some (d, t)) : σ.get d = some (.d (.v (.bool t))) := by
  unfold askG at h
  split at h
  · cases h
  · split at h
    · cases h
    · split at h
      · rename_i h1; simp only [Option.some.injEq, Prod.mk.injEq] at h; obtain ⟨rfl, rfl⟩ := h; exact h1
      · cases h

theorem DWP.pin {todo : List It} {d : Nat} {t b : Bool} (ha : askOf σ todo = some (d, t)) (ht : t = b) (h : DWP E N K todo Q (Tr.put 24 σ d (some (.d (.v (.bool b))))) η) : DWP E N K todo Q σ η := by
  unfold askOf at ha
  split at ha
  · unfold DWP at h ⊢; simp only [dq] at h ⊢
    exact fun ρ s ηB νB hs => h ρ s ηB νB (hs.pin (askG_get ha) ht)
  · unfold DWP at h ⊢; simp only [dq] at h ⊢
    exact fun hf ρ s ηB pb hs => h hf ρ s ηB pb (hs.pin (askG_get ha) ht)
  · cases ha

/-- What is done to a row of one's own. -/
def ownB (σ : TS) : Op → Bool
  | .indexAddr _ (.tmp t) _ => match σ.get t with
    | some (.os _ _) => true
    | _ => false
  | .load _ (.tmp t) => match σ.get t with
    | some (.oe _ _ _) => true
    | _ => false
  | .store _ (.tmp t) _ => match σ.get t with
    | some (.oe _ _ _) => true
    | _ => false
  | _ => false
def opnE (σ : TS) : List It → Bool
  | .ops _ (o :: _) :: _ => match o.guard with
    | none => ownB σ o.op
    | some _ => false
  | .lex _ _ _ (o :: _) _ :: _ => ownB σ o.op
  | .tl _ ((_, o, _) :: _) _ _ _ :: _ => ownB σ o.op
  | _ => false

def drN (rec : Nat → Nat → List It → TS → Hp → List (Nat × Nat) → Out) : Nx → Out
  | .go N' K' todo' σ' η' ns' => match η' with
    | ⟨e, m⟩ => normN 1000 m 0 fun n => rec N' K' todo' σ' ⟨e, n⟩ ns'
  | .out (.cond b N' K' t1 s1 t2 s2 η' ns') => outIf b (rec N' K' t1 s1 η' ns') (rec N' K' t2 s2 η' ns')
  | .out o => o

def dr (P : Program) (G : Gl) (T : Tab) : Nat → Nat → Nat → List It → TS → Hp → List (Nat × Nat) → Out
  | 0, N, K, todo, σ, η, ns => .stuck N K todo σ η ns
  | f + 1, N, K, todo, σ, η, ns => match opn σ todo with
    | true => .stuck N K todo σ η ns
    | false => match opnE σ todo with
     | true => .stuck N K todo σ η ns
     | false => match askOf σ todo with
      | none => drN (dr P G T f) (step P G T cfgS (fun _ _ => none) f N K todo σ η ns)
      | some (d, t) => outIf t (drN (dr P G T f) (step P G T cfgS (fun _ _ => none) f N K todo (Tr.put 24 σ d (some (.d (.v (.bool true))))) η ns)) (drN (dr P G T f) (step P G T cfgS (fun _ _ => none) f N K todo (Tr.put 24 σ d (some (.d (.v (.bool false))))) η ns))

theorem drN_ok {Q : DQ} {rec : Nat → Nat → List It → TS → Hp → List (Nat × Nat) → Out} (hr : ∀ N K todo σ η ns, Out.ok E Q (rec N K todo σ η ns) → eqs ns ∧ DWP E N K todo Q σ η) : ∀ {x : Nx}, Out.ok E Q (drN rec x) → Nx.ok E Q x
  | .go N' K' todo' σ' η' ns', h => by
    dsimp only [drN] at h
    rw [normN_eq] at h
    exact hr _ _ _ _ _ _ h
  | .out (.stuck ..), h => h
  | .out (.fin ..), h => h
  | .out (.cond b N' K' t1 s1 t2 s2 η' ns'), h => by
    cases b with
    | true =>
      have := hr _ _ _ _ _ _ h
      exact ⟨this.1, fun _ => this.2, (fun h => nomatch h)⟩
    | false =>
      have := hr _ _ _ _ _ _ h
      exact ⟨this.1, (fun h => nomatch h), fun _ => this.2⟩

theorem dr_ok (hm : E.P.follows .mixedOrders = true) : ∀ (f : Nat) (Q : DQ) (N K : Nat) (todo : List It) (σ : TS) (η : Hp) (ns : List (Nat × Nat)), Out.ok E Q (dr E.P E.G E.T f N K todo σ η ns) → eqs ns ∧ DWP E N K todo Q σ η
  | 0, _, _, _, _, _, _, _, h => h
  | f + 1, Q, N, K, todo, σ, η, ns, h => by
    have one : ∀ σ, Out.ok E Q (drN (dr E.P E.G E.T f) (step E.P E.G E.T cfgS (fun _ _ => none) f N K todo σ η ns)) → eqs ns ∧ DWP E N K todo Q σ η := fun σ h =>
      step_ok (c := cfgS) (fl := f) hm (fun f hf => by cases hf) (fun f ty z h => by cases h) (fun g x h => by cases h) (nest := fun _ _ => none) (fun g xs z hz => by cases hz) (drN_ok (fun N K todo σ η ns h => dr_ok hm f Q N K todo σ η ns h) h)
    unfold dr at h
    split at h
    · exact h
    · split at h
      · exact h
      · split at h
        · exact one σ h
        · rename_i d t ha
          cases t with
          | true => have := one _ h; exact ⟨this.1, DWP.pin ha rfl this.2⟩
          | false => have := one _ h; exact ⟨this.1, DWP.pin ha rfl this.2⟩

theorem dr_run (hm : E.P.follows .mixedOrders = true) (f : Nat) (h : Out.ok E Q (match η with | ⟨e, m⟩ => normN 1000 m 0 fun n => dr E.P E.G E.T f N K k σ ⟨e, n⟩ [])) : DWP E N K k Q σ η := by
  obtain ⟨e, m⟩ := η
  dsimp only at h
  rw [normN_eq] at h
  exact (dr_ok hm f Q N K k σ ⟨e, m⟩ [] h).2

/-- A condition that has been asked. -/
theorem Ok.condTH {b : Bool} {N' K' : Nat} {t1 t2 : List It} {s1 s2 : TS} {η' : Hp} {ns : List (Nat × Nat)} (hb : b = true) (hn : eqs ns) (k1 : DWP E N' K' t1 Q s1 η') : Out.ok E Q (.cond b N' K' t1 s1 t2 s2 η' ns) := ⟨hn, fun _ => k1, (fun h => by rw [hb] at h; cases h)⟩
theorem Ok.condFH {b : Bool} {N' K' : Nat} {t1 t2 : List It} {s1 s2 : TS} {η' : Hp} {ns : List (Nat × Nat)} (hb : b = false) (hn : eqs ns) (k2 : DWP E N' K' t2 Q s2 η') : Out.ok E Q (.cond b N' K' t1 s1 t2 s2 η' ns) := ⟨hn, (fun h => by rw [hb] at h; cases h), fun _ => k2⟩

/-- A call that keeps nothing, whatever kind of region it stands in, its arguments in other words. -/
theorem DOpP.callF {f : Operand} {args : List Operand} {g : FuncId} {cs : List CV} {xs' xs : List AV} {ns : List (Nat × Nat)} {ms : List (Nat × CEnt)} {res : AV} {tys : Array TypeId} (h : Pure E.toCx g xs (.ret res)) (ho : o.op = .call { callee := .value f, args := args.toArray, argTypes := tys })
    (hc : calleeC σ f args = some (g, cs)) (hf : frzL η.e 60 cs = some (xs', ns, ms)) (hn : eqs ns) (hi : ImpL xs' xs) (hl : ms = [] ∨ refFree res = true) : DOpP E N o σ η (.d res) := DOpP.pure 60 ho h hc hf hn hi hl

/-- A call that panics, nobody catches. -/
theorem DWP.purePan {dst : Option Nat} {f : Operand} {args : List Operand} {g : FuncId} {cs : List CV} {xs' xs : List AV} {ns : List (Nat × Nat)} {ms : List (Nat × CEnt)} {y : AV} {tys : Array TypeId} {ty : TypeId} {pos : String} {after : Array Edge} (h : Pure E.toCx g xs (.pan y)) (hc : calleeC σ f args = some (g, cs)) (hf : frzL η.e 60 cs = some (xs', ns, ms)) (hn : eqs ns) (hi : ImpL xs' xs) (hl : ms = [] ∨ refFree y = true) (hp : panTo k = none)
    (hq : Q (.pan (.d y)) .lf η) : DWP E N K (.ops all (⟨dst, .call { callee := .value f, args := args.toArray, argTypes := tys }, ty, pos, after, none⟩ :: rest) :: k) Q σ η := by
  show DO E N K all _ (dq E N K k Q) σ η
  exact DO.purePan 60 h hc hf hn hi hl (dq_pan k N K .lf hp hq)

/-- A slot's value is handed on as unchanging. -/
theorem DWP.frz {t : Nat} {z : AV} {ns : List (Nat × Nat)} {ms : List (Nat × CEnt)} (hx : σ.get t = some x) (hf : frzL η.e 60 [x] = some ([z], ns, ms)) (hn : eqs ns) (h : DWP E N K (.ops all rest :: k) Q (Tr.put 24 σ t (some (.d z))) (applyM ms η)) : DWP E N K (.ops all rest :: k) Q σ η := DO.frz 60 hx hf hn h
theorem DWP.frzC {t : Nat} {z : AV} {ns : List (Nat × Nat)} {ms : List (Nat × CEnt)} (hx : σ.get t = some x) (hf : frzL η.e 60 [x] = some ([z], ns, ms)) (hn : eqs ns) (h : DWP E N K (.code c :: k) Q (Tr.put 24 σ t (some (.d z))) (applyM ms η)) : DWP E N K (.code c :: k) Q σ η := by
  unfold DWP at h ⊢; simp only [dq] at h ⊢; exact DC.frz 60 hx hf hn h

/-- Rows of one's own. -/
theorem DWP.storeRow {t : TypeId} {p v : Operand} {i n m e kk : Nat} {rows : List (List AV)} {r r' : List AV} {y : AV} {ti : TI} (j off : Nat) (ho : o.op = .store t p v) (hg : o.guard = none) (hd : o.dst = none) (hp : cev σ p = some (.oe i n m)) (hv : cev σ v = some (.d y)) (hi : η.e.get i = some (.row e kk rows)) (hn : n = rows.length)
    (hm : m = j * kk + off) (hr : rows[j]? = some r) (ht : tget E.T t = some ti) (hk : Nat.beq (cellsA y).length ti.size = true) (h1 : onesB (cellsA y) = true) (hl : spliceA r off (cellsA y) = some r') (h : DWP E N K (.ops all rest :: k) Q σ (η.set i (.row e kk (rows.set j r')))) : DWP E N K (.ops all (o :: rest) :: k) Q σ η :=
  DO.storeRow j off hg ho hd hp hv hi hn hm hr ht hk h1 hl h
theorem DWP.tlStoreRow {l : List (Nat × Oper × TK)} {A : Als} {pend : List (Nat × Oper × CV)} {fs : List (Nat × List AV × AV)} {q : Nat} {t : TypeId} {p v : Operand} {i n m e kk : Nat} {rows : List (List AV)} {r r' : List AV} {y : AV} {ti : TI} {σ1 : TS} {η1 : Hp} (j off : Nat) (hpd : PendD E N all pend σ η) (hnd : nodupB ((nuC (mOf all.toArray q A)).map (·.1)) = true) (hd : o.dst = none) (hop : openN (nuC (mOf all.toArray q A)) σ η = (σ1, η1)) (hw : wantedD all o σ1 = some true)
    (ho : o.op = .store t p v) (hp : cev σ1 p = some (.oe i n m)) (hv : cev σ1 v = some (.d y)) (hi : η1.e.get i = some (.row e kk rows)) (hn : n = rows.length)
    (hm : m = j * kk + off) (hr : rows[j]? = some r) (ht : tget E.T t = some ti) (hk : Nat.beq (cellsA y).length ti.size = true) (h1 : onesB (cellsA y) = true) (hl : spliceA r off (cellsA y) = some r')
    (h : DWP E N K (.tl all l (mNot all.toArray q A) (keepC all q pend) fs :: k) Q σ1 (η1.set i (.row e kk (rows.set j r')))) : DWP E N K (.tl all ((q, o, .one) :: l) A pend fs :: k) Q σ η :=
  DWP.tlEff hpd hnd (by rw [hd]; rfl) hop hw (DEff.storeRow j off ho hp hv hi hn hm hr ht hk h1 hl) (fun x η' hR => by obtain ⟨h2, rfl⟩ := hR; rw [hd]; exact h) (fun x η' hR => by cases hR.1)
theorem Weak.pushNil {G : Gl} {N : Nat} {σ : Sg} {η : List Ent} (e : TypeId) (k : Nat) : Weak G N σ η σ (η ++ [.row (.slice none 0 0) e k []]) := fun F w a hs => by
  have hkeep : Keeps w (Al F η) w (Al F (η ++ [Ent.row (.slice none 0 0) e k []])) := ⟨Nat.le_refl _, fun b _ ha => ⟨by simpa [Al, ids_append, ids_cons, Ent.ids, Value.ownBlock, ids] using ha, rfl⟩⟩
  refine ⟨⟨⟨hs.sg.1, fun s x hx => ⟨(hs.sg.2 s x hx).1, (hs.sg.2 s x hx).2.keep hkeep⟩⟩, ?_, hs.df⟩, fun b hb => ?_⟩
  · refine hs.hp.push (Nat.le_refl _) (fun _ _ => rfl) (by simp [Ent.ids, Value.ownBlock]) (by simp [Ent.ids, Value.ownBlock]) ?_
    exact ⟨[], by simp [RelRows], by simp, .inl ⟨rfl, rfl⟩⟩
  · simpa [ids_append, ids_cons, Ent.ids, Value.ownBlock, ids] using hb

theorem RelL.setOs {w : World} {A : Nat → Prop} {t : Nat} : ∀ {xs : List AV} {vs : List Value} {c : Nat}, xs[c]? = some (.v (.slice none 0 0)) → RelL w A xs vs → RelL w A (xs.set c (.os t none 0 0)) vs
  | x :: xs, vs, 0, hc, h => by
    simp only [List.getElem?_cons_zero, Option.some.injEq] at hc; subst hc
    simp only [RelL] at h
    obtain ⟨v, r, rfl, h1, h2⟩ := h
    simp only [List.set_cons_zero, RelL]
    exact ⟨v, r, rfl, by simp only [Rel] at h1 ⊢; exact h1, h2⟩
  | x :: xs, vs, c + 1, hc, h => by
    simp only [RelL] at h
    obtain ⟨v, r, rfl, h1, h2⟩ := h
    simp only [List.set_cons_succ, RelL]
    exact ⟨v, r, rfl, h1, RelL.setOs (by simpa using hc) h2⟩
theorem InstL.getD {ρ : Rho} : ∀ {xs : List CV} {ys : List AV} {c : Nat} {x : AV}, InstL ρ xs ys → xs[c]? = some (.d x) → ys[c]? = some x
  | y :: xs, ys, 0, x, h, hc => by
    simp only [List.getElem?_cons_zero, Option.some.injEq] at hc; subst hc
    simp only [InstL] at h
    obtain ⟨u, r, rfl, h1, _⟩ := h
    simp only [Inst] at h1; subst h1; rfl
  | y :: xs, ys, c + 1, x, h, hc => by
    simp only [InstL] at h
    obtain ⟨u, r, rfl, _, h2⟩ := h
    simpa using InstL.getD h2 (by simpa using hc)
theorem InstL.setOne {ρ : Rho} {x : CV} {y : AV} (hxy : Inst ρ x y) : ∀ {xs : List CV} {ys : List AV} {c : Nat}, InstL ρ xs ys → InstL ρ (xs.set c x) (ys.set c y)
  | [], ys, _, h => by simp only [InstL] at h; subst h; simp [InstL]
  | _ :: xs, ys, 0, h => by
    simp only [InstL] at h
    obtain ⟨u, r, rfl, _, h2⟩ := h
    simp only [List.set_cons_zero, InstL]; exact ⟨_, _, rfl, hxy, h2⟩
  | _ :: xs, ys, c + 1, h => by
    simp only [InstL] at h
    obtain ⟨u, r, rfl, h1, h2⟩ := h
    simp only [List.set_cons_succ, InstL]; exact ⟨_, _, rfl, h1, InstL.setOne hxy h2⟩

/-- A nil slice in a box owns an empty row. -/
theorem DC.nilCell (i c' e kk : Nat) {cs : List CV} (hi : η.e.get i = some (.box cs)) (hc : cs[c']? = some (.d (.v (.slice none 0 0)))) (h : DC E N K c Q σ ((η.push (.row e kk [])).set i (.box (cs.set c' (.os η.n 0))))) : DC E N K c Q σ η := fun ρ σB ηB hs hh => by
  obtain ⟨y, hy, hE⟩ := hh.en i _ hi
  obtain ⟨b, cs', hb, rfl, hcs⟩ := hE
  have hilt : i < ηB.length := by rw [nth_eq] at hy; exact (List.getElem?_eq_some_iff.1 hy).1
  have hdom := hh.dom η.n (Nat.le_refl _)
  have hl : ρ.le (ρ.setS η.n 0 (none, 0)) := Rho.le_setS fun y hy => by rw [hdom.2] at hy; cases hy
  have hbn : (ρ.setS η.n 0 (none, 0)).s η.n 0 = some (none, 0) := by simp [Rho.setS]
  have hy' : nth (ηB ++ [Ent.row (.slice none 0 0) e kk []]) i = some (.box b cs') := by rw [nth_eq] at hy ⊢; rw [List.getElem?_append_left hilt]; exact hy
  have hc2 : cs'[c']? = some (.v (.slice none 0 0)) := hcs.getD hc
  refine AWP.weak (Weak.pushNil e kk) (AWP.weak (Weak.ent i (y := .box b (cs'.set c' (.os ηB.length none 0 0))) hy' rfl (fun w A h => ?_)) ?_)
  · obtain ⟨e', vs, h1, h2⟩ := h
    exact ⟨e', vs, h1, h2.setOs hc2⟩
  refine AWP.mono (h _ _ _ (hs.mono hl) ?_) fun _ _ _ hq => lift_mono (hl.toK K) (fun _ _ _ h => h) hq
  have hp : HS (ρ.setS η.n 0 (none, 0)) (η.push (.row e kk [])) (ηB ++ [Ent.row (.slice none 0 0) e kk []]) := by
    refine hh.push hl (fun i hi => by funext m; simp [Rho.setS, hi]) (fun _ _ => rfl) ⟨⟨none, 0, by simpa using hbn, by simp⟩, fun m hm => ?_⟩
    have : m ≠ 0 := by simp at hm; omega
    simp only [Rho.setS, this, and_false, if_false]
    exact hdom.2 m
  refine hp.set (.refl _) (fun _ _ => rfl) (fun _ _ => rfl) ?_ ⟨b, _, hl.1 _ _ hb, rfl, (hcs.mono hl).setOne ?_⟩
  · have := hh.lt hi
    simp only [Hp.push]; omega
  · simp only [Inst]; exact ⟨none, 0, ηB.length, hbn, rfl⟩
theorem DWP.nilCell (i c' e kk n : Nat) {cs : List CV} (hn : η.n = n) (hi : η.e.get i = some (.box cs)) (hc : cs[c']? = some (.d (.v (.slice none 0 0)))) (h : DWP E N K (.code c :: k) Q σ ⟨Tr.put 24 (Tr.put 24 η.e n (some (.row e kk []))) i (some (.box (cs.set c' (.os n 0)))), n + 1⟩) : DWP E N K (.code c :: k) Q σ η := by
  subst hn
  unfold DWP at h ⊢; simp only [dq] at h ⊢; exact DC.nilCell i c' e kk hi hc h
theorem DWP.nilRowN (t e kk n : Nat) (hn : η.n = n) (ht : σ.get t = some (.d (.v (.slice none 0 0)))) (h : DWP E N K (.code c :: k) Q (Tr.put 24 σ t (some (.os n 0))) ⟨Tr.put 24 η.e n (some (.row e kk [])), n + 1⟩) : DWP E N K (.code c :: k) Q σ η := by
  subst hn; exact DWP.nilRow t e kk ht h

/-- The first append, in a tail. -/
theorem DWP.tlNilSl (n : Nat) {l : List (Nat × Oper × TK)} {A : Als} {pend : List (Nat × Oper × CV)} {fs : List (Nat × List AV × AV)} {q d u : Nat} {p : Operand} {t : TypeId} {ty : TypeId} {pos : String} {after : Array Edge} {e kk sz by' sz' by'' : Nat} {z z' : List Value} {td' : TD} {rows2 : List (List AV)} {σ1 : TS} {η1 : Hp} (hp : PendD E N all pend σ η) (hnd : nodupB ((nuC (mOf all.toArray q A)).map (·.1)) = true) (hd : Nat.blt d N = true) (hop : openN (nuC (mOf all.toArray q A)) σ η = (σ1, η1)) (hn : η1.n = n)
    (hu : σ1.get u = some (.d (.v (.slice none 0 0)))) (hx : cev (Tr.put 24 σ1 u (some (.os n 0))) p = some (.d (.sl kk rows2))) (ht : tget E.T t = some ⟨.slice e kk, sz, by', z⟩) (hte : tget E.T e = some ⟨td', sz', by'', z'⟩)
    (hs' : cev (Tr.put 24 σ1 u (some (.os n 0))) (.tmp u) = some (.os n 0)) (hi : (Tr.put 24 η1.e n (some (.row e kk []))).get n = some (.row e kk [])) (h1 : rowsOnes rows2 = true)
    (hk : Nat.ble 1 kk = true) (hby : Nat.ble 1 by'' = true) (hb : rows2.length * by'' ≤ 140737488355328)
    (k1 : DWP E N K (.tl all l (mNot all.toArray q A) (keepC all q pend) fs :: k) Q (putT σ1 (some d) (.os n rows2.length)) ⟨Tr.put 24 (Tr.put 24 η1.e n (some (.row e kk []))) n (some (.row e kk rows2)), n + 1⟩) :
    DWP E N K (.tl all ((q, ⟨some d, .call { callee := .builtin .append, args := #[.tmp u, p], argTypes := #[t, t] }, ty, pos, after, none⟩, .one) :: l) A pend fs :: k) Q σ η := by
  subst hn
  exact DWP.tlEff hp hnd hd hop rfl (DEff.nilRow u e kk hu (DEff.append (rows := []) rfl hb hs' hi rfl (.sl hx) ht hte h1 hk hby)) (fun x η' hR => by obtain ⟨h2, rfl⟩ := hR; cases h2; exact k1) (fun x η' hR => by cases hR.1)
theorem DWP.tlNilRow (n : Nat) {l : List (Nat × Oper × TK)} {A : Als} {pend : List (Nat × Oper × CV)} {fs : List (Nat × List AV × AV)} {q d u j m : Nat} {p : Operand} {t : TypeId} {ty : TypeId} {pos : String} {after : Array Edge} {e e' kk sz by' sz' by'' : Nat} {z z' : List Value} {td' : TD} {rows2 : List (List AV)} {σ1 : TS} {η1 : Hp} (hp : PendD E N all pend σ η) (hnd : nodupB ((nuC (mOf all.toArray q A)).map (·.1)) = true) (hd : Nat.blt d N = true) (hop : openN (nuC (mOf all.toArray q A)) σ η = (σ1, η1)) (hn : η1.n = n)
    (hu : σ1.get u = some (.d (.v (.slice none 0 0)))) (hx : cev (Tr.put 24 σ1 u (some (.os n 0))) p = some (.os j m)) (hj : (Tr.put 24 η1.e n (some (.row e kk []))).get j = some (.row e' kk rows2)) (hm : m = rows2.length) (ht : tget E.T t = some ⟨.slice e kk, sz, by', z⟩) (hte : tget E.T e = some ⟨td', sz', by'', z'⟩)
    (hs' : cev (Tr.put 24 σ1 u (some (.os n 0))) (.tmp u) = some (.os n 0)) (hi : (Tr.put 24 η1.e n (some (.row e kk []))).get n = some (.row e kk [])) (h1 : rowsOnes rows2 = true)
    (hk : Nat.ble 1 kk = true) (hby : Nat.ble 1 by'' = true) (hb : rows2.length * by'' ≤ 140737488355328)
    (k1 : DWP E N K (.tl all l (mNot all.toArray q A) (keepC all q pend) fs :: k) Q (putT σ1 (some d) (.os n rows2.length)) ⟨Tr.put 24 (Tr.put 24 η1.e n (some (.row e kk []))) n (some (.row e kk rows2)), n + 1⟩) :
    DWP E N K (.tl all ((q, ⟨some d, .call { callee := .builtin .append, args := #[.tmp u, p], argTypes := #[t, t] }, ty, pos, after, none⟩, .one) :: l) A pend fs :: k) Q σ η := by
  subst hn
  exact DWP.tlEff hp hnd hd hop rfl (DEff.nilRow u e kk hu (DEff.append (rows := []) rfl hb hs' hi rfl (.row hx hj hm) ht hte h1 hk hby)) (fun x η' hR => by obtain ⟨h2, rfl⟩ := hR; cases h2; exact k1) (fun x η' hR => by cases hR.1)

/-- Two that may change places, in a tail. -/
theorem DWP.tlPair {l : List (Nat × Oper × TK)} {A : Als} {pend : List (Nat × Oper × CV)} {fs : List (Nat × List AV × AV)} {i j : Nat} {o' : Oper} {y : TK} {η1 η2 η3 : Hp} (hp : PendD E N all pend σ η) (hd : o.dst = none) (hd' : o'.dst = none) (hw : wantedD all o σ = some true) (hw' : wantedD all o' σ = some true)
    (h1 : DEff E N o σ η (fun r η' => r = .ret (.d (.v undef)) ∧ η' = η1)) (p1 : PendD E N all (keepC all i pend) σ η1) (h2 : DEff E N o' σ η1 (fun r η' => r = .ret (.d (.v undef)) ∧ η' = η3))
    (h3 : DEff E N o' σ η (fun r η' => r = .ret (.d (.v undef)) ∧ η' = η2)) (p2 : PendD E N all (keepC all j pend) σ η2) (h4 : DEff E N o σ η2 (fun r η' => r = .ret (.d (.v undef)) ∧ η' = η3))
    (k1 : DWP E N K (.tl all l A (keepC all j (keepC all i pend)) fs :: k) Q σ η3) : DWP E N K (.tl all ((i, o, .two) :: (j, o', y) :: l) A pend fs :: k) Q σ η :=
  fun hf => DTl.pair hp hd hd' hw hw' h1 p1 h2 h3 p2 h4 (k1 hf)

/-- An element of a row of one's own, and a box, written in either order. -/
theorem DWP.tlPairRB {l : List (Nat × Oper × TK)} {A : Als} {pend : List (Nat × Oper × CV)} {fs : List (Nat × List AV × AV)} {qi qj : Nat} {o' : Oper} {ytk : TK} {t t2 : TypeId} {p v p2 v2 : Operand} {i n m e kk b off2 : Nat} {rows : List (List AV)} {r r' : List AV} {y : AV} {x2 : CV} {cs cs' : List CV} {ti ti2 : TI} (jn off : Nat) (hpd : PendD E N all pend σ η) (hd : o.dst = none) (hd' : o'.dst = none) (hw : wantedD all o σ = some true) (hw' : wantedD all o' σ = some true)
    (ho : o.op = .store t p v) (hpv : cev σ p = some (.oe i n m)) (hv : cev σ v = some (.d y)) (hi : η.e.get i = some (.row e kk rows)) (hn : n = rows.length) (hm : m = jn * kk + off) (hr : rows[jn]? = some r) (ht : tget E.T t = some ti) (hk : Nat.beq (cellsA y).length ti.size = true) (h1 : onesB (cellsA y) = true) (hl : spliceA r off (cellsA y) = some r')
    (ho' : o'.op = .store t2 p2 v2) (hp2 : cev σ p2 = some (.own b off2)) (hv2 : cev σ v2 = some x2) (hb : η.e.get b = some (.box cs)) (ht2 : tget E.T t2 = some ti2) (hk2 : Nat.beq (cellsC x2).length ti2.size = true) (h12 : onesC (cellsC x2) = true) (hl2 : spliceC cs off2 (cellsC x2) = some cs')
    (hi' : (η.set b (.box cs')).e.get i = some (.row e kk rows)) (hb' : (η.set i (.row e kk (rows.set jn r'))).e.get b = some (.box cs)) (he : (η.set b (.box cs')).set i (.row e kk (rows.set jn r')) = (η.set i (.row e kk (rows.set jn r'))).set b (.box cs'))
    (q1 : PendD E N all (keepC all qi pend) σ (η.set i (.row e kk (rows.set jn r')))) (q2 : PendD E N all (keepC all qj pend) σ (η.set b (.box cs')))
    (k1 : DWP E N K (.tl all l A (keepC all qj (keepC all qi pend)) fs :: k) Q σ ((η.set i (.row e kk (rows.set jn r'))).set b (.box cs'))) : DWP E N K (.tl all ((qi, o, .two) :: (qj, o', ytk) :: l) A pend fs :: k) Q σ η :=
  DWP.tlPair hpd hd hd' hw hw' (DEff.storeRow jn off ho hpv hv hi hn hm hr ht hk h1 hl) q1 (DEff.store ho' hp2 hv2 hb' ht2 hk2 h12 hl2) (DEff.store ho' hp2 hv2 hb ht2 hk2 h12 hl2) q2
    ((DEff.storeRow jn off ho hpv hv hi' hn hm hr ht hk h1 hl).mono fun r1 η' hR => ⟨hR.1, hR.2.trans he⟩) k1
theorem DWP.tlPairBR {l : List (Nat × Oper × TK)} {A : Als} {pend : List (Nat × Oper × CV)} {fs : List (Nat × List AV × AV)} {qi qj : Nat} {o' : Oper} {ytk : TK} {t t2 : TypeId} {p v p2 v2 : Operand} {i n m e kk b off2 : Nat} {rows : List (List AV)} {r r' : List AV} {y : AV} {x2 : CV} {cs cs' : List CV} {ti ti2 : TI} (jn off : Nat) (hpd : PendD E N all pend σ η) (hd : o.dst = none) (hd' : o'.dst = none) (hw : wantedD all o σ = some true) (hw' : wantedD all o' σ = some true)
    (ho : o'.op = .store t p v) (hpv : cev σ p = some (.oe i n m)) (hv : cev σ v = some (.d y)) (hi : η.e.get i = some (.row e kk rows)) (hn : n = rows.length) (hm : m = jn * kk + off) (hr : rows[jn]? = some r) (ht : tget E.T t = some ti) (hk : Nat.beq (cellsA y).length ti.size = true) (h1 : onesB (cellsA y) = true) (hl : spliceA r off (cellsA y) = some r')
    (ho' : o.op = .store t2 p2 v2) (hp2 : cev σ p2 = some (.own b off2)) (hv2 : cev σ v2 = some x2) (hb : η.e.get b = some (.box cs)) (ht2 : tget E.T t2 = some ti2) (hk2 : Nat.beq (cellsC x2).length ti2.size = true) (h12 : onesC (cellsC x2) = true) (hl2 : spliceC cs off2 (cellsC x2) = some cs')
    (hi' : (η.set b (.box cs')).e.get i = some (.row e kk rows)) (hb' : (η.set i (.row e kk (rows.set jn r'))).e.get b = some (.box cs)) (he : (η.set b (.box cs')).set i (.row e kk (rows.set jn r')) = (η.set i (.row e kk (rows.set jn r'))).set b (.box cs'))
    (q1 : PendD E N all (keepC all qi pend) σ (η.set b (.box cs'))) (q2 : PendD E N all (keepC all qj pend) σ (η.set i (.row e kk (rows.set jn r'))))
    (k1 : DWP E N K (.tl all l A (keepC all qj (keepC all qi pend)) fs :: k) Q σ ((η.set i (.row e kk (rows.set jn r'))).set b (.box cs'))) : DWP E N K (.tl all ((qi, o, .two) :: (qj, o', ytk) :: l) A pend fs :: k) Q σ η :=
  DWP.tlPair hpd hd hd' hw hw' (DEff.store ho' hp2 hv2 hb ht2 hk2 h12 hl2) q1 ((DEff.storeRow jn off ho hpv hv hi' hn hm hr ht hk h1 hl).mono fun r1 η' hR => ⟨hR.1, hR.2.trans he⟩) (DEff.storeRow jn off ho hpv hv hi hn hm hr ht hk h1 hl) q2
    (DEff.store ho' hp2 hv2 hb' ht2 hk2 h12 hl2) k1

theorem bndC_of {d n : Nat} {q : Operand} {kd : IntKind} {m : Int} (hm : m = (n : Int)) (h : cev σ q = some (.d (.v (.int kd m)))) : bndC σ d (some q) = some n := by
  subst hm
  simp only [bndC, h]; rfl
theorem bndC_no {d n : Nat} (h : d = n) : bndC σ d none = some n := by subst h; rfl

/-- An append of a literal, in other words; in a tail. -/
theorem DWP.tlAppI {l : List (Nat × Oper × TK)} {A : Als} {pend : List (Nat × Oper × CV)} {fs : List (Nat × List AV × AV)} {i q n d : Nat} {s p : Operand} {x : AV} {t : TypeId} {ty : TypeId} {pos : String} {after : Array Edge} {e kk sz by' sz' by'' : Nat} {z z' : List Value} {td' : TD} {rows rows2 : List (List AV)} {σ1 : TS} {η1 : Hp} (hp : PendD E N all pend σ η) (hnd : nodupB ((nuC (mOf all.toArray i A)).map (·.1)) = true) (hd : Nat.blt d N = true) (hop : openN (nuC (mOf all.toArray i A)) σ η = (σ1, η1))
    (hs' : cev σ1 s = some (.os q n)) (hi : η1.e.get q = some (.row e kk rows)) (hn : n = rows.length) (hx : cev σ1 p = some (.d x)) (hI : Imp x (.sl kk rows2)) (ht : tget E.T t = some ⟨.slice e kk, sz, by', z⟩) (hte : tget E.T e = some ⟨td', sz', by'', z'⟩) (h1 : rowsOnes rows2 = true)
    (hk : Nat.ble 1 kk = true) (hby : Nat.ble 1 by'' = true) (hb : (rows ++ rows2).length * by'' ≤ 140737488355328)
    (k1 : DWP E N K (.tl all l (mNot all.toArray i A) (keepC all i pend) fs :: k) Q (putT σ1 (some d) (.os q (rows ++ rows2).length)) (η1.set q (.row e kk (rows ++ rows2)))) :
    DWP E N K (.tl all ((i, ⟨some d, .call { callee := .builtin .append, args := #[s, p], argTypes := #[t, t] }, ty, pos, after, none⟩, .one) :: l) A pend fs :: k) Q σ η :=
  DWP.tlEff hp hnd hd hop rfl (DEff.append rfl hb hs' hi hn (.slI hx hI) ht hte h1 hk hby) (fun x η' hR => by obtain ⟨h2, rfl⟩ := hR; cases h2; exact k1) (fun x η' hR => by cases hR.1)
theorem DO.appI {i d n : Nat} {s p : Operand} {x : AV} {t : TypeId} {ty : TypeId} {pos : String} {after : Array Edge} {e kk sz by' sz' by'' : Nat} {z z' : List Value} {td' : TD} {rows rows2 : List (List AV)}
    (hs' : cev σ s = some (.os i n)) (hi : η.e.get i = some (.row e kk rows)) (hn : n = rows.length) (hx : cev σ p = some (.d x)) (hI : Imp x (.sl kk rows2)) (ht : tget E.T t = some ⟨.slice e kk, sz, by', z⟩) (hte : tget E.T e = some ⟨td', sz', by'', z'⟩) (h1 : rowsOnes rows2 = true)
    (hk : Nat.ble 1 kk = true) (hby : Nat.ble 1 by'' = true) (hd : Nat.blt d N = true) (hb : (rows ++ rows2).length * by'' ≤ 140737488355328)
    (k1 : DWP E N K (.ops all rest :: k) Q (putT σ (some d) (.os i (rows ++ rows2).length)) (η.set i (.row e kk (rows ++ rows2)))) :
    DWP E N K (.ops all (⟨some d, .call { callee := .builtin .append, args := #[s, p], argTypes := #[t, t] }, ty, pos, after, none⟩ :: rest) :: k) Q σ η :=
  DO.append hb hs' hi hn (.slI hx hI) ht hte h1 hk hby hd k1

theorem RelL.setSl {w : World} {A : Nat → Prop} {kk : Nat} : ∀ {xs : List AV} {vs : List Value} {c : Nat}, xs[c]? = some (.v (.slice none 0 0)) → RelL w A xs vs → RelL w A (xs.set c (.sl kk [])) vs
  | x :: xs, vs, 0, hc, h => by
    simp only [List.getElem?_cons_zero, Option.some.injEq] at hc; subst hc
    simp only [RelL] at h
    obtain ⟨v, r, rfl, h1, h2⟩ := h
    simp only [List.set_cons_zero, RelL]
    exact ⟨v, r, rfl, Imp.nil kk _ _ _ h1, h2⟩
  | x :: xs, vs, c + 1, hc, h => by
    simp only [RelL] at h
    obtain ⟨v, r, rfl, h1, h2⟩ := h
    simp only [List.set_cons_succ, RelL]
    exact ⟨v, r, rfl, h1, RelL.setSl (by simpa using hc) h2⟩
/-- A nil slice in a box is an empty one. -/
theorem DC.convCell (i c' kk : Nat) {cs : List CV} (hi : η.e.get i = some (.box cs)) (hc : cs[c']? = some (.d (.v (.slice none 0 0)))) (h : DC E N K c Q σ (η.set i (.box (cs.set c' (.d (.sl kk [])))))) : DC E N K c Q σ η := fun ρ σB ηB hs hh => by
  obtain ⟨y, hy, hE⟩ := hh.en i _ hi
  obtain ⟨b, cs', hb, rfl, hcs⟩ := hE
  have hc2 : cs'[c']? = some (.v (.slice none 0 0)) := hcs.getD hc
  refine AWP.weak (Weak.ent i (y := .box b (cs'.set c' (.sl kk []))) hy rfl (fun w A h => ?_)) ?_
  · obtain ⟨e', vs, h1, h2⟩ := h
    exact ⟨e', vs, h1, h2.setSl hc2⟩
  exact h ρ _ _ hs (hh.set (.refl ρ) (fun _ _ => rfl) (fun _ _ => rfl) (hh.lt hi) ⟨b, _, hb, rfl, hcs.setOne (by simp only [Inst])⟩)
theorem DWP.convCell (i c' kk : Nat) {cs : List CV} (hi : η.e.get i = some (.box cs)) (hc : cs[c']? = some (.d (.v (.slice none 0 0)))) (h : DWP E N K (.code c :: k) Q σ (η.set i (.box (cs.set c' (.d (.sl kk [])))))) : DWP E N K (.code c :: k) Q σ η := by
  unfold DWP at h ⊢; simp only [dq] at h ⊢; exact DC.convCell i c' kk hi hc h

/-- Is a slice nil? If it is, it is empty. -/
theorem DO.nilEq (t : Nat) {kk : Nat} {rows : List (List AV)} (ht : σ.get t = some (.d (.sl kk rows))) (h1 : ∀ cap, rows = [] → DO E N K all rest Q (Tr.put 24 σ t (some (.d (.v (.slice none 0 cap))))) η) (h2 : ∀ ad n cap, DO E N K all rest Q (Tr.put 24 σ t (some (.d (.v (.slice (some ad) n cap))))) η) : DO E N K all rest Q σ η := fun ρ σB ηB hs hh => by
  obtain ⟨y, g1, g2⟩ := hs t _ ht
  simp only [Inst] at g2; subst g2
  intro F w0 η0 a w hst hxt
  obtain ⟨hlt, hv⟩ := hst.sg.2 t _ g1
  have go : ∀ x : Value, Rel w (Al F ηB) (.v x) _ → DO E N K all rest Q (Tr.put 24 σ t (some (.d (.v x)))) η → _ := fun x hx hd =>
    hd ρ ((t, .v x) :: σB) ηB (hs.put (some t) (x := .d (.v x)) (y := .v x) rfl) hh F w0 η0 a w ⟨⟨hst.sg.1, fun u q hq => by
      simp only [look] at hq
      cases hb : Nat.beq t u with
      | true =>
        rw [hb] at hq; simp only [Option.some.injEq] at hq; subst hq
        rw [← Nat.eq_of_beq_eq_true hb]
        exact ⟨hlt, hx⟩
      | false => rw [hb] at hq; exact hst.sg.2 u q hq⟩, hst.hp, hst.df⟩ hxt
  simp only [Rel] at hv
  rcases hv with ⟨hr, ad, cap, he⟩ | ⟨b, o, cap, vs, he, _⟩
  · cases ad with
    | none => exact go _ (by simp only [Rel]; exact he) (h1 cap hr)
    | some ad => exact go _ (by simp only [Rel]; exact he) (h2 ad 0 cap)
  · exact go _ (by simp only [Rel]; exact he) (h2 _ _ cap)
theorem DWP.nilEq (t : Nat) {kk : Nat} {rows : List (List AV)} (ht : σ.get t = some (.d (.sl kk rows))) (h1 : ∀ cap, rows = [] → DWP E N K (.ops all rest :: k) Q (Tr.put 24 σ t (some (.d (.v (.slice none 0 cap))))) η) (h2 : ∀ ad n cap, DWP E N K (.ops all rest :: k) Q (Tr.put 24 σ t (some (.d (.v (.slice (some ad) n cap))))) η) : DWP E N K (.ops all rest :: k) Q σ η := DO.nilEq t ht h1 h2

theorem DOpS.nilS {t et : TypeId} {p q : Operand} {yt : TypeId} {ad : Option Addr} {n cap : Nat} (ho : o.op = .binOp .eql t p q yt) (hu : E.P.underlying t = some (.slice et)) (hp : cev σ p = some (.d (.v (.slice ad n cap)))) (hq : cev σ q = some (.d (.v (.slice none 0 0)))) : DOpS E N o σ (.d (.v (.bool ad.isNone))) :=
  DOpS.nop (by rw [ho]; cases ad <;> simp [Bw.nop, hu, cev_dat hp, cev_dat hq, isNilS, boolV])
end
end Go.Bw
