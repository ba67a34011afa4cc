/-
  Own work. The abstract machine, fourteenth part: tails of open regions in walks with open values.
-/
import Derived.Test.YtcngmkedekmkhaaGreatD13
namespace Go.Bw
open Go

section
variable {E : Env} {Q : DQ} {N K : Nat} {σ : TS} {η : Hp} {o : Oper} {all : List Oper} {k : List It} {x : CV} {l : List (Nat × Oper × TK)} {A : Als} {pend : List (Nat × Oper × CV)} {fs : List (Nat × List AV × AV)} {i : Nat} {ns : List (Nat × Nat)}

theorem DOpS.call {dst : Option Nat} {f : Operand} {args : List Operand} {g : FuncId} {cs : List CV} {xs : List AV} {res : AV} {tys : Array TypeId} {ty : TypeId} {pos : String} {after : Array Edge} {gd : Option (Nat × Bool)} (h : Pure E.toCx g xs (.ret res)) (hc : calleeC σ f args = some (g, cs)) (hx : allD cs = some xs) :
    DOpS E N ⟨dst, .call { callee := .value f, args := args.toArray, argTypes := tys }, ty, pos, after, gd⟩ σ (.d res) := fun ρ s ηB hs => by
  obtain ⟨ys, h1, h2⟩ := calleeC_inst hs hc
  have := allD_inst hx h2
  subst this
  exact ⟨res, rfl, OpP.pure rfl h h1⟩

theorem DOpS.idx {t : TypeId} {p ix : Operand} {e kk sz by' : Nat} {z : List Value} {rows : List (List AV)} {r : List AV} {kd : IntKind} {m : Int} (j : Nat) (ho : o.op = .indexAddr t p ix) (hp : cev σ p = some (.d (.sl kk rows)))
    (ht : tget E.T t = some ⟨.slice e kk, sz, by', z⟩) (hix : cev σ ix = some (.d (.v (.int kd m)))) (hm : m = (j : Int)) (hr : rows[j]? = some r) : DOpS E N o σ (.d (.ip r)) := fun ρ s ηB hs => by
  obtain ⟨y, h1, h2⟩ := cev_inst hs hp
  simp only [Inst] at h2; subst h2
  obtain ⟨y', h4, h5⟩ := cev_inst hs hix
  simp only [Inst] at h5; subst h5
  subst hm
  refine ⟨.ip r, rfl, OpP.kop (E := E) ?_⟩
  have hnat : natV (some (.v (.int kd (j : Int)))) = some j := rfl
  rw [ho]
  simp only [Bw.kop, h1, h4, hnat, ht, Nat.beq_refl, nth_eq, hr]

theorem DOpS.nop {y : AV} (h : nop E.P (dat σ) o.op = some y) : DOpS E N o σ (.d y) := fun ρ s ηB hs => ⟨y, rfl, (OpP.nop h).mono fun _ _ _ hy => dat_ss hs hy⟩
theorem DOpS.boolEq {t : TypeId} {p q : Operand} {yt : TypeId} {a b : Bool} (ho : o.op = .binOp .eql t p q yt) (hu : E.P.underlying t = some .bool) (hp : cev σ p = some (.d (.v (.bool a)))) (hq : cev σ q = some (.d (.v (.bool b)))) : DOpS E N o σ (.d (.v (.bool (a == b)))) :=
  DOpS.nop (by rw [ho]; simp only [Bw.nop, hu, cev_dat hp, cev_dat hq, isNilS, boolV])

/-- What floats is still so. -/
theorem PendD.nil : PendD E N all [] σ η := fun p hp => by cases hp
theorem PendD.cons {r : List (Nat × Oper × CV)} (hw : wantedD all o σ = some true) (h : DOpP E N o σ η x) (hr : PendD E N all r σ η) : PendD E N all ((i, o, x) :: r) σ η := fun p hp => by
  rcases List.mem_cons.1 hp with rfl | hp
  · exact .inl ⟨hw, h⟩
  · exact hr p hp
theorem PendD.skip {r : List (Nat × Oper × CV)} (hw : wantedD all o σ = some false) (hr : PendD E N all r σ η) : PendD E N all ((i, o, .d (.v undef)) :: r) σ η := fun p hp => by
  rcases List.mem_cons.1 hp with rfl | hp
  · exact .inr ⟨hw, rfl⟩
  · exact hr p hp
theorem DOpP.vop {cl : Bool} (h : vop E.P E.G E.T cl σ η o.op = some (x, ns)) (hn : eqs ns) : DOpP E N o σ η x := vop_ok h hn

/-- A float in a tail: a value that hangs on slots alone. -/
theorem DWP.tlSt (hp : PendD E N all pend σ η) (hd : dstB N o.dst = true) (hw : wantedD all o σ = some true) (hv : DOpS E N o σ x) (h : DWP E N K (.tl all l A pend fs :: k) Q (putT σ o.dst x) η) : DWP E N K (.tl all ((i, o, .fl) :: l) A pend fs :: k) Q σ η :=
  fun hf => DTl.st hp hd (.inl ⟨hw, hv⟩) (h hf)
/-- A float in a tail: a value that is to stay so. -/
theorem DWP.tlFl (hp : PendD E N all pend σ η) (hd : dstB N o.dst = true) (hw : wantedD all o σ = some true) (hv : DOpP E N o σ η x) (h : DWP E N K (.tl all l A ((i, o, x) :: pend) fs :: k) Q (putT σ o.dst x) η) : DWP E N K (.tl all ((i, o, .fl) :: l) A pend fs :: k) Q σ η :=
  fun hf => DTl.fl hp hd (.inl ⟨hw, hv⟩) (h hf)

/-- A step in a tail where something floats. -/
theorem DWP.tlStep (hm : E.P.follows .mixedOrders = true) (hp : PendD E N all pend σ η) (h : Nx.ok E Q (stepTl E.P E.G E.T cfgS (fun _ _ => none) N K all l A pend fs k σ η [] (.out (.stuck N K (.tl all l A pend fs :: k) σ η [])))) : DWP E N K (.tl all l A pend fs :: k) Q σ η :=
  (stepTl_ok (c := cfgS) (nest := fun _ _ => none) (fun g xs z hz => by cases hz) (fun g x h => by cases h) (fun _ => hp) h (fun h => h)).2


/-! ### Appends -/

theorem rowsOnes_map {α : Type} {f : α → List AV} : ∀ {l : List α}, (∀ x ∈ l, rowsOnes [f x] = true) → rowsOnes (l.map f) = true
  | [], _ => rfl
  | x :: l, h => by
    have h1 := h x (by simp)
    have h2 := rowsOnes_map (l := l) fun y hy => h y (by simp [hy])
    simp only [rowsOnes, List.all_cons, List.all_nil, Bool.and_true, List.map_cons] at h1 h2 ⊢
    rw [h1, h2]; rfl

theorem DO.appRow {rest : List Oper} {i d n j m : Nat} {s p : Operand} {t : TypeId} {ty : TypeId} {pos : String} {after : Array Edge} {e e' kk sz by' sz' by'' : Nat} {z z' : List Value} {td' : TD} {rows rows2 : List (List AV)}
    (hs' : cev σ s = some (.os i n)) (hi : η.e.get i = some (.row e kk rows)) (hn : n = rows.length) (hx : cev σ p = some (.os j m)) (hj : η.e.get j = some (.row e' kk rows2)) (hm : m = rows2.length) (ht : tget E.T t = some ⟨.slice e kk, sz, by', z⟩) (hte : tget E.T e = some ⟨td', sz', by'', z'⟩) (h1 : rowsOnes rows2 = true)
    (hk : Nat.ble 1 kk = true) (hby : Nat.ble 1 by'' = true) (hd : Nat.blt d N = true) (hb : (rows ++ rows2).length * by'' ≤ 140737488355328)
    (k1 : DWP E N K (.ops all rest :: k) Q (putT σ (some d) (.os i (rows ++ rows2).length)) (η.set i (.row e kk (rows ++ rows2)))) :
    DWP E N K (.ops all (⟨some d, .call { callee := .builtin .append, args := #[s, p], argTypes := #[t, t] }, ty, pos, after, none⟩ :: rest) :: k) Q σ η :=
  DO.append hb hs' hi hn (.row hx hj hm) ht hte h1 hk hby hd k1

theorem DO.appSl {rest : List Oper} {i d n : Nat} {s p : Operand} {t : TypeId} {ty : TypeId} {pos : String} {after : Array Edge} {e kk sz by' sz' by'' : Nat} {z z' : List Value} {td' : TD} {rows rows2 : List (List AV)}
    (hs' : cev σ s = some (.os i n)) (hi : η.e.get i = some (.row e kk rows)) (hn : n = rows.length) (hx : cev σ p = some (.d (.sl kk rows2))) (ht : tget E.T t = some ⟨.slice e kk, sz, by', z⟩) (hte : tget E.T e = some ⟨td', sz', by'', z'⟩) (h1 : rowsOnes rows2 = true)
    (hk : Nat.ble 1 kk = true) (hby : Nat.ble 1 by'' = true) (hd : Nat.blt d N = true) (hb : (rows ++ rows2).length * by'' ≤ 140737488355328)
    (k1 : DWP E N K (.ops all rest :: k) Q (putT σ (some d) (.os i (rows ++ rows2).length)) (η.set i (.row e kk (rows ++ rows2)))) :
    DWP E N K (.ops all (⟨some d, .call { callee := .builtin .append, args := #[s, p], argTypes := #[t, t] }, ty, pos, after, none⟩ :: rest) :: k) Q σ η :=
  DO.append hb hs' hi hn (.sl hx) ht hte h1 hk hby hd k1

theorem DWP.tlEff {R : DR → Hp → Prop} {σ1 : TS} {η1 : Hp} (hp : PendD E N all pend σ η) (hnd : nodupB ((nuC (mOf all.toArray i A)).map (·.1)) = true) (hd : dstB N o.dst = true) (hop : openN (nuC (mOf all.toArray i A)) σ η = (σ1, η1)) (hw : wantedD all o σ1 = some true) (h : DEff E N o σ1 η1 R)
    (k1 : ∀ x η', R (.ret x) η' → DWP E N K (.tl all l (mNot all.toArray i A) (keepC all i pend) fs :: k) Q (putT σ1 o.dst x) η') (k2 : ∀ x η', R (.pan x) η' → False) : DWP E N K (.tl all ((i, o, .one) :: l) A pend fs :: k) Q σ η :=
  fun hf => DTl.eff hp hnd hd hop hw h (fun x η' hR => k1 x η' hR hf) (fun x η' hR => (k2 x η' hR).elim)

theorem DWP.tlAppSl {q n d : Nat} {s p : Operand} {t : TypeId} {ty : TypeId} {pos : String} {after : Array Edge} {e kk sz by' sz' by'' : Nat} {z z' : List Value} {td' : TD} {rows rows2 : List (List AV)} {σ1 : TS} {η1 : Hp} (hp : PendD E N all pend σ η) (hnd : nodupB ((nuC (mOf all.toArray i A)).map (·.1)) = true) (hd : Nat.blt d N = true) (hop : openN (nuC (mOf all.toArray i A)) σ η = (σ1, η1))
    (hs' : cev σ1 s = some (.os q n)) (hi : η1.e.get q = some (.row e kk rows)) (hn : n = rows.length) (hx : cev σ1 p = some (.d (.sl kk rows2))) (ht : tget E.T t = some ⟨.slice e kk, sz, by', z⟩) (hte : tget E.T e = some ⟨td', sz', by'', z'⟩) (h1 : rowsOnes rows2 = true)
    (hk : Nat.ble 1 kk = true) (hby : Nat.ble 1 by'' = true) (hb : (rows ++ rows2).length * by'' ≤ 140737488355328)
    (k1 : DWP E N K (.tl all l (mNot all.toArray i A) (keepC all i pend) fs :: k) Q (putT σ1 (some d) (.os q (rows ++ rows2).length)) (η1.set q (.row e kk (rows ++ rows2)))) :
    DWP E N K (.tl all ((i, ⟨some d, .call { callee := .builtin .append, args := #[s, p], argTypes := #[t, t] }, ty, pos, after, none⟩, .one) :: l) A pend fs :: k) Q σ η :=
  DWP.tlEff hp hnd hd hop rfl (DEff.append rfl hb hs' hi hn (.sl hx) ht hte h1 hk hby) (fun x η' hR => by obtain ⟨h2, rfl⟩ := hR; cases h2; exact k1) (fun x η' hR => by cases hR.1)

theorem DWP.tlAppRow {q n d j m : Nat} {s p : Operand} {t : TypeId} {ty : TypeId} {pos : String} {after : Array Edge} {e e' kk sz by' sz' by'' : Nat} {z z' : List Value} {td' : TD} {rows rows2 : List (List AV)} {σ1 : TS} {η1 : Hp} (hp : PendD E N all pend σ η) (hnd : nodupB ((nuC (mOf all.toArray i A)).map (·.1)) = true) (hd : Nat.blt d N = true) (hop : openN (nuC (mOf all.toArray i A)) σ η = (σ1, η1))
    (hs' : cev σ1 s = some (.os q n)) (hi : η1.e.get q = some (.row e kk rows)) (hn : n = rows.length) (hx : cev σ1 p = some (.os j m)) (hj : η1.e.get j = some (.row e' kk rows2)) (hm : m = rows2.length) (ht : tget E.T t = some ⟨.slice e kk, sz, by', z⟩) (hte : tget E.T e = some ⟨td', sz', by'', z'⟩) (h1 : rowsOnes rows2 = true)
    (hk : Nat.ble 1 kk = true) (hby : Nat.ble 1 by'' = true) (hb : (rows ++ rows2).length * by'' ≤ 140737488355328)
    (k1 : DWP E N K (.tl all l (mNot all.toArray i A) (keepC all i pend) fs :: k) Q (putT σ1 (some d) (.os q (rows ++ rows2).length)) (η1.set q (.row e kk (rows ++ rows2)))) :
    DWP E N K (.tl all ((i, ⟨some d, .call { callee := .builtin .append, args := #[s, p], argTypes := #[t, t] }, ty, pos, after, none⟩, .one) :: l) A pend fs :: k) Q σ η :=
  DWP.tlEff hp hnd hd hop rfl (DEff.append rfl hb hs' hi hn (.row hx hj hm) ht hte h1 hk hby) (fun x η' hR => by obtain ⟨h2, rfl⟩ := hR; cases h2; exact k1) (fun x η' hR => by cases hR.1)

variable {N' K' : Nat} {todo' : List It} {σ' : TS} {η' : Hp}
theorem Nx.go_ok (hn : eqs ns) (h : DWP E N' K' todo' Q σ' η') : Nx.ok E Q (.go N' K' todo' σ' η' ns) := ⟨hn, h⟩
end
end Go.Bw
