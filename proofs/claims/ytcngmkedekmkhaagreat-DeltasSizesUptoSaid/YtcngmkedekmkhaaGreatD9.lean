/-
  Own work. The abstract machine, ninth part: single operations in walks with open values.
-/
import Derived.Test.YtcngmkedekmkhaaGreatD8
namespace Go.Bw
open Go

section
variable {E : Env} {Q : DQ} {N K : Nat} {σ : TS} {η : Hp} {o : Oper} {all rest : List Oper} {k : List It} {x : CV}

theorem dx_condT {N' K' : Nat} {todo t1 t2 : List It} {s1 s2 : TS} {η' : Hp} {ns : List (Nat × Nat)} (hm : E.P.follows .mixedOrders = true) (f : Nat) (h : dx E.P E.G E.T cfgS f N K todo σ η [] = .cond true N' K' t1 s1 t2 s2 η' ns) (hn : eqs ns) (k1 : DWP E N' K' t1 Q s1 η') : DWP E N K todo Q σ η :=
  dx_cond hm f h hn (fun _ => k1) (fun h => by cases h)
theorem dx_condF {N' K' : Nat} {todo t1 t2 : List It} {s1 s2 : TS} {η' : Hp} {ns : List (Nat × Nat)} (hm : E.P.follows .mixedOrders = true) (f : Nat) (h : dx E.P E.G E.T cfgS f N K todo σ η [] = .cond false N' K' t1 s1 t2 s2 η' ns) (hn : eqs ns) (k2 : DWP E N' K' t2 Q s2 η') : DWP E N K todo Q σ η :=
  dx_cond hm f h hn (fun h => by cases h) (fun _ => k2)

theorem DWP.val (hg : o.guard = none) (hd : dstB N o.dst = true) (h : DOpP E N o σ η x) (hk : DWP E N K (.ops all rest :: k) Q (putT σ o.dst x) η) : DWP E N K (.ops all (o :: rest) :: k) Q σ η := DO.ofP hg hd h hk

theorem DWP.idx {t : TypeId} {p ix : Operand} {e kk sz by' : Nat} {z : List Value} {rows : List (List AV)} {r : List AV} {kd : IntKind} {m : Int} {dst : Option Nat} {ty : TypeId} {pos : String} {after : Array Edge} (j : Nat) (hp : cev σ p = some (.d (.sl kk rows)))
    (ht : tget E.T t = some ⟨.slice e kk, sz, by', z⟩) (hix : cev σ ix = some (.d (.v (.int kd m)))) (hm : m = (j : Int)) (hr : rows[j]? = some r) (hd : dstB N dst = true) (hk : DWP E N K (.ops all rest :: k) Q (putT σ dst (.d (.ip r))) η) :
    DWP E N K (.ops all (⟨dst, .indexAddr t p ix, ty, pos, after, none⟩ :: rest) :: k) Q σ η := DWP.val (o := ⟨dst, .indexAddr t p ix, ty, pos, after, none⟩) rfl hd (DOpP.idx j rfl hp ht hix hm hr) hk

theorem DWP.pure {dst : Option Nat} {f : Operand} {args : List Operand} {g : FuncId} {cs : List CV} {xs : List AV} {res : AV} {tys : Array TypeId} {ty : TypeId} {pos : String} {after : Array Edge} (h : Pure E.toCx g xs (.ret res)) (hc : calleeC σ f args = some (g, cs)) (hx : allD cs = some xs) (hd : dstB N dst = true)
    (hk : DWP E N K (.ops all rest :: k) Q (putT σ dst (.d res)) η) : DWP E N K (.ops all (⟨dst, .call { callee := .value f, args := args.toArray, argTypes := tys }, ty, pos, after, none⟩ :: rest) :: k) Q σ η :=
  DWP.val (o := ⟨dst, .call { callee := .value f, args := args.toArray, argTypes := tys }, ty, pos, after, none⟩) rfl hd (fun ρ s ηB hs _ => by
    obtain ⟨ys, h1, h2⟩ := calleeC_inst hs hc
    have := allD_inst hx h2
    subst this
    exact ⟨res, rfl, OpP.pure rfl h h1⟩) hk

/-- One plain result. -/
theorem DWP.skip (h : DWP E N K k Q σ η) : DWP E N K (.code .skip :: k) Q σ η := DC.skip h
theorem DWP.seq {x y : Code} (h : DWP E N K (.code x :: .code y :: k) Q σ η) : DWP E N K (.code (.seq x y) :: k) Q σ η := DC.seq (by rw [dq_then]; exact h)

/-- An open region, its plan given. -/
theorem DWP.openR {id : Nat} {l : List Oper} (pre : List Nat) (tl : List (Nat × TK)) (al : List Nat) (A : Als) (hm : E.P.follows .mixedOrders = true) (hA : alsA E.T l.toArray N al = some A) (hB : orderT l.toArray pre tl al = true) (hl : Nat.beq (pickOps l.toArray pre).length pre.length = true)
    (h : DWP E N K (.lex l (pickT1 l.toArray tl) A (pickOps l.toArray pre) [] :: k) Q σ η) : DWP E N K (.code (.region id l.toArray true) :: k) Q σ η := DC.open pre tl al A hm hA hB hl h

theorem DWP.lexVal {A : Als} {tl : List (Nat × Oper × TK)} {pre : List Oper} {ν : List (Nat × List CV)} (hd : dstB N o.dst = true) (hw : wantedD all o σ = some true) (hf : freshD o ν = true) (h : DOpP E N o σ η x) (hk : DWP E N K (.lex all tl A pre ν :: k) Q (putT σ o.dst x) η) : DWP E N K (.lex all tl A (o :: pre) ν :: k) Q σ η := DLex.val hd hw hf h hk

/-- A call that keeps nothing, its arguments plain. -/
theorem DOpP.call {dst : Option Nat} {f : Operand} {args : List Operand} {g : FuncId} {cs : List CV} {xs : List AV} {res : AV} {tys : Array TypeId} {ty : TypeId} {pos : String} {after : Array Edge} {gd : Option (Nat × Bool)} (h : Pure E.toCx g xs (.ret res)) (hc : calleeC σ f args = some (g, cs)) (hx : allD cs = some xs) : DOpP E N ⟨dst, .call { callee := .value f, args := args.toArray, argTypes := tys }, ty, pos, after, gd⟩ σ η (.d res) := fun ρ s ηB hs _ => by
  obtain ⟨ys, h1, h2⟩ := calleeC_inst hs hc
  have := allD_inst hx h2
  subst this
  exact ⟨res, rfl, OpP.pure rfl h h1⟩

theorem cev_dat {p : Operand} {y : AV} (h : cev σ p = some (.d y)) : ev (dat σ) p = some y := by
  cases p with
  | tmp t =>
    have h : σ.get t = some (.d y) := h
    show dat σ t = some y
    unfold dat; rw [h]
  | const v => cases h; rfl
  | global g => cases h; rfl
  | func f => cases h; rfl

theorem DOpP.boolEq {t : TypeId} {p q : Operand} {yt : TypeId} {a b : Bool} (ho : o.op = .binOp .eql t p q yt) (hu : E.P.underlying t = some .bool) (hp : cev σ p = some (.d (.v (.bool a)))) (hq : cev σ q = some (.d (.v (.bool b)))) : DOpP E N o σ η (.d (.v (.bool (a == b)))) :=
  DOpP.nop (by rw [ho]; simp only [Bw.nop, hu, cev_dat hp, cev_dat hq, isNilS, boolV])

theorem RD.ret1 {rs : List ResultVar} {x y : AV} (h : resD E.T σ η rs = some [.d x]) (hf : frzL η.e 60 [.d x] = some ([x], [], [])) (e : x = y) : RD E.T rs (Ends 60 (.ret y)) .ret σ η := ⟨_, h, x, [], [], hf, trivial, y, rfl, by subst e; exact Imp.refl x⟩
end
end Go.Bw
