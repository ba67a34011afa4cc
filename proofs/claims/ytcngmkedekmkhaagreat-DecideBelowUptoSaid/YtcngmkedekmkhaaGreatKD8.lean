/-
  Own work. The abstract machine, eighth part: the driver's lemmas for walks with open values. Own work. The abstract machine, ninth part: single operations in walks with open values. Own work. The abstract machine, tenth part: bytes of text in walks with open values. Own work. The abstract machine, eleventh part: loops that count over a list, in walks with open values.
-/
import Derived.Test.YtcngmkedekmkhaaGreatD7
section
noncomputable section
namespace Go.Bw
open Go
def cfgS : Cfg := ⟨false, fun _ => false, fun _ => false, fun _ => false, fun _ => none, fun _ => none, []⟩
section
variable {E : Env} {Q : DQ} {N K N' K' : Nat} {todo todo' t1 t2 : List It} {σ σ' s1 s2 : TS} {η η' : Hp} {ns : List (Nat × Nat)}
def cfgK : Cfg := ⟨true, fun _ => false, fun _ => false, fun _ => false, fun _ => none, fun _ => none, []⟩
theorem dx_finK (hm : E.P.follows .mixedOrders = true) (f : Nat) {e : DE} (h : dx E.P E.G E.T cfgK f N K todo σ η [] = .fin e σ' η' []) (k : Q e σ' η') : DWP E N K todo Q σ η :=
  (dx_ok hm cfgK (fun f hf => by cases hf) (fun f ty z h => by cases h) (fun g x h => by cases h) f Q N K todo σ η [] (by rw [h]; exact ⟨trivial, k⟩)).2
theorem Pure.walk {g : FuncId} {fn : Func} {c : Code} {xs : List AV} {rs : List ResultVar} {nt : Nat} {res : AR} (hf : E.P.funcs[g]? = some fn) (hb : fn.body = some c) (hname : (fn.name == "runtime.NumGoroutine") = false) (hrs : fn.results = rs.toArray) (hnt : fn.ntmps = nt) (hn : Nat.ble xs.length nt = true)
    (h : DWP E nt 0 [.code c] (RD E.T rs (Ends 60 res)) (ofArgs 0 (xs.map .d)) Hp.nil) : Pure E.toCx g xs res := Pure.ofD 60 (DCall.enter hf hb hname rs hrs nt hnt (by simpa using hn) h)
end
end Go.Bw
end

section
noncomputable section
namespace Go.Bw
open Go
section
variable {E : Env} {Q : DQ} {N K : Nat} {σ : TS} {η : Hp} {o : Oper} {all rest : List Oper} {k : List It} {x : CV}
theorem DWP.val (hg : o.guard = none) (hd : dstB N o.dst = true) (h : DOpP E N o σ η x) (hk : DWP E N K (.ops all rest :: k) Q (putT σ o.dst x) η) : DWP E N K (.ops all (o :: rest) :: k) Q σ η := DO.ofP hg hd h hk
theorem DWP.idx {t : TypeId} {p ix : Operand} {e kk sz by' : Nat} {z : List Value} {rows : List (List AV)} {r : List AV} {kd : IntKind} {m : Int} {dst : Option Nat} {ty : TypeId} {pos : String} {after : Array Edge} (j : Nat) (hp : cev σ p = some (.d (.sl kk rows)))
    (ht : tget E.T t = some ⟨.slice e kk, sz, by', z⟩) (hix : cev σ ix = some (.d (.v (.int kd m)))) (hm : m = (j : Int)) (hr : rows[j]? = some r) (hd : dstB N dst = true) (hk : DWP E N K (.ops all rest :: k) Q (putT σ dst (.d (.ip r))) η) :
    DWP E N K (.ops all (⟨dst, .indexAddr t p ix, ty, pos, after, none⟩ :: rest) :: k) Q σ η := DWP.val (o := ⟨dst, .indexAddr t p ix, ty, pos, after, none⟩) rfl hd (DOpP.idx j rfl hp ht hix hm hr) hk
theorem DWP.pure {dst : Option Nat} {f : Operand} {args : List Operand} {g : FuncId} {cs : List CV} {xs : List AV} {res : AV} {tys : Array TypeId} {ty : TypeId} {pos : String} {after : Array Edge} (h : Pure E.toCx g xs (.ret res)) (hc : calleeC σ f args = some (g, cs)) (hx : allD cs = some xs) (hd : dstB N dst = true)
    (hk : DWP E N K (.ops all rest :: k) Q (putT σ dst (.d res)) η) : DWP E N K (.ops all (⟨dst, .call { callee := .value f, args := args.toArray, argTypes := tys }, ty, pos, after, none⟩ :: rest) :: k) Q σ η :=
  DWP.val (o := ⟨dst, .call { callee := .value f, args := args.toArray, argTypes := tys }, ty, pos, after, none⟩) rfl hd (fun ρ s ηB hs _ => by
    obtain ⟨ys, h1, h2⟩ := calleeC_inst hs hc
    have := allD_inst hx h2
    subst this
    exact ⟨res, rfl, OpP.pure rfl h h1⟩) hk
theorem DWP.skip (h : DWP E N K k Q σ η) : DWP E N K (.code .skip :: k) Q σ η := DC.skip h
theorem DWP.seq {x y : Code} (h : DWP E N K (.code x :: .code y :: k) Q σ η) : DWP E N K (.code (.seq x y) :: k) Q σ η := DC.seq (by rw [dq_then]; exact h)
theorem DWP.openR {id : Nat} {l : List Oper} (pre : List Nat) (tl : List (Nat × TK)) (al : List Nat) (A : Als) (hm : E.P.follows .mixedOrders = true) (hA : alsA E.T l.toArray N al = some A) (hB : orderT l.toArray pre tl al = true) (hl : Nat.beq (pickOps l.toArray pre).length pre.length = true)
    (h : DWP E N K (.lex l (pickT1 l.toArray tl) A (pickOps l.toArray pre) [] :: k) Q σ η) : DWP E N K (.code (.region id l.toArray true) :: k) Q σ η := DC.open pre tl al A hm hA hB hl h
theorem DWP.lexVal {A : Als} {tl : List (Nat × Oper × TK)} {pre : List Oper} {ν : List (Nat × List CV)} (hd : dstB N o.dst = true) (hw : wantedD all o σ = some true) (hf : freshD o ν = true) (h : DOpP E N o σ η x) (hk : DWP E N K (.lex all tl A pre ν :: k) Q (putT σ o.dst x) η) : DWP E N K (.lex all tl A (o :: pre) ν :: k) Q σ η := DLex.val hd hw hf h hk
theorem DOpP.call {dst : Option Nat} {f : Operand} {args : List Operand} {g : FuncId} {cs : List CV} {xs : List AV} {res : AV} {tys : Array TypeId} {ty : TypeId} {pos : String} {after : Array Edge} {gd : Option (Nat × Bool)} (h : Pure E.toCx g xs (.ret res)) (hc : calleeC σ f args = some (g, cs)) (hx : allD cs = some xs) : DOpP E N ⟨dst, .call { callee := .value f, args := args.toArray, argTypes := tys }, ty, pos, after, gd⟩ σ η (.d res) := fun ρ s ηB hs _ => by
  obtain ⟨ys, h1, h2⟩ := calleeC_inst hs hc
  have := allD_inst hx h2
  subst this
  exact ⟨res, rfl, OpP.pure rfl h h1⟩
theorem cev_dat {p : Operand} {y : AV} (h : cev σ p = some (.d y)) : ev (dat σ) p = some y := by
  cases p with
  | tmp t =>
    have h : σ.get t = some (.d y) := h
    show dat σ t = some y
    unfold dat; rw [h]
  | const v => cases h; rfl
  | global g => cases h; rfl
  | func f => cases h; rfl
end
end Go.Bw
end

section
noncomputable section
namespace Go.Bw
open Go
section
variable {E : Env} {Q : DQ} {N K : Nat} {σ : TS} {η : Hp} {o : Oper} {all rest : List Oper} {k : List It}
end
end Go.Bw
end

section
noncomputable section
namespace Go.Bw
open Go
theorem get_map {α β : Type} {f : α → β} {xs : List α} {i : Nat} {x : α} (h : xs[i]? = some x) : (xs.map f)[i]? = some (f x) := by rw [List.getElem?_map, h]; rfl
section
variable {E : Env} {Q : DQ} {N K : Nat} {σ : TS} {η : Hp} {k : List It} {S : Type}
def NextP (m : Nat) (ts : List Nat) (n : Nat) (L : Int → S → List (Nat × CV)) (H : Nat → S → List CEnt) (J : Nat → S → Prop) (i : Nat) (σ1 : TS) (η1 : Hp) : Prop :=
  ∃ n', n' < n - i ∧ ∃ l' es', m ≤ η1.n ∧ pickT m ts σ1 = some l' ∧ takeH m η1 = some es' ∧ ∃ (j : Nat) (s : S), j ≤ n ∧ n' = n - j ∧ l' = L (j : Int) s ∧ es' = H j s ∧ J j s
theorem DWP.next {m : Nat} {ts : List Nat} {n : Nat} {L : Int → S → List (Nat × CV)} {H : Nat → S → List CEnt} {J : Nat → S → Prop} {i : Nat} (s' : S) (hi : i < n) (hn : n < 4611686018427387904) (hm : Nat.ble m η.n = true) (hp : pickT m ts σ = some (L (IntKind.i64.wrap ((i : Int) + 1)) s')) (he : takeH m η = some (H (i + 1) s')) (hj : J (i + 1) s') :
    DWP E N K (.lp (NextP m ts n L H J i) :: k) Q σ η :=
  DWP.lp ⟨n - (i + 1), by omega, _, _, Nat.le_of_ble_eq_true hm, hp, he, i + 1, s', by omega, rfl, by
    have : IntKind.i64.wrap ((i : Int) + 1) = ((i + 1 : Nat) : Int) := by rw [IntKind.wrap_i64]; omega
    rw [this], rfl, hj⟩
end
end Go.Bw
end
