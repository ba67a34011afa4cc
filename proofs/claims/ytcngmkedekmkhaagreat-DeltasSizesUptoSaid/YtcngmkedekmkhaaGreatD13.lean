/-
  Own work. The abstract machine, thirteenth part: the driver of walks with open values that stands still where an order is open.
-/
import Derived.Test.YtcngmkedekmkhaaGreatD12
namespace Go.Bw
open Go

theorem eqs_nil : eqs [] := trivial
theorem eqs_cons {a b : Nat} {r : List (Nat × Nat)} (h : a = b) (k : eqs r) : eqs ((a, b) :: r) := ⟨h, k⟩

/-- An append to a row of one's own. -/
def appB (σ : TS) : Op → Bool
  | .call { callee := .builtin .append, args := as, argTypes := _ } => match as.toList with
    | .tmp t :: _ => match σ.get t with
      | some (.os _ _) => true
      | _ => false
    | _ => false
  | _ => false

/-- A region whose order is open comes next, or what hangs on lengths that are not known. -/
def opn (σ : TS) : List It → Bool
  | .code (.region _ _ true) :: _ => true
  | .ops _ (o :: _) :: _ => appB σ o.op
  | .tl _ ((_, o, .one) :: _) _ _ _ :: _ => appB σ o.op
  | _ => false

def ds (P : Program) (G : Gl) (T : Tab) : Nat → Nat → Nat → List It → TS → Hp → List (Nat × Nat) → Out
  | 0, N, K, todo, σ, η, ns => .stuck N K todo σ η ns
  | f + 1, N, K, todo, σ, η, ns => match opn σ todo with
    | true => .stuck N K todo σ η ns
    | false => match step P G T cfgS (fun _ _ => none) f N K todo σ η ns with
      | .go N' K' todo' σ' η' ns' => ds P G T f N' K' todo' σ' η' ns'
      | .out o => o

section
variable {E : Env}

theorem ds_ok (hm : E.P.follows .mixedOrders = true) : ∀ (f : Nat) (Q : DQ) (N K : Nat) (todo : List It) (σ : TS) (η : Hp) (ns : List (Nat × Nat)), Out.ok E Q (ds E.P E.G E.T f N K todo σ η ns) → eqs ns ∧ DWP E N K todo Q σ η
  | 0, _, _, _, _, _, _, _, h => h
  | f + 1, Q, N, K, todo, σ, η, ns, h => by
    unfold ds at h
    split at h
    · exact h
    · refine step_ok (c := cfgS) (fl := f) hm (fun f hf => by cases hf) (fun f ty z h => by cases h) (fun g x h => by cases h) (nest := fun _ _ => none) (fun g xs z hz => by cases hz) ?_
      revert h
      cases step E.P E.G E.T cfgS (fun _ _ => none) f N K todo σ η ns with
      | go N' K' todo' σ' η' ns' => intro h; exact ds_ok hm f Q N' K' todo' σ' η' ns' h
      | out o => intro h; exact h

variable {Q : DQ} {N K N' K' : Nat} {todo todo' t1 t2 : List It} {σ σ' s1 s2 : TS} {η η' : Hp} {ns : List (Nat × Nat)}

theorem ds_run (hm : E.P.follows .mixedOrders = true) (f : Nat) (k : Out.ok E Q (ds E.P E.G E.T f N K todo σ η [])) : DWP E N K todo Q σ η := (ds_ok hm f Q N K todo σ η [] k).2

theorem Ok.stuck (hn : eqs ns) (k : DWP E N' K' todo' Q σ' η') : Out.ok E Q (.stuck N' K' todo' σ' η' ns) := ⟨hn, k⟩
theorem Ok.cond {b : Bool} (hn : eqs ns) (k1 : b = true → DWP E N' K' t1 Q s1 η') (k2 : b = false → DWP E N' K' t2 Q s2 η') : Out.ok E Q (.cond b N' K' t1 s1 t2 s2 η' ns) := ⟨hn, k1, k2⟩
theorem Ok.condT (hn : eqs ns) (k1 : DWP E N' K' t1 Q s1 η') : Out.ok E Q (.cond true N' K' t1 s1 t2 s2 η' ns) := ⟨hn, fun _ => k1, (fun h => nomatch h)⟩
theorem Ok.condF (hn : eqs ns) (k2 : DWP E N' K' t2 Q s2 η') : Out.ok E Q (.cond false N' K' t1 s1 t2 s2 η' ns) := ⟨hn, (fun h => nomatch h), fun _ => k2⟩
theorem Ok.fin {e : DE} (hn : eqs ns) (k : Q e σ' η') : Out.ok E Q (.fin e σ' η' ns) := ⟨hn, k⟩

/-- A value, whatever kind of region it stands in. -/
theorem Ok.val {o : Oper} {all rest : List Oper} {k : List It} {x : CV} (hn : eqs ns) (hg : o.guard = none) (hd : dstB N' o.dst = true) (h : DOpP E N' o σ' η' x) (hk : DWP E N' K' (.ops all rest :: k) Q (putT σ' o.dst x) η') : Out.ok E Q (.stuck N' K' (.ops all (o :: rest) :: k) σ' η' ns) :=
  ⟨hn, DWP.val hg hd h hk⟩
theorem Ok.lexVal {o : Oper} {all pre : List Oper} {tl : List (Nat × Oper × TK)} {A : Als} {ν : List (Nat × List CV)} {k : List It} {x : CV} (hn : eqs ns) (hd : dstB N' o.dst = true) (hw : wantedD all o σ' = some true) (hf : freshD o ν = true) (h : DOpP E N' o σ' η' x) (hk : DWP E N' K' (.lex all tl A pre ν :: k) Q (putT σ' o.dst x) η') :
    Out.ok E Q (.stuck N' K' (.lex all tl A (o :: pre) ν :: k) σ' η' ns) := ⟨hn, DWP.lexVal hd hw hf h hk⟩
theorem Ok.open {id : Nat} {l : List Oper} {k : List It} (pre : List Nat) (tl : List (Nat × TK)) (al : List Nat) {A : Als} (hn : eqs ns) (hm : E.P.follows .mixedOrders = true) (hA : alsA E.T l.toArray N' al = some A) (hB : orderT l.toArray pre tl al = true) (hl : Nat.beq (pickOps l.toArray pre).length pre.length = true)
    (h : DWP E N' K' (.lex l (pickT1 l.toArray tl) A (pickOps l.toArray pre) [] :: k) Q σ' η') : Out.ok E Q (.stuck N' K' (.code (.region id l.toArray true) :: k) σ' η' ns) := ⟨hn, DWP.openR pre tl al A hm hA hB hl h⟩
end
end Go.Bw
