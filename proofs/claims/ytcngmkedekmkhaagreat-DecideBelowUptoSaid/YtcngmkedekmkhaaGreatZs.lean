/-
  Own work. Steps of printed walks in short form: what can be found by computing is not said.
-/
import Derived.Test.YtcngmkedekmkhaaGreatTy
noncomputable section
namespace Go.Proofs.YtcngmkedekmkhaaGreat
open Go Go.Bw
theorem bindI {α β : Type} {l : List α} {m : Int} {f : α → Option β} {r : β} (h : (idxO l m).bind f = some r) : ∃ x, l[m.toNat]? = some x ∧ m = ((m.toNat : Nat) : Int) ∧ f x = some r := by
  obtain ⟨x, e, g⟩ := bindO h
  obtain ⟨j, e⟩ := idxO_nat e
  exact ⟨x, e, j, g⟩
theorem yg {a p : Prop} (h : a) (k : a → p := by intro h0; first | exact h0 | exact rfl | simpa only [gsimp] using h0 | (simp only [gsimp] at h0; exact h0)) : p := k h
section
variable {N K : Nat} {Q : DQ} {σ : TS} {η : Hp} {all rest : List Oper} {k : List It} {ns : List (Nat × Nat)} {o : Oper} {x : CV}
theorem yz {X : Out} (hk : Out.ok env Q X) (hx : drE env N K k σ η = X := by conv => (lhs; whnf)) : DWP env N K k Q σ η := zz mixed hk hx
theorem yk {N' K' : Nat} {todo' : List It} {σ' : TS} {η' : Hp} (h : DWP env N' K' todo' Q σ' η') (hn : eqs ns := by repeat (first | exact eqs_nil | refine eqs_cons (by first | rfl | simp only [List.length_set] | simp only [glen, List.length_set, List.length_replicate, List.length_append, List.length_cons, List.length_nil]) ?_)) : Out.ok env Q (.stuck N' K' todo' σ' η' ns) := Ok.stuck hn h
theorem yw {g : FuncId} {fn : Func} {c : Code} {xs : List AV} {rs : List ResultVar} {nt : Nat} {res : AR} {X : Out} (hf : env.P.funcs[g]? = some fn) (hnt : fn.ntmps = nt) (h : Out.ok env (RD env.T rs (Bw.Ends 60 res)) X) (hb : fn.body = some c := by rfl) (hname : (fn.name == "runtime.NumGoroutine") = false := by kernel_rfl) (hrs : fn.results = rs.toArray := by rfl) (hn : Nat.ble xs.length nt = true := by rfl)
    (hx : drE env nt 0 [.code c] (ofArgs 0 (xs.map .d)) Hp.nil = X := by conv => (lhs; whnf)) : Pure env.toCx g xs res := Pure.walk (E := env) hf hb hname hrs hnt hn (zz mixed h hx)
theorem yT {u w : Int} {b : Bool} {A B Y : Out} (h : (u == w) = true) (h2 : Out.ok env Q Y) (hb : u = w → b = true := by intro e; rw [e]; first | rfl | decide) (hB : A = Y := by conv => (lhs; whnf)) : Out.ok env Q (outIf b A B) := by
  subst hB; exact Ok.splitT (hb (eq_of_beq h)) h2
theorem yc {α β : Type} {p : Option α} {f : α → Option β} {r : β} {av : α → AV} {dst : Option Nat} {fo : Operand} {args : List Operand} {g : FuncId} {cs : List CV} {xs xs' : List AV} {ns2 : List (Nat × Nat)} {ms : List (Nat × CEnt)} {tys : Array TypeId} {ty : TypeId} {pos : String} {after : Array Edge} {X : α → Out}
    (hr : p.bind f = some r) (h : ∀ y, p = some y → Pure env.toCx g xs (.ret (av y))) (hk : ∀ y, f y = some r → Out.ok env Q (X y)) (hn : eqs ns := by repeat (first | exact eqs_nil | refine eqs_cons rfl ?_)) (hd : dstB N dst = true := by rfl) (hc : calleeC σ fo args = some (g, cs) := by rfl) (hf : frzL η.e 60 cs = some (xs', ns2, ms) := by rfl) (hn2 : eqs ns2 := by repeat (first | exact eqs_nil | refine eqs_cons rfl ?_))
    (hi : ImpL xs' xs := by first | exact ImpL.refl _ | exact zi) (hl : ∀ y, ms = [] ∨ refFree (av y) = true := by first | exact fun _ => .inl rfl | exact fun _ => .inr rfl)
    (hx : ∀ y, drE env N K (.ops all rest :: k) (putT σ dst (.d (av y))) η = X y := by intro y; conv => (lhs; whnf)) : Out.ok env Q (.stuck N K (.ops all (⟨dst, .call { callee := .value fo, args := args.toArray, argTypes := tys }, ty, pos, after, none⟩ :: rest) :: k) σ η ns) := by
  obtain ⟨y, e, hr⟩ := bindO hr
  exact Ok.val hn rfl hd (DOpP.callF (h y e) rfl hc hf hn2 hi (hl y)) (zz mixed (hk y hr) (hx y))
theorem yv {X : Out} (h : DOpP env N o σ η x) (hk : Out.ok env Q X) (hn : eqs ns := by repeat (first | exact eqs_nil | refine eqs_cons rfl ?_)) (hg : o.guard = none := by rfl) (hd : dstB N o.dst = true := by rfl) (hx : drE env N K (.ops all rest :: k) (putT σ o.dst x) η = X := by conv => (lhs; whnf)) : Out.ok env Q (.stuck N K (.ops all (o :: rest) :: k) σ η ns) :=
  Ok.val hn hg hd h (zz mixed hk hx)
theorem yl {pre : List Oper} {tl : List (Nat × Oper × TK)} {A : Als} {ν : List (Nat × List CV)} {X : Out} (h : DOpP env N o σ η x) (hk : Out.ok env Q X) (hn : eqs ns := by repeat (first | exact eqs_nil | refine eqs_cons rfl ?_)) (hd : dstB N o.dst = true := by rfl) (hw : wantedD all o σ = some true := by rfl) (hf : freshD o ν = true := by rfl) (hx : drE env N K (.lex all tl A pre ν :: k) (putT σ o.dst x) η = X := by conv => (lhs; whnf)) :
    Out.ok env Q (.stuck N K (.lex all tl A (o :: pre) ν :: k) σ η ns) := Ok.lexVal hn hd hw hf h (zz mixed hk hx)
theorem yC {f : Operand} {args : List Operand} {g : FuncId} {cs : List CV} {xs xs' : List AV} {ns2 : List (Nat × Nat)} {ms : List (Nat × CEnt)} {res : AV} {tys : Array TypeId} (h : Pure env.toCx g xs (.ret res)) (ho : o.op = .call { callee := .value f, args := args.toArray, argTypes := tys } := by rfl)
    (hc : calleeC σ f args = some (g, cs) := by rfl) (hf : frzL η.e 60 cs = some (xs', ns2, ms) := by rfl) (hn : eqs ns2 := by repeat (first | exact eqs_nil | refine eqs_cons rfl ?_)) (hi : ImpL xs' xs := by first | exact ImpL.refl _ | exact zi) (hl : ms = [] ∨ refFree res = true := by first | exact .inl rfl | exact .inr rfl) : DOpP env N o σ η (.d res) := DOpP.callF h ho hc hf hn hi hl
theorem yI {t : TypeId} {p ix : Operand} {e kk sz by' : Nat} {z : List Value} {rows : List (List AV)} {r : List AV} {kd : IntKind} {m : Int} {j : Nat} (hm : m = (j : Int)) (hr : rows[j]? = some r) (ho : o.op = .indexAddr t p ix := by rfl) (hp : cev σ p = some (.d (.sl kk rows)) := by rfl)
    (ht : tget env.T t = some ⟨.slice e kk, sz, by', z⟩ := by rfl) (hix : cev σ ix = some (.d (.v (.int kd m))) := by rfl) : DOpP env N o σ η (.d (.ip r)) := DOpS.toP (DOpS.idx j ho hp ht hix hm hr)
theorem yr {α : Type} {l : List α} {x : α} {t : TypeId} {p ix : Operand} {i n e kk sz by' : Nat} {z : List Value} {rows : List (List AV)} {kd : IntKind} {m : Int} {j : Nat} (hm : m = (j : Int)) (hl : l[j]? = some x) (ho : o.op = .indexAddr t p ix := by rfl) (hp : cev σ p = some (.os i n) := by rfl) (hi : η.e.get i = some (.row e kk rows) := by rfl) (hn : n = rows.length := by exact zg)
    (ht : tget env.T t = some ⟨.slice e kk, sz, by', z⟩ := by rfl) (hix : cev σ ix = some (.d (.v (.int kd m))) := by rfl) (hj : l[j]? = some x → j < rows.length := by intro h; exact zq h) : DOpP env N o σ η (.oe i n (j * kk)) := DOpP.idxRow j ho hp hi hn ht hix hm (hj hl)
theorem ym {a : Prop} {t : TypeId} {p : Operand} {i n m e kk : Nat} {rows : List (List AV)} {r : List AV} {y : AV} (j off : Nat) (hr : a) (ho : o.op = .load t p := by rfl) (hp : cev σ p = some (.oe i n m) := by rfl) (hi : η.e.get i = some (.row e kk rows) := by rfl) (hn : n = rows.length := by exact zg) (hm : m = j * kk + off := by rfl) (hk : a → rows[j]? = some r := by intro h; exact yg h)
    (hl : loadA env.T t r off = some y := by rfl) : DOpP env N o σ η (.d y) := DOpP.loadRow j off ho hp hi hn hm (hk hr) hl
variable {l : List (Nat × Oper × TK)} {A : Als} {pend : List (Nat × Oper × CV)} {fs : List (Nat × List AV × AV)} {i : Nat}
theorem yt {N' K' : Nat} {k' : List It} {σ' : TS} {η' : Hp} {ns' : List (Nat × Nat)} {X : Out} (hp : PendD env N all pend σ η) (hk : Out.ok env Q X) (hn : eqs ns := by repeat (first | exact eqs_nil | refine eqs_cons rfl ?_))
    (h : stepTl env.P env.G env.T cfgS (fun _ _ => none) N K all l A pend fs k σ η [] (.out (.stuck N K (.tl all l A pend fs :: k) σ η [])) = .go N' K' k' σ' η' ns' := by conv => (lhs; whnf)) (hn' : eqs ns' := by repeat (first | exact eqs_nil | refine eqs_cons rfl ?_)) (hx : drE env N' K' k' σ' η' = X := by conv => (lhs; whnf)) :
    Out.ok env Q (.stuck N K (.tl all l A pend fs :: k) σ η ns) := Ok.stuck hn (DWP.tlStep mixed hp (by rw [h]; exact Nx.go_ok hn' (zz mixed hk hx)))
theorem yU {X : Out} (hp : PendD env N all pend σ η) (hv : DOpP env N o σ η x) (hk : Out.ok env Q X) (hn : eqs ns := by repeat (first | exact eqs_nil | refine eqs_cons rfl ?_)) (hd : dstB N o.dst = true := by rfl) (hw : wantedD all o σ = some true := by rfl) (hx : drE env N K (.tl all l A ((i, o, x) :: pend) fs :: k) (putT σ o.dst x) η = X := by conv => (lhs; whnf)) :
    Out.ok env Q (.stuck N K (.tl all ((i, o, .fl) :: l) A pend fs :: k) σ η ns) := Ok.stuck hn (DWP.tlFl hp hd hw hv (zz mixed hk hx))
theorem yo {id : Nat} {l : List Oper} {A : Als} {X : Out} (pre : List Nat) (tl : List (Nat × TK)) (al : List Nat) (hk : Out.ok env Q X) (hn : eqs ns := by repeat (first | exact eqs_nil | refine eqs_cons rfl ?_)) (hA : alsA env.T l.toArray N al = some A := by rfl) (hB : orderT l.toArray pre tl al = true := by kernel_rfl) (hl : Nat.beq (pickOps l.toArray pre).length pre.length = true := by kernel_rfl)
    (hx : drE env N K (.lex l (pickT1 l.toArray tl) A (pickOps l.toArray pre) [] :: k) σ η = X := by conv => (lhs; whnf)) : Out.ok env Q (.stuck N K (.code (.region id l.toArray true) :: k) σ η ns) := Ok.open pre tl al hn mixed hA hB hl (zz mixed hk hx)
theorem zp1 {p a : Prop} {m : Int} {j : Nat} (hj : m = (j : Int)) (e : a) (h : m = (j : Int) → a → p := by intro hj e; repeat (first | exact PendD.nil | refine PendD.cons rfl (DOpP.vop (cl := false) rfl eqs_nil) ?_ | refine PendD.skip rfl ?_ | refine PendD.cons rfl (yr hj e) ?_ | refine PendD.cons rfl (vopL_ok (cl := false) rfl eqs_nil) ?_)) : p := h hj e
theorem yN {S : Type} {m : Nat} {ts ks : List Nat} {l0 : List (Nat × CV)} {es0 : List CEnt} {vs : S → List (Nat × CV)} {hs : S → List (Nat × CEnt)} {J : Nat → S → Prop} {n : Nat} (s' : S) (n' : Nat) (hj : J n' s') (hn : n' < n := by omega) (hm : Nat.ble m η.n = true := by rfl) (hp0 : pickT m ts σ = some l0 := by rfl) (hp : pickT m ks σ = some (vs s') := by exact zn) (he : takeH m η = some (setE es0 (hs s')) := by exact zn) :
    DWP env N K (.lp (NextA m ts ks l0 es0 vs hs J n) :: k) Q σ η := DWP.nextA s' n' hm hp0 hp he hn hj
theorem yL {S R : Type} {G : Nat → S → Option R} {r : R} {n : Nat} {s0 : S} {c : Code} {l0 : List (Nat × CV)} {es : List CEnt} (m : Nat) (ts ks : List Nat) (vs : S → List (Nat × CV)) (hs : S → List (Nat × CEnt)) (h0 : G n s0 = some r) (round : ∀ n' s, n' + 1 ≤ n → G (n' + 1) s = some r → DWP env N K (.code c :: .lp (NextA m ts ks l0 es vs hs (fun q s => q ≤ n ∧ G q s = some r) (n' + 1)) :: k) Q (ofT (l0 ++ vs s)) ⟨ofE 0 (setE es (hs s)), m⟩) (hz : ∀ s, G 0 s = none := by exact fun _ => rfl)
    (hm : η.n = m := by rfl) (hK : Nat.ble K m = true := by rfl) (hp0 : pickT m ts σ = some l0 := by rfl) (hp : pickT m ks σ = some (vs s0) := by exact zn) (he : takeH m η = some es := by rfl) (hes : es = setE es (hs s0) := by exact zn) : DWP env N K (.code (.loop c) :: k) Q σ η := by
  refine DWP.loopA m ts ks vs hs (fun q s => q ≤ n ∧ G q s = some r) n s0 hm hK hp0 hp he hes ⟨Nat.le_refl _, h0⟩ ?_
  rintro q s ⟨hle, hr⟩
  rcases q with _ | q
  · rw [hz] at hr; cases hr
  · exact round q s hle hr
end
end Go.Proofs.YtcngmkedekmkhaaGreat
