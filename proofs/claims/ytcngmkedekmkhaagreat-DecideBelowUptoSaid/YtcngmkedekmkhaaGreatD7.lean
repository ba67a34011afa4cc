/-
  Own work. The abstract machine, seventh part: many steps at once; a run from beginning to end.
-/
import Derived.Test.YtcngmkedekmkhaaGreatD6
noncomputable section
namespace Go.Bw
open Go
def ancOf (m : List Nat) : List Edge → Nat
  | [] => 0
  | e :: r => Nat.lor (ancOf m r) (Nat.lor (Nat.shiftLeft 1 e.on) ((nth m e.on).getD 0))
def ancs : List Oper → List Nat → List Nat
  | [], m => m
  | o :: r, m => ancs r (m ++ [ancOf m (o.after.toList.filter fun e => Region.binds .any e)])
def effB (imp : Nat → Bool) : Op → Bool
  | .store _ _ _ => true
  | .makeSlice _ _ _ => true
  | .mapUpdate _ _ _ _ => true
  | .makeMap _ _ => true
  | .panic _ => true
  | .defer _ => true
  | .range _ _ => true
  | .next _ _ => true
  | .entry _ => true
  | .call c => match c.callee with
    | .builtin .append => true
    | .builtin .len => false
    | .builtin _ => true
    | .value (.func g) => imp g
    | .value _ => true
    | .invoke _ _ => true
  | _ => false
def appd (d : Nat) : List Oper → Bool
  | [] => false
  | o :: r => match o.op with
    | .call { callee := .builtin .append, args := as, argTypes := _ } => match as.toList with
      | .tmp t :: _ => match Nat.beq t d with
        | true => true
        | false => appd d r
      | _ => appd d r
    | _ => appd d r
def litB (all : List Oper) (o : Oper) : Bool := match o.op, o.dst with
  | .buildSlice _ _ _, some d => appd d all
  | _, _ => false
def effs (imp : Nat → Bool) (all : List Oper) : Nat → List Oper → List Nat
  | _, [] => []
  | i, o :: r => match effB imp o.op || litB all o with
    | true => i :: effs imp all (i + 1) r
    | false => effs imp all (i + 1) r
def growT (m : List Nat) : Nat → Nat → List Nat → List Nat
  | 0, _, t => t
  | f + 1, n, t =>
    let new := (List.range n).filter fun i => !t.contains i && t.any fun j => !Nat.testBit ((nth m j).getD 0) i
    match new with
    | [] => t
    | _ :: _ => growT m f n (t ++ new)
def floatB (imp : Nat → Bool) (o : Oper) : Bool := match o.op with
  | .box _ _ => false
  | .alloc _ => false
  | .call c => match c.callee with
    | .builtin .len => true
    | .value (.func g) => !imp g
    | .value _ => false
    | _ => false
  | op => !effB imp op
def plan1 (imp : Nat → Bool) (ops : List Oper) : List Nat × List (Nat × TK) :=
  let t := growT (ancs ops []) 60 ops.length (effs imp ops 0 ops)
  ((List.range ops.length).filter fun i => !t.contains i, ((List.range ops.length).filter fun i => t.contains i).map fun i => (i, match nth ops i with
    | some o => match floatB imp o && !litB ops o with
      | true => .fl
      | false => .one
    | none => .one))
def alB (o : Oper) : Bool := match o.op, o.dst, o.guard with
  | .alloc _, some _, none => o.after.all fun e => !Region.binds .any e
  | _, _, _ => false
def plan2 (imp : Nat → Bool) (ops : Array Oper) : Nat → Array Bool → List (Nat × TK)
  | 0, _ => []
  | f + 1, listed => match Region.ready .any ops listed with
    | [] => []
    | i :: r => match (i :: r).find? fun i => match ops[i]? with
        | some o => floatB imp o && !litB ops.toList o
        | none => false with
      | some j => (j, .fl) :: plan2 imp ops f (listed.setIfInBounds j true)
      | none => match r with
        | [] => (i, .one) :: plan2 imp ops f (listed.setIfInBounds i true)
        | [j] => (i, .two) :: (j, .one) :: plan2 imp ops f ((listed.setIfInBounds i true).setIfInBounds j true)
        | _ => []
def alL : Nat → List Oper → List Nat
  | _, [] => []
  | i, o :: r => match alB o with
    | true => i :: alL (i + 1) r
    | false => alL (i + 1) r
def planR (imp : Nat → Bool) (ops : List Oper) : List Nat × List (Nat × TK) × List Nat := match plan1 imp ops with
  | (pre, tl) => match orderT ops.toArray pre tl [] with
    | true => (pre, tl, [])
    | false => ([], plan2 imp ops.toArray ops.length (listedBy (alL 0 ops) (Array.replicate ops.length false)), alL 0 ops)
inductive Out where
  | stuck (N K : Nat) (todo : List It) (σ : TS) (η : Hp) (ns : List (Nat × Nat))
  | cond (b : Bool) (N K : Nat) (t1 : List It) (s1 : TS) (t2 : List It) (s2 : TS) (η : Hp) (ns : List (Nat × Nat))
  | fin (e : DE) (σ : TS) (η : Hp) (ns : List (Nat × Nat))
inductive Nx where
  | go (N K : Nat) (todo : List It) (σ : TS) (η : Hp) (ns : List (Nat × Nat))
  | out (o : Out)
def Out.ok (E : Env) (Q : DQ) : Out → Prop
  | .stuck N K todo σ η ns => eqs ns ∧ DWP E N K todo Q σ η
  | .cond b N K t1 s1 t2 s2 η ns => eqs ns ∧ (b = true → DWP E N K t1 Q s1 η) ∧ (b = false → DWP E N K t2 Q s2 η)
  | .fin e σ η ns => eqs ns ∧ Q e σ η
def Nx.ok (E : Env) (Q : DQ) : Nx → Prop
  | .go N K todo σ η ns => eqs ns ∧ DWP E N K todo Q σ η
  | .out o => o.ok E Q
structure Cfg where
  cl : Bool
  inl : Nat → Bool
  imp : Nat → Bool
  own : Nat → Bool
  fn : Nat → Option Func
  ct : Nat → Option (TypeId × AV)
  fs : List (Nat × List AV × AV)
def fnT (n : Nat) (t : Tr Func) (g : Nat) : Option Func := match Nat.blt g n with
  | true => t.get g
  | false => none
theorem fnT_ok {P : Program} {n : Nat} {t : Tr Func} (h : (List.range n).map t.get = P.funcs.toList.map some) : ∀ g x, fnT n t g = some x → P.funcs[g]? = some x := fun g x hx => by
  unfold fnT at hx
  split at hx
  · rename_i hlt
    have hlt : g < n := by simpa using hlt
    have h1 : ((List.range n).map t.get)[g]? = some (t.get g) := by simp [hlt]
    rw [h, hx] at h1
    simp only [List.getElem?_map, Option.map_eq_some_iff] at h1
    obtain ⟨y, h2, h3⟩ := h1
    cases h3
    simpa using h2
  · cases hx
def finfo (F : Nat → Option Func) (g : FuncId) : Option (Nat × List ResultVar × Code) := match F g with
  | some fn => match fn.body, (fn.name == "runtime.NumGoroutine") with
    | some c, false => some (fn.ntmps, fn.results.toList, c)
    | _, _ => none
  | none => none
def needK {R : Type} (cl : Bool) (ns' ns : List (Nat × Nat)) (bad : R) (k : List (Nat × Nat) → R) : R := match cl with
  | false => k (ns' ++ ns)
  | true => match ns'.all fun p => Nat.beq p.1 p.2 with
    | true => k ns
    | false => bad
def usedIn (d : Nat) (l : List Oper) : Bool := l.any fun o => o.op.operands.toList.any fun
  | .tmp t => Nat.beq t d
  | _ => false
def normN {R : Type} : Nat → Nat → Nat → (Nat → R) → R
  | 0, n, acc, k => k (n + acc)
  | f + 1, n, acc, k => match n with
    | 0 => k acc
    | m + 1 => normN f m (acc + 1) k
theorem normN_eq {R : Type} (k : Nat → R) : ∀ (f n acc : Nat), normN f n acc k = k (n + acc)
  | 0, _, _ => rfl
  | f + 1, 0, acc => by rw [Nat.zero_add]; rfl
  | f + 1, m + 1, acc => by
    have := normN_eq k f m (acc + 1)
    rw [show m + 1 + acc = m + (acc + 1) by omega, ← this]; rfl
def openK {R : Type} : List (Nat × List CV) → TS → Hp → (TS → Hp → R) → R
  | [], σ, η, k => k σ η
  | (d, cs) :: r, σ, η, k => match η with
    | ⟨e, m⟩ => normN 1000 m 0 fun n => Tr.putK 24 σ d (some (.own n 0)) fun σ' => Tr.putK 24 e n (some (.box cs)) fun e' => openK r σ' ⟨e', n + 1⟩ k
def preB (σ : TS) : Op → Option Nat
  | .build _ parts => rowPart σ parts.toList
  | .slice _ (.tmp u) _ _ _ => match σ.get u with
    | some (.os _ _) => some u
    | _ => none
  | .convert _ _ (.tmp u) => match σ.get u with
    | some (.os _ _) => some u
    | _ => none
  | _ => none
def faultC : CV → Option AV
  | .ifc _ (.d y) => match faultB y with
    | true => some y
    | false => none
  | .d (.ifc _ y) => match faultB y with
    | true => some y
    | false => none
  | _ => none
def stepPan (t : TypeId) (x : CV) (k : List It) (η : Hp) (ns : List (Nat × Nat)) (bad : Nx) : Nx := match panTo k with
  | none => .out (.fin (.pan x) .lf η ns)
  | some (N', K', σ', dst, ty, k') => match Nat.beq t ty, faultC x with
    | true, some y => .go N' K' k' (putT σ' dst (.d y)) η ns
    | _, _ => bad
def lookF : List (Nat × List AV × AV) → Nat → List AV → Option AV
  | [], _, _ => none
  | (g', xs', z) :: r, g, xs => match Nat.beq g g' && avEqL xs xs' with
    | true => some z
    | false => lookF r g xs
def callS (nest : Nat → List AV → Option AV) (σ : TS) : Op → Option (Option CV)
  | .call { callee := .value f, args := as, argTypes := _ } => match calleeC σ f as.toList with
    | some (g, cs) => match allD cs with
      | some xs => match nest g xs with
        | some z => some (some (.d z))
        | none => some none
      | none => none
    | none => none
  | _ => none
def eraseK {R : Type} : Als → TS → (TS → R) → R
  | [], σ, k => k σ
  | p :: A, σ, k => Tr.putK 24 σ p.2.1 none fun σ1 => eraseK A σ1 k
theorem preB_g {σ : TS} {op : Op} : ifM 4227104 op (preB σ op) = preB σ op := by cases op <;> kernel_rfl
theorem callS_g {nest : Nat → List AV → Option AV} {σ : TS} {op : Op} : ifM 68719476736 op (callS nest σ op) = callS nest σ op := by cases op <;> kernel_rfl
theorem hop_g {cl : Bool} {T : Tab} {N : Nat} {σ : TS} {η : Hp} {o : Oper} : ifM 68721574488 o.op (hop cl T N σ η o) = hop cl T N σ η o := by
  obtain ⟨d, op, _, _, _, _⟩ := o
  cases op <;> kernel_rfl
theorem hop_g' {cl : Bool} {T : Tab} {N : Nat} {σ : TS} {η : Hp} {d : Option Nat} {op : Op} {t : TypeId} {p : String} {a : Array Edge} {g : Option (Nat × Bool)} : ifM 68721574488 op (hop cl T N σ η ⟨d, op, t, p, a, g⟩) = hop cl T N σ η ⟨d, op, t, p, a, g⟩ := hop_g (o := ⟨d, op, t, p, a, g⟩)
def stepOG (P : Program) (G : Gl) (T : Tab) (c : Cfg) (N K : Nat) (all : List Oper) (o : Oper) (r : List Oper) (k : List It) (σ : TS) (η : Hp) (ns : List (Nat × Nat)) (bad : Nx) (j : Nat) (want : Bool) : Nx := match o.dst, nth all j with
  | some e, some oj => match oj.dst, Nat.blt e N with
    | some d, true => match σ.get d with
      | some (.d (.v (.bool t))) => match c.cl with
        | true => match t, want with
          | true, true => .go N K (.ops all (⟨some e, o.op, o.type, o.pos, o.after, none⟩ :: r) :: k) σ η ns
          | false, false => .go N K (.ops all (⟨some e, o.op, o.type, o.pos, o.after, none⟩ :: r) :: k) σ η ns
          | true, false => Tr.putK 24 σ e (some (.d (.v undef))) fun σ1 => .go N K (.ops all r :: k) σ1 η ns
          | false, true => Tr.putK 24 σ e (some (.d (.v undef))) fun σ1 => .go N K (.ops all r :: k) σ1 η ns
        | false => Tr.putK 24 σ d (some (.d (.v (.bool true)))) fun σt => Tr.putK 24 σ d (some (.d (.v (.bool false)))) fun σf => match want with
          | true => Tr.putK 24 σf e (some (.d (.v undef))) fun σn => .out (.cond t N K (.ops all (⟨some e, o.op, o.type, o.pos, o.after, none⟩ :: r) :: k) σt (.ops all r :: k) σn η ns)
          | false => Tr.putK 24 σt e (some (.d (.v undef))) fun σn => .out (.cond t N K (.ops all r :: k) σn (.ops all (⟨some e, o.op, o.type, o.pos, o.after, none⟩ :: r) :: k) σf η ns)
      | some (.d (.v (.tuple a))) => match a.toList with
        | [] => Tr.putK 24 σ e (some (.d (.v undef))) fun σ1 => .go N K (.ops all r :: k) σ1 η ns
        | _ :: _ => bad
      | _ => bad
    | _, _ => bad
  | _, _ => bad
def stepO5 (P : Program) (G : Gl) (T : Tab) (c : Cfg) (N K : Nat) (all : List Oper) (o : Oper) (r : List Oper) (k : List It) (σ : TS) (η : Hp) (ns : List (Nat × Nat)) (bad : Nx) : Nx := match o.op with
  | .call { callee := .value f, args := as, argTypes := _ } => match calleeC σ f as.toList with
    | some (g, cs) => match c.inl g with
      | false => bad
      | true => match c.ct g with
        | some (ty, z) => match cs with
          | [x] => match fnC x with
            | some (g', fs', cs') => match finfo c.fn g' with
              | some (nt, rs, b) => match Nat.ble (fs' ++ cs').length nt && dstB N o.dst with
                | true => .go nt η.n (.code b :: .ct N K σ o.dst rs ty z :: .ops all r :: k) (ofArgs 0 (fs' ++ cs')) η ns
                | false => bad
              | none => bad
            | none => bad
          | _ => bad
        | none => match finfo c.fn g with
          | some (nt, rs, b) => match Nat.ble cs.length nt && dstB N o.dst with
            | true => .go nt η.n (.code b :: .fr N K σ o.dst rs :: .ops all r :: k) (ofArgs 0 cs) η ns
            | false => bad
          | none => bad
    | none => bad
  | .panic p => match cev σ p with
    | some (.ifc t y) => stepPan t (.ifc t y) k η ns bad
    | some (.d (.ifc t y)) => stepPan t (.d (.ifc t y)) k η ns bad
    | _ => bad
  | _ => bad
def stepO4 (P : Program) (G : Gl) (T : Tab) (c : Cfg) (N K : Nat) (all : List Oper) (o : Oper) (r : List Oper) (k : List It) (σ : TS) (η : Hp) (ns : List (Nat × Nat)) (bad : Nx) : Nx := match ifM 68721574488 o.op (hop c.cl T N σ η o) with
 | some (.push d x ce) => Tr.putK 24 σ d (some x) fun σ1 => Tr.putK 24 η.e η.n (some ce) fun e1 => .go N K (.ops all r :: k) σ1 ⟨e1, η.n + 1⟩ ns
 | some (.set i ce ns') => needK c.cl ns' ns bad fun ns1 => Tr.putK 24 η.e i (some ce) fun e1 => .go N K (.ops all r :: k) σ ⟨e1, η.n⟩ ns1
 | some (.app i d x ce ns') => needK c.cl ns' ns bad fun ns1 => Tr.putK 24 σ d (some x) fun σ1 => Tr.putK 24 η.e i (some ce) fun e1 => .go N K (.ops all r :: k) σ1 ⟨e1, η.n⟩ ns1
 | some (.nilrow t e kk) => Tr.putK 24 σ t (some (.os η.n 0)) fun σ1 => Tr.putK 24 η.e η.n (some (.row e kk [])) fun e1 => .go N K (.ops all (o :: r) :: k) σ1 ⟨e1, η.n + 1⟩ ns
 | some (.frz t z ns' ms) => needK c.cl ns' ns bad fun ns1 => Tr.putK 24 σ t (some (.d z)) fun σ1 => .go N K (.ops all (o :: r) :: k) σ1 (applyM ms η) ns1
 | none => stepO5 P G T c N K all o r k σ η ns bad
def stepO3 (P : Program) (G : Gl) (T : Tab) (c : Cfg) (N K : Nat) (all : List Oper) (o : Oper) (r : List Oper) (k : List It) (σ : TS) (η : Hp) (ns : List (Nat × Nat)) (bad : Nx) : Nx := match ifM 68719476736 o.op (callS (lookF c.fs) σ o.op) with
 | some (some x) => match dstB N o.dst with
   | false => bad
   | true => .go N K (.ops all r :: k) (putT σ o.dst x) η ns
 | _ => stepO4 P G T c N K all o r k σ η ns bad
def stepO2 (P : Program) (G : Gl) (T : Tab) (c : Cfg) (N K : Nat) (all : List Oper) (o : Oper) (r : List Oper) (k : List It) (σ : TS) (η : Hp) (ns : List (Nat × Nat)) (bad : Nx) : Nx := match vop P G T c.cl σ η o.op with
 | some (x, ns') => match o.dst with
   | none => bad
   | some d => match Nat.blt d N with
     | false => bad
     | true => needK c.cl ns' ns bad fun ns1 => Tr.putK 24 σ d (some x) fun σ1 => .go N K (.ops all r :: k) σ1 η ns1
 | none => stepO3 P G T c N K all o r k σ η ns bad
def stepO1 (P : Program) (G : Gl) (T : Tab) (c : Cfg) (N K : Nat) (all : List Oper) (o : Oper) (r : List Oper) (k : List It) (σ : TS) (η : Hp) (ns : List (Nat × Nat)) (bad : Nx) : Nx := match ifM 4227104 o.op (preB σ o.op) with
 | some u => match σ.get u with
  | some x => match frzL η.e 60 [x] with
    | some ([z], ns', ms) => needK c.cl ns' ns bad fun ns1 => Tr.putK 24 σ u (some (.d z)) fun σ1 => .go N K (.ops all (o :: r) :: k) σ1 (applyM ms η) ns1
    | _ => bad
  | none => bad
 | none => stepO2 P G T c N K all o r k σ η ns bad
def stepOps (P : Program) (G : Gl) (T : Tab) (c : Cfg) (N K : Nat) (all : List Oper) (o : Oper) (r : List Oper) (k : List It) (σ : TS) (η : Hp) (ns : List (Nat × Nat)) (bad : Nx) : Nx := match o.guard with
  | some (j, want) => stepOG P G T c N K all o r k σ η ns bad j want
  | none => stepO1 P G T c N K all o r k σ η ns bad
def stepLex (P : Program) (G : Gl) (T : Tab) (c : Cfg) (nest : Nat → List AV → Option AV) (N K : Nat) (all : List Oper) (tl : List (Nat × Oper × TK)) (A : Als) (o : Oper) (r : List Oper) (ν : List (Nat × List CV)) (k : List It) (σ : TS) (η : Hp) (ns : List (Nat × Nat)) (bad : Nx) : Nx := match wantedD all o σ with
  | some false => match o.dst, freshD o ν with
    | some d, true => match Nat.blt d N with
      | true => Tr.putK 24 σ d (some (.d (.v undef))) fun σ1 => .go N K (.lex all tl A r ν :: k) σ1 η ns
      | false => bad
    | _, _ => bad
  | some true => match o.dst, freshD o ν with
    | some d, true => match Nat.blt d N with
      | false => bad
      | true => match vop P G T c.cl σ η o.op with
        | some (x, ns') => needK c.cl ns' ns bad fun ns1 => Tr.putK 24 σ d (some x) fun σ1 => .go N K (.lex all tl A r ν :: k) σ1 η ns1
        | none => match o.op with
          | .box _ p => match cev σ p with
            | some x => match usedIn d r && !c.own d, allD (cellsC x) with
              | true, some ys => Tr.putK 24 σ d (some (.d (.ip ys))) fun σ1 => .go N K (.lex all tl A r ν :: k) σ1 η ns
              | _, _ => Tr.putK 24 σ d none fun σ1 => .go N K (.lex all tl A r (ν ++ [(d, cellsC x)]) :: k) σ1 η ns
            | none => bad
          | .alloc t => match tget T t with
            | some ⟨_, _, _, z⟩ => match usedIn d r && !c.own d with
              | true => Tr.putK 24 σ d (some (.d (.ip (z.map .v)))) fun σ1 => .go N K (.lex all tl A r ν :: k) σ1 η ns
              | false => Tr.putK 24 σ d none fun σ1 => .go N K (.lex all tl A r (ν ++ [(d, (z.map .v).map .d)]) :: k) σ1 η ns
            | none => bad
          | .buildSlice t n parts => match tget T t with
            | some ⟨.slice e kk, _, _, _⟩ => match tget T e with
              | some ⟨_, _, _, z'⟩ => match fillG kk (dat σ) (reps n (z'.map .v)) parts.toList with
                | some cells => match Nat.ble (n * kk) 16777216 && Nat.ble 1 kk with
                  | true => Tr.putK 24 σ d (some (.d (.sl kk (chunk n kk cells)))) fun σ1 => .go N K (.lex all tl A r ν :: k) σ1 η ns
                  | false => bad
                | none => bad
              | none => bad
            | _ => bad
          | .call { callee := .value f, args := as, argTypes := _ } => match calleeC σ f as.toList with
            | some (g, cs) => match c.inl g with
              | false => bad
              | true => match frzL η.e 60 cs with
                | some (xs, ns', ms) => match nest g xs with
                  | some z => match ms with
                    | [] => needK c.cl ns' ns bad fun ns1 => Tr.putK 24 σ d (some (.d z)) fun σ1 => .go N K (.lex all tl A r ν :: k) σ1 η ns1
                    | _ :: _ => match refFree z with
                      | true => needK c.cl ns' ns bad fun ns1 => Tr.putK 24 σ d (some (.d z)) fun σ1 => .go N K (.lex all tl A r ν :: k) σ1 η ns1
                      | false => bad
                  | none => bad
                | none => bad
            | none => bad
          | _ => bad
    | _, _ => bad
  | none => match o.guard with
    | some (j, _) => match (nth all j).bind (·.dst) with
      | some d => match σ.get d with
        | some (.d (.v (.bool t))) => match c.cl with
          | true => bad
          | false => Tr.putK 24 σ d (some (.d (.v (.bool true)))) fun σt => Tr.putK 24 σ d (some (.d (.v (.bool false)))) fun σf => .out (.cond t N K (.lex all tl A (o :: r) ν :: k) σt (.lex all tl A (o :: r) ν :: k) σf η ns)
        | _ => bad
      | none => bad
    | none => bad
def vopL (P : Program) (G : Gl) (T : Tab) (cl : Bool) (σ : TS) (η : Hp) (op : Op) : Option (CV × List (Nat × Nat)) := match vop P G T cl σ η op with
  | some p => some p
  | none => match op with
    | .buildSlice t n parts => match tget T t with
      | some ⟨.slice e kk, _, _, _⟩ => match tget T e with
        | some ⟨_, _, _, z'⟩ => match fillG kk (dat σ) (reps n (z'.map .v)) parts.toList with
          | some cells => match Nat.ble (n * kk) 16777216 && Nat.ble 1 kk with
            | true => some (.d (.sl kk (chunk n kk cells)), [])
            | false => none
          | none => none
        | none => none
      | _ => none
    | _ => none
def vopN (P : Program) (G : Gl) (T : Tab) (nest : Nat → List AV → Option AV) (cl : Bool) (σ : TS) (η : Hp) (op : Op) : Option (CV × List (Nat × Nat)) := match vopL P G T cl σ η op with
  | some p => some p
  | none => match op with
    | .call { callee := .value f, args := as, argTypes := _ } => match calleeC σ f as.toList with
      | some (g, cs) => match frzL η.e 60 cs with
        | some (xs, ns', ms) => match nest g xs with
          | some z => match ms with
            | [] => some (.d z, ns')
            | _ :: _ => match refFree z with
              | true => some (.d z, ns')
              | false => none
          | none => none
        | none => none
      | none => none
    | _ => none
def pendB (P : Program) (G : Gl) (T : Tab) (nest : Nat → List AV → Option AV) (cl : Bool) (all : List Oper) (σ : TS) (η : Hp) : List (Nat × Oper × CV) → Bool
  | [] => true
  | (_, o, x) :: r => match cl with
    | false => false
    | true => match wantedD all o σ with
      | some true => match vopN P G T nest true σ η o.op with
        | some (y, ns) => match cvEq x y && ns.all fun p => Nat.beq p.1 p.2 with
          | true => pendB P G T nest cl all σ η r
          | false => false
        | none => false
      | some false => match x with
        | .d (.v (.tuple a)) => match a.toList with
          | [] => pendB P G T nest cl all σ η r
          | _ :: _ => false
        | _ => false
      | none => false
def vopS (P : Program) (G : Gl) (T : Tab) (cl : Bool) (σ : TS) (op : Op) : Option CV :=
  match ifM 51565228327 op (aopF T (dat σ) op) with
  | some y => some (.d y)
  | none => match ifM 51565170727 op (ropF T σ op) with
    | some x => some x
    | none => match ifM 33024 op (gop G T (dat σ) op) with
      | some y => some (.d y)
      | none => match cl with
        | false => none
        | true => match ifM 104865792 op (kop P T (dat σ) op) with
          | some y => some (.d y)
          | none => match ifM 68719484928 op (nop P (dat σ) op) with
            | some y => some (.d y)
            | none => none
def callN (nest : Nat → List AV → Option AV) (σ : TS) (η : Hp) : Op → Option (AV × List (Nat × Nat) × Nat × List AV)
  | .call { callee := .value f, args := as, argTypes := _ } => match calleeC σ f as.toList with
    | some (g, cs) => match frzL η.e 60 cs with
      | some (xs, ns', ms) => match nest g xs with
        | some z => match ms with
          | [] => some (z, ns', g, xs)
          | _ :: _ => match refFree z with
            | true => some (z, ns', g, xs)
            | false => none
        | none => none
      | none => none
    | none => none
  | _ => none
def stepTl (P : Program) (G : Gl) (T : Tab) (c : Cfg) (nest : Nat → List AV → Option AV) (N K : Nat) (all : List Oper) (l : List (Nat × Oper × TK)) (A : Als) (pend : List (Nat × Oper × CV)) (fs : List (Nat × List AV × AV)) (k : List It) (σ : TS) (η : Hp) (ns : List (Nat × Nat)) (bad : Nx) : Nx := match l with
  | [] => .go N K k σ η ns
  | [(_, _, .two)] => bad
  | (i, o, .two) :: (j, o', _) :: l => match c.cl, wantedD all o σ, wantedD all o' σ with
    | true, some true, some true => match pairH c.cl T N σ η o o' with
      | some (a, ca, b, cb) => match pendB P G T (lookF fs) c.cl all σ (η.set a ca) (keepC all i pend) && pendB P G T (lookF fs) c.cl all σ (η.set b cb) (keepC all j pend) with
        | true => Tr.putK 24 η.e a (some ca) fun e1 => Tr.putK 24 e1 b (some cb) fun e2 => .go N K (.tl all l A (keepC all j (keepC all i pend)) fs :: k) σ ⟨e2, η.n⟩ ns
        | false => bad
      | none => bad
    | _, _, _ => bad
  | (i, o, .fl) :: l => match dstB N o.dst with
    | false => bad
    | true => match wantedD all o σ with
        | some false => .go N K (.tl all l A pend fs :: k) (putT σ o.dst (.d (.v undef))) η ns
        | some true => match vopS P G T c.cl σ o.op with
          | some x => .go N K (.tl all l A pend fs :: k) (putT σ o.dst x) η ns
          | none => match callS nest σ o.op with
            | some none => bad
            | some (some x) => .go N K (.tl all l A pend fs :: k) (putT σ o.dst x) η ns
            | none => match vopL P G T c.cl σ η o.op with
              | some (x, ns') => needK c.cl ns' ns bad fun ns1 => .go N K (.tl all l A ((i, o, x) :: pend) fs :: k) (putT σ o.dst x) η ns1
              | none => match callN nest σ η o.op with
                | some (z, ns', g, xs) => needK c.cl ns' ns bad fun ns1 => .go N K (.tl all l A ((i, o, .d z) :: pend) ((g, xs, z) :: fs) :: k) (putT σ o.dst (.d z)) η ns1
                | none => bad
        | none => bad
  | (i, o, .one) :: l => match nodupB ((nuC (mOf all.toArray i A)).map (·.1)), dstB N o.dst with
    | true, true => openK (nuC (mOf all.toArray i A)) σ η fun σ1 η1 => match wantedD all o σ1 with
        | some false => .go N K (.tl all l (mNot all.toArray i A) (keepC all i pend) fs :: k) (putT σ1 o.dst (.d (.v undef))) η1 ns
        | some true => match vop P G T c.cl σ1 η1 o.op with
          | some (x, ns') => needK c.cl ns' ns bad fun ns1 => .go N K (.tl all l (mNot all.toArray i A) (keepC all i pend) fs :: k) (putT σ1 o.dst x) η1 ns1
          | none => match preHop c.cl T N 20 σ1 η1 o with
            | some (.push _ x ce, η2, ns') => needK c.cl ns' ns bad fun ns1 => Tr.putK 24 η2.e η2.n (some ce) fun e1 => .go N K (.tl all l (mNot all.toArray i A) (keepC all i pend) fs :: k) (putT σ1 o.dst x) ⟨e1, η2.n + 1⟩ ns1
            | some (.set j ce _, η2, ns') => needK c.cl ns' ns bad fun ns1 => Tr.putK 24 η2.e j (some ce) fun e1 => .go N K (.tl all l (mNot all.toArray i A) (keepC all i pend) fs :: k) (putT σ1 o.dst (.d (.v undef))) ⟨e1, η2.n⟩ ns1
            | some (.app j _ x ce _, η2, ns') => needK c.cl ns' ns bad fun ns1 => Tr.putK 24 η2.e j (some ce) fun e1 => .go N K (.tl all l (mNot all.toArray i A) (keepC all i pend) fs :: k) (putT σ1 o.dst x) ⟨e1, η2.n⟩ ns1
            | some _ => bad
            | none => match o.op with
              | .call { callee := .value f, args := as, argTypes := _ } => match calleeC σ1 f as.toList with
                | some (g, cs) => match c.inl g with
                  | false => bad
                  | true => match finfo c.fn g with
                    | some (nt, rs, b) => match Nat.ble cs.length nt with
                      | true => .go nt η1.n (.code b :: .fr N K σ1 o.dst rs :: .tl all l (mNot all.toArray i A) (keepC all i pend) fs :: k) (ofArgs 0 cs) η1 ns
                      | false => bad
                    | none => bad
                | none => bad
              | .panic p => match cev σ1 p with
                | some (.ifc t y) => stepPan t (.ifc t y) k η1 ns bad
                | some (.d (.ifc t y)) => stepPan t (.d (.ifc t y)) k η1 ns bad
                | _ => bad
              | _ => bad
        | none => bad
    | _, _ => bad
def frzAt (σ : TS) (all : List Oper) : List Oper → Option Nat
  | [] => none
  | o :: r => match o.op with
    | .slice _ (.tmp u) _ _ _ => match σ.get u with
      | some (.os _ _) => some u
      | _ => match all.find? fun o' => match o'.dst with
          | some d => Nat.beq d u
          | none => false with
        | some ⟨_, .move (.tmp v), _, _, _, _⟩ => match σ.get v with
          | some (.os _ _) => some v
          | _ => frzAt σ all r
        | _ => frzAt σ all r
    | _ => frzAt σ all r
def stepCode (T : Tab) (c : Cfg) (fl N K : Nat) (b : Code) (k : List It) (σ : TS) (η : Hp) (ns : List (Nat × Nat)) (bad : Nx) : Nx := match b with
  | .skip => .go N K k σ η ns
  | .label _ => .go N K k σ η ns
  | .seq x y => .go N K (.code x :: .code y :: k) σ η ns
  | .block i x => .go N K (.code x :: .blk i :: k) σ η ns
  | .region _ ops d => match d with
    | false => .go N K (.ops ops.toList ops.toList :: k) σ η ns
    | true => match frzAt σ ops.toList ops.toList with
     | some u => match σ.get u with
      | some x => match frzL η.e 60 [x] with
        | some ([z], ns', ms) => needK c.cl ns' ns bad fun ns1 => Tr.putK 24 σ u (some (.d z)) fun σ1 => .go N K (.code b :: k) σ1 (applyM ms η) ns1
        | _ => bad
      | none => bad
     | none => match planR c.imp ops.toList with
      | (pre, tl, al) => match alsA T ops N al with
        | none => bad
        | some A => match orderT ops pre tl al && Nat.beq (pickOps ops pre).length pre.length with
          | true => .go N K (.lex ops.toList (pickT1 ops tl) A (pickOps ops pre) [] :: k) σ η ns
          | false => bad
  | .exit i => match dropTo i k with
    | some k' => .go N K k' σ η ns
    | none => bad
  | .ret => match retTo k with
    | [] => .out (.fin .ret σ η ns)
    | .fr N' K' σ' dst rs :: k' => .go N K (.fr N' K' σ' dst rs :: k') σ η ns
    | .ct N' K' σ' dst rs ty z :: k' => .go N K (.ct N' K' σ' dst rs ty z :: k') σ η ns
    | _ => bad
  | .scope x => .go N K (.code x :: k) σ η ns
  | .cond (.tmp t) x y => match σ.get t with
    | some (.d (.v (.bool v))) => match c.cl with
      | true => match v with
        | true => .go N K (.code x :: k) σ η ns
        | false => .go N K (.code y :: k) σ η ns
      | false => Tr.putK 24 σ t (some (.d (.v (.bool true)))) fun σt => Tr.putK 24 σ t (some (.d (.v (.bool false)))) fun σf => .out (.cond v N K (.code x :: k) σt (.code y :: k) σf η ns)
    | _ => bad
  | .cond (.const (.bool v)) x y => match v with
    | true => .go N K (.code x :: k) σ η ns
    | false => .go N K (.code y :: k) σ η ns
  | .loop x => match c.cl with
    | true => .go N K (.code x :: .lpu fl x :: k) σ η ns
    | false => bad
  | _ => bad
def stepB (P : Program) (G : Gl) (T : Tab) (c : Cfg) (nest : Nat → List AV → Option AV) (fl N K : Nat) (todo : List It) (σ : TS) (η : Hp) (ns : List (Nat × Nat)) (bad : Nx) : Nx :=
  @List.rec It (fun _ => Program → Gl → Tab → Cfg → (Nat → List AV → Option AV) → Nat → Nat → Nat → TS → Hp → List (Nat × Nat) → Nx → Nx)
    (fun _ _ _ _ _ _ _ _ σ η ns _ => .out (.fin .norm σ η ns))
    (fun it k _ P G T c nest fl N K σ η ns bad => @It.rec (fun _ => List It → Program → Gl → Tab → Cfg → (Nat → List AV → Option AV) → Nat → Nat → Nat → TS → Hp → List (Nat × Nat) → Nx → Nx)
      (fun b k P G T c nest fl N K σ η ns bad => stepCode T c fl N K b k σ η ns bad)
      (fun _ k P G T c nest fl N K σ η ns bad => .go N K k σ η ns)
      (fun all l k P G T c nest fl N K σ η ns bad => @List.rec Oper (fun _ => Nx) (.go N K k σ η ns) (fun o r _ => stepOps P G T c N K all o r k σ η ns bad) l)
      (fun all tl A pre ν k P G T c nest fl N K σ η ns bad => @List.rec Oper (fun _ => Nx) (match nodupB (ν.map (·.1)) with
        | true => openK ν σ η fun σ1 η1 => eraseK A σ1 fun σ2 => .go N K (.tl all tl A [] [] :: k) σ2 η1 ns
        | false => bad) (fun o r _ => stepLex P G T c nest N K all tl A o r ν k σ η ns bad) pre)
      (fun all l A pend fs k P G T c nest fl N K σ η ns bad => match pendB P G T (lookF fs) c.cl all σ η pend with
        | true => stepTl P G T c nest N K all l A pend fs k σ η ns bad
        | false => bad)
      (fun _ k P G T c nest fl N K σ η ns bad => bad)
      (fun m b k P G T c nest fl N K σ η ns bad => match m with
        | 0 => bad
        | m' + 1 => .go N K (.code b :: .lpu m' b :: k) σ η ns)
      (fun N' K' σ' dst rs k P G T c nest fl N K σ η ns bad => match resD T σ η rs with
        | none => bad
        | some xs => match dst with
          | none => .go N' K' k σ' η ns
          | some d => Tr.putK 24 σ' d (some (packC xs)) fun σ'' => .go N' K' k σ'' η ns)
      (fun N' K' σ' dst rs _ z k P G T c nest fl N K σ η ns bad => match resD T σ η rs with
        | none => bad
        | some _ => .go N' K' k (putT σ' dst (.d z)) η ns)
      it k P G T c nest fl N K σ η ns bad) todo P G T c nest fl N K σ η ns bad
def step (P : Program) (G : Gl) (T : Tab) (c : Cfg) (nest : Nat → List AV → Option AV) (fl N K : Nat) (todo : List It) (σ : TS) (η : Hp) (ns : List (Nat × Nat)) : Nx := stepB P G T c nest fl N K todo σ η ns (.out (.stuck N K todo σ η ns))
theorem needK_ok {R : Type} {P : R → Prop} {cl : Bool} {ns' ns : List (Nat × Nat)} {bad : R} {k : List (Nat × Nat) → R} {A : Prop} (h : P (needK cl ns' ns bad k)) (hb : P bad → A) (hk : ∀ ns1, (eqs ns1 → eqs ns' ∧ eqs ns) → P (k ns1) → A) : A := by
  unfold needK at h
  split at h
  · exact hk _ (fun h => eqs_append h) h
  · split at h
    · rename_i hall
      refine hk _ (fun h => ⟨?_, h⟩) h
      clear h hk
      induction ns' with
      | nil => trivial
      | cons p r ih =>
        simp only [List.all_cons, Bool.and_eq_true] at hall
        exact ⟨Nat.eq_of_beq_eq_true hall.1, ih hall.2⟩
    · exact hb h
theorem openK_eq {R : Type} : ∀ (ν : List (Nat × List CV)) (σ : TS) (η : Hp) (k : TS → Hp → R), openK ν σ η k = k (openN ν σ η).1 (openN ν σ η).2
  | [], _, _, _ => rfl
  | (d, cs) :: r, σ, ⟨e, m⟩, k => by simp only [openK, normN_eq, Nat.add_zero, Tr.putK_eq, openN]; exact openK_eq r _ _ k
theorem finfo_spec {P : Program} {F : Nat → Option Func} (hF : ∀ g x, F g = some x → P.funcs[g]? = some x) {g : FuncId} {nt : Nat} {rs : List ResultVar} {c : Code} (h : finfo F g = some (nt, rs, c)) : ∃ fn, P.funcs[g]? = some fn ∧ fn.body = some c ∧ (fn.name == "runtime.NumGoroutine") = false ∧ fn.results = rs.toArray ∧ fn.ntmps = nt := by
  unfold finfo at h
  split at h
  · rename_i fn hf
    split at h
    · rename_i b hb hn
      simp only [Option.some.injEq, Prod.mk.injEq] at h
      obtain ⟨rfl, rfl, rfl⟩ := h
      exact ⟨fn, hF g fn hf, hb, hn, by simp, rfl⟩
    · cases h
  · cases h
section
variable {E : Env} {Q : DQ} {N K : Nat} {σ : TS} {η : Hp} {all : List Oper} {o : Oper} {r : List Oper} {tl : List (Nat × Oper × TK)} {k : List It} {ns : List (Nat × Nat)} {bad : Nx} {c : Cfg} {ν : List (Nat × List CV)}
theorem DO.guardC {rest : List Oper} {j d e : Nat} {want t : Bool} {op : Op} {ty : TypeId} {pos : String} {after : Array Edge} {oj : Oper} (hj : nth all j = some oj) (hjd : oj.dst = some d) (ht : σ.get d = some (.d (.v (.bool t))))
    (h1 : t = want → DO E N K all (⟨some e, op, ty, pos, after, none⟩ :: rest) Q σ η)
    (h2 : t = !want → DO E N K all rest Q (Tr.put 24 σ e (some (.d (.v undef)))) η)
    (hd : Nat.blt e N = true) : DO E N K all (⟨some e, op, ty, pos, after, some (j, want)⟩ :: rest) Q σ η := fun ρ σB ηB hs hh => by
  obtain ⟨y, h3, h4⟩ := hs d _ ht
  simp only [Inst] at h4; subst h4
  have hjB : (all.toArray[j]?).bind (·.dst) = some d := by rw [nth_eq] at hj; simp [hj, hjd]
  have same : ∀ b, t = b → SS ρ σ (look ((d, .v (.bool b)) :: σB)) := fun b hb u z hz => by
    subst hb
    obtain ⟨q, h5, h6⟩ := hs u z hz
    refine ⟨q, ?_, h6⟩
    simp only [look]
    cases hbq : Nat.beq d u with
    | true => have := Nat.eq_of_beq_eq_true hbq; subst this; rw [h3] at h5; exact h5
    | false => exact h5
  exact AOps.guardO hjB h3 (fun e => h1 e ρ _ ηB (same want e) hh) (fun e' => h2 e' ρ _ ηB ((same _ e').put (some e) (x := .d (.v undef)) (y := .v undef) rfl) hh) hd
theorem faultC_ok {t : TypeId} {x : CV} {y : AV} (hx : ∃ u, x = .ifc t u ∨ ∃ u', x = .d (.ifc t u')) (h : faultC x = some y) : (x = .ifc t (.d y) ∨ x = .d (.ifc t y)) ∧ faultB y = true := by
  unfold faultC at h
  split at h
  · rename_i t' y'
    split at h
    · rename_i hy
      cases h
      obtain ⟨u, hx | ⟨u', hx⟩⟩ := hx
      · cases hx; exact ⟨.inl rfl, hy⟩
      · cases hx
    · cases h
  · rename_i t' y'
    split at h
    · rename_i hy
      cases h
      obtain ⟨u, hx | ⟨u', hx⟩⟩ := hx
      · cases hx
      · cases hx; exact ⟨.inr rfl, hy⟩
    · cases h
  · cases h
theorem stepPan_ok {t : TypeId} {x : CV} (hx : ∃ u, x = .ifc t u ∨ ∃ u', x = .d (.ifc t u')) (h : Nx.ok E Q (stepPan t x k η ns bad)) {A : Prop} (hb : bad.ok E Q → A) (hk : eqs ns → dq E N K k Q (.pan x) .lf η → A) : A := by
  unfold stepPan at h
  split at h
  · rename_i hp
    exact hk h.1 (dq_pan k N K .lf hp h.2)
  · rename_i N' K' σ' dst ty k' hp
    split at h
    · rename_i y ht hy
      have ht := Nat.eq_of_beq_eq_true ht
      subst ht
      obtain ⟨h1, h2⟩ := faultC_ok hx hy
      exact hk h.1 (dq_panC h1 h2 k N K hp h.2)
    · exact hb h
theorem eraseK_eq {R : Type} : ∀ (A : Als) (σ : TS) (k : TS → R), eraseK A σ k = k (eraseN A σ)
  | [], _, _ => rfl
  | p :: A, σ, k => by simp only [eraseK, Tr.putK_eq, eraseN]; exact eraseK_eq A _ _
theorem lookF_ok : ∀ {fs : List (Nat × List AV × AV)}, FOk E fs → ∀ g xs z, lookF fs g xs = some z → Pure E.toCx g xs (.ret z)
  | [], _, _, _, _, h => by simp [lookF] at h
  | (g', xs', z') :: r, hf, g, xs, z, h => by
    simp only [lookF] at h
    split at h
    · rename_i hB
      simp only [Bool.and_eq_true] at hB
      have h1 := Nat.eq_of_beq_eq_true hB.1
      have h2 := avEqL_ok hB.2
      cases h
      subst h1; subst h2
      exact hf _ List.mem_cons_self
    · exact lookF_ok (fun f hf' => hf f (by simp [hf'])) g xs z h
theorem callS_ok {nest : Nat → List AV → Option AV} (hnest : ∀ g xs z, nest g xs = some z → Pure E.toCx g xs (.ret z)) {x : CV} (h : callS nest σ o.op = some (some x)) : DOpS E N o σ x := by
  unfold callS at h
  split at h
  · rename_i f as tys ho
    obtain ⟨as⟩ := as
    split at h
    · rename_i g cs hc
      split at h
      · rename_i xs hxs
        split at h
        · rename_i z hz
          cases h
          exact fun ρ s ηB hs => by
            obtain ⟨ys, h1, h2⟩ := calleeC_inst hs hc
            have := allD_inst hxs h2
            subst this
            exact ⟨z, rfl, OpP.pure ho (hnest g _ z hz) h1⟩
        · cases h
      · cases h
    · cases h
  · cases h
theorem stepOps_ok (hfs : FOk E c.fs) (hct : ∀ f ty z, c.ct f = some (ty, z) → CtOk E f ty z) (hF : ∀ g x, c.fn g = some x → E.P.funcs[g]? = some x) (h : Nx.ok E Q (stepOps E.P E.G E.T c N K all o r k σ η ns bad)) (hb : bad.ok E Q → eqs ns ∧ DWP E N K (.ops all (o :: r) :: k) Q σ η) : eqs ns ∧ DWP E N K (.ops all (o :: r) :: k) Q σ η := by
  obtain ⟨dst, op, ty, pos, after, gd⟩ := o
  unfold stepOps at h
  simp only [stepOG, stepO1, stepO2, stepO3, stepO4, stepO5] at h
  simp only [preB_g, callS_g, hop_g'] at h
  split at h
  · rename_i j want
    split at h
    · rename_i e oj hj
      split at h
      · rename_i d hjd he
        split at h
        · rename_i t ht
          split at h
          · split at h
            · exact ⟨h.1, DO.guardC hj hjd ht (fun _ => h.2) (fun e => by cases e) he⟩
            · exact ⟨h.1, DO.guardC hj hjd ht (fun _ => h.2) (fun e => by cases e) he⟩
            · rw [Tr.putK_eq] at h
              exact ⟨h.1, DO.guardC hj hjd ht (fun e => by cases e) (fun _ => h.2) he⟩
            · rw [Tr.putK_eq] at h
              exact ⟨h.1, DO.guardC hj hjd ht (fun e => by cases e) (fun _ => h.2) he⟩
          · simp only [Tr.putK_eq] at h
            split at h
            · exact ⟨h.1, DO.guardX hj hjd ht h.2.1 h.2.2 he⟩
            · exact ⟨h.1, DO.guardX hj hjd ht h.2.2 h.2.1 he⟩
        · rename_i a ha
          split at h
          · rename_i hz
            have : a = #[] := by cases a; simp_all
            subst this
            rw [Tr.putK_eq] at h
            exact ⟨h.1, DO.guardU hj hjd ha h.2 he⟩
          · exact hb h
        · exact hb h
      · exact hb h
    · exact hb h
  · split at h
    · rename_i u hu
      split at h
      · rename_i x hx
        split at h
        · rename_i z ns' ms hf
          refine needK_ok (P := Nx.ok E Q) h hb fun ns1 he h => ?_
          rw [Tr.putK_eq] at h
          obtain ⟨h1, h2⟩ := he h.1
          exact ⟨h2, DO.frz 60 hx hf h1 h.2⟩
        · exact hb h
      · exact hb h
    split at h
    · rename_i x ns' hv
      split at h
      · exact hb h
      · rename_i d
        split at h
        · exact hb h
        · rename_i hd
          refine needK_ok (P := Nx.ok E Q) h hb fun ns1 he h => ?_
          rw [Tr.putK_eq] at h
          obtain ⟨h1, h2⟩ := he h.1
          exact ⟨h2, DO.ofP rfl hd (vop_ok (o := ⟨some d, op, ty, pos, after, none⟩) hv h1) h.2⟩
    · rename_i hv
      split at h
      · rename_i x hcs
        split at h
        · exact hb h
        · rename_i hd
          exact ⟨h.1, DO.ofP rfl hd (fun ρ s ηB hs _ => callS_ok (o := ⟨dst, op, ty, pos, after, none⟩) (lookF_ok hfs) hcs ρ s ηB hs) h.2⟩
      rename_i hnc
      clear hnc
      split at h
      · rename_i d x ce hh
        simp only [Tr.putK_eq] at h
        exact ⟨h.1, hop_ok rfl hh h.2⟩
      · rename_i i ce ns' hh
        refine needK_ok (P := Nx.ok E Q) h hb fun ns1 he h => ?_
        simp only [Tr.putK_eq] at h
        obtain ⟨h1, h2⟩ := he h.1
        exact ⟨h2, hop_ok rfl hh ⟨h1, h.2⟩⟩
      · rename_i i d x ce ns' hh
        refine needK_ok (P := Nx.ok E Q) h hb fun ns1 he h => ?_
        simp only [Tr.putK_eq] at h
        obtain ⟨h1, h2⟩ := he h.1
        exact ⟨h2, hop_ok rfl hh ⟨h1, h.2⟩⟩
      · rename_i t e kk hh
        simp only [Tr.putK_eq] at h
        exact ⟨h.1, hop_ok rfl hh h.2⟩
      · rename_i t z ns' ms hh
        refine needK_ok (P := Nx.ok E Q) h hb fun ns1 he h => ?_
        simp only [Tr.putK_eq] at h
        obtain ⟨h1, h2⟩ := he h.1
        exact ⟨h2, hop_ok rfl hh ⟨h1, h.2⟩⟩
      · split at h
        · rename_i f as tys
          obtain ⟨as⟩ := as
          split at h
          · rename_i g cs hc
            split at h
            · exact hb h
            · split at h
              · rename_i ty' z hctg
                split at h
                · rename_i x
                  split at h
                  · rename_i g' fs' cs' hx
                    split at h
                    · rename_i nt rs b hf
                      split at h
                      · rename_i hB
                        simp only [Bool.and_eq_true] at hB
                        obtain ⟨fn, h1, h2, h3, h4, h5⟩ := finfo_spec hF hf
                        exact ⟨h.1, DWP.ct (hct _ _ _ hctg) hc hx h1 h2 h3 h4 h5 hB.1 hB.2 h.2⟩
                      · exact hb h
                    · exact hb h
                  · exact hb h
                · exact hb h
              · split at h
                · rename_i nt rs b hf
                  split at h
                  · rename_i hB
                    simp only [Bool.and_eq_true] at hB
                    obtain ⟨fn, h1, h2, h3, h4, h5⟩ := finfo_spec hF hf
                    exact ⟨h.1, DWP.inl hc h1 h2 h3 h4 h5 hB.1 hB.2 h.2⟩
                  · exact hb h
                · exact hb h
          · exact hb h
        · rename_i p
          split at h
          · rename_i t y hp
            exact stepPan_ok (N := N) (K := K) ⟨y, .inl rfl⟩ h hb fun h1 h2 => ⟨h1, DO.panic rfl rfl hp h2⟩
          · rename_i t y hp
            exact stepPan_ok (N := N) (K := K) ⟨.d y, .inr ⟨y, rfl⟩⟩ h hb fun h1 h2 => ⟨h1, DO.panicD rfl rfl hp h2⟩
          · exact hb h
        · exact hb h
theorem stepLex_ok {A : Als} {nest : Nat → List AV → Option AV} (hnest : ∀ g xs z, nest g xs = some z → Pure E.toCx g xs (.ret z)) (h : Nx.ok E Q (stepLex E.P E.G E.T c nest N K all tl A o r ν k σ η ns bad)) (hb : bad.ok E Q → eqs ns ∧ DWP E N K (.lex all tl A (o :: r) ν :: k) Q σ η) :
    eqs ns ∧ DWP E N K (.lex all tl A (o :: r) ν :: k) Q σ η := by
  unfold stepLex at h
  split at h
  · rename_i hw
    split at h
    · rename_i d hd hf
      split at h
      · rename_i hdN
        rw [Tr.putK_eq] at h
        refine ⟨h.1, DLex.skip (by rw [hd]; exact hdN) hw hf ?_⟩
        rw [hd]; exact h.2
      · exact hb h
    · exact hb h
  · rename_i hw
    split at h
    · rename_i d hd hf
      split at h
      · exact hb h
      · rename_i hdN
        have hdst : dstB N o.dst = true := by rw [hd]; exact hdN
        split at h
        · rename_i x ns' hv
          refine needK_ok (P := Nx.ok E Q) h hb fun ns1 he h => ?_
          rw [Tr.putK_eq] at h
          obtain ⟨h1, h2⟩ := he h.1
          refine ⟨h2, DLex.val hdst hw hf (vop_ok hv h1) ?_⟩
          rw [hd]; exact h.2
        · split at h
          · rename_i t p ho
            split at h
            · rename_i x hp
              split at h
              · rename_i ys _ hy
                rw [Tr.putK_eq] at h
                refine ⟨h.1, DLex.val hdst hw hf (DOpP.newF (cells := ys) fun ρ s ηB hs hh => ?_) (by rw [hd]; exact h.2)⟩
                obtain ⟨cs, h1, h2⟩ := box_new ho hp ρ s ηB hs hh
                have := allD_inst hy h1
                subst this
                exact ⟨cs, instL_d _, h2⟩
              · rw [Tr.putK_eq] at h
                exact ⟨h.1, DLex.new hd hdN hw hf (box_new ho hp) h.2⟩
            · exact hb h
          · rename_i t ho
            split at h
            · rename_i _ _ _ z ht
              split at h
              · rw [Tr.putK_eq] at h
                refine ⟨h.1, DLex.val hdst hw hf (DOpP.newF (cells := z.map .v) (alloc_new' ho ht)) (by rw [hd]; exact h.2)⟩
              · rw [Tr.putK_eq] at h
                exact ⟨h.1, DLex.new hd hdN hw hf (alloc_new' ho ht) h.2⟩
            · exact hb h
          · rename_i t n parts ho
            split at h
            · rename_i e kk _ _ _ ht
              split at h
              · rename_i _ _ _ z' hte
                split at h
                · rename_i cells hfi
                  split at h
                  · rename_i hB
                    simp only [Bool.and_eq_true] at hB
                    rw [Tr.putK_eq] at h
                    exact ⟨h.1, DLex.val hdst hw hf (DOpP.lit ho ht hte hfi hB.1 hB.2) (by rw [hd]; exact h.2)⟩
                  · exact hb h
                · exact hb h
              · exact hb h
            · exact hb h
          · rename_i f as tys ho
            obtain ⟨as⟩ := as
            split at h
            · rename_i g cs hc
              split at h
              · exact hb h
              · split at h
                · rename_i xs ns' ms hfz
                  split at h
                  · rename_i z hz
                    split at h
                    · refine needK_ok (P := Nx.ok E Q) h hb fun ns1 he h => ?_
                      rw [Tr.putK_eq] at h
                      obtain ⟨h1, h2⟩ := he h.1
                      exact ⟨h2, DLex.val hdst hw hf (DOpP.pure 60 ho (hnest g xs z hz) hc hfz h1 (ImpL.refl xs) (.inl rfl)) (by rw [hd]; exact h.2)⟩
                    · split at h
                      · rename_i hrf
                        refine needK_ok (P := Nx.ok E Q) h hb fun ns1 he h => ?_
                        rw [Tr.putK_eq] at h
                        obtain ⟨h1, h2⟩ := he h.1
                        exact ⟨h2, DLex.val hdst hw hf (DOpP.pure 60 ho (hnest g xs z hz) hc hfz h1 (ImpL.refl xs) (.inr hrf)) (by rw [hd]; exact h.2)⟩
                      · exact hb h
                  · exact hb h
                · exact hb h
            · exact hb h
          · exact hb h
    · exact hb h
  · split at h
    · rename_i j want hg
      split at h
      · rename_i d hd
        split at h
        · rename_i t ht
          split at h
          · exact hb h
          · simp only [Tr.putK_eq] at h
            exact ⟨h.1, DLex.guard ht h.2.1 h.2.2⟩
        · exact hb h
      · exact hb h
    · exact hb h
theorem eqs_all : ∀ {ns : List (Nat × Nat)}, (ns.all fun p => Nat.beq p.1 p.2) = true → eqs ns
  | [], _ => trivial
  | p :: r, h => by simp only [List.all_cons, Bool.and_eq_true] at h; exact ⟨Nat.eq_of_beq_eq_true h.1, eqs_all h.2⟩
theorem vopL_ok {cl : Bool} {x : CV} {ns : List (Nat × Nat)} (h : vopL E.P E.G E.T cl σ η o.op = some (x, ns)) (hn : eqs ns) : DOpP E N o σ η x := by
  unfold vopL at h
  split at h
  · rename_i p hp
    simp only [Option.some.injEq] at h; subst h
    exact vop_ok hp hn
  · split at h
    · rename_i t n parts ho
      split at h
      · rename_i e kk _ _ _ ht
        split at h
        · rename_i _ _ _ z' hte
          split at h
          · rename_i cells hfi
            split at h
            · rename_i hB
              simp only [Bool.and_eq_true] at hB
              simp only [Option.some.injEq, Prod.mk.injEq] at h; obtain ⟨rfl, rfl⟩ := h
              exact DOpP.lit ho ht hte hfi hB.1 hB.2
            · cases h
          · cases h
        · cases h
      · cases h
    · cases h
theorem vopN_ok {nest : Nat → List AV → Option AV} (hnest : ∀ g xs z, nest g xs = some z → Pure E.toCx g xs (.ret z)) {cl : Bool} {x : CV} {ns : List (Nat × Nat)} (h : vopN E.P E.G E.T nest cl σ η o.op = some (x, ns)) (hn : eqs ns) : DOpP E N o σ η x := by
  unfold vopN at h
  split at h
  · rename_i p hp
    simp only [Option.some.injEq] at h; subst h
    exact vopL_ok hp hn
  · split at h
    · rename_i f as tys ho
      obtain ⟨as⟩ := as
      split at h
      · rename_i g cs hc
        split at h
        · rename_i xs ns' ms hfz
          split at h
          · rename_i z hz
            split at h
            · simp only [Option.some.injEq, Prod.mk.injEq] at h; obtain ⟨rfl, rfl⟩ := h
              exact DOpP.pure 60 ho (hnest g xs z hz) hc hfz hn (ImpL.refl xs) (.inl rfl)
            · split at h
              · rename_i hrf
                simp only [Option.some.injEq, Prod.mk.injEq] at h; obtain ⟨rfl, rfl⟩ := h
                exact DOpP.pure 60 ho (hnest g xs z hz) hc hfz hn (ImpL.refl xs) (.inr hrf)
              · cases h
          · cases h
        · cases h
      · cases h
    · cases h
theorem pendB_ok {nest : Nat → List AV → Option AV} (hnest : ∀ g xs z, nest g xs = some z → Pure E.toCx g xs (.ret z)) {cl : Bool} : ∀ {pend : List (Nat × Oper × CV)}, pendB E.P E.G E.T nest cl all σ η pend = true → PendD E N all pend σ η
  | [], _ => fun p hp => by cases hp
  | (i, o, x) :: r, h => by
    have key : DVal E N all o σ η x → PendD E N all r σ η → PendD E N all ((i, o, x) :: r) σ η := fun h1 h2 p hp => by
      rcases List.mem_cons.1 hp with rfl | hp
      · exact h1
      · exact h2 p hp
    simp only [pendB] at h
    split at h
    · cases h
    · split at h
      · rename_i hw
        split at h
        · rename_i y ns hv
          split at h
          · rename_i hB
            simp only [Bool.and_eq_true] at hB
            have := cvEq_ok hB.1
            subst this
            exact key (.inl ⟨hw, vopN_ok hnest hv (eqs_all hB.2)⟩) (pendB_ok hnest h)
          · cases h
        · cases h
      · rename_i hw
        split at h
        · split at h
          · rename_i a _ ha
            have : a = #[] := by cases a; simp_all
            subst this
            exact key (.inr ⟨hw, rfl⟩) (pendB_ok hnest h)
          · cases h
        · cases h
      · cases h
theorem vopS_ok {cl : Bool} {x : CV} (h : vopS E.P E.G E.T cl σ o.op = some x) : DOpS E N o σ x := by
  unfold vopS at h
  simp only [aopF_eq, ropF_eq, aop_g, rop_g, gop_g, kop_g, nop_g] at h
  split at h
  · rename_i y hy
    cases h
    exact fun ρ s ηB hs => ⟨y, rfl, (OpP.aop hy).mono fun _ _ _ hy => dat_ss hs hy⟩
  · split at h
    · rename_i y hy
      cases h
      exact fun ρ s ηB hs => by
        obtain ⟨y, h1, h2⟩ := rop_aop hs hy
        exact ⟨y, h2, OpP.aop h1⟩
    · split at h
      · rename_i y hy
        cases h
        exact fun ρ s ηB hs => ⟨y, rfl, (OpP.gop hy).mono fun _ _ _ hy => dat_ss hs hy⟩
      · split at h
        · cases h
        · split at h
          · rename_i y hy
            cases h
            exact fun ρ s ηB hs => ⟨y, rfl, (OpP.kop hy).mono fun _ _ _ hy => dat_ss hs hy⟩
          · split at h
            · rename_i y hy
              cases h
              exact fun ρ s ηB hs => ⟨y, rfl, (OpP.nop hy).mono fun _ _ _ hy => dat_ss hs hy⟩
            · cases h
theorem callN_ok {nest : Nat → List AV → Option AV} (hnest : ∀ g xs z, nest g xs = some z → Pure E.toCx g xs (.ret z)) {z : AV} {ns' : List (Nat × Nat)} {g : Nat} {xs : List AV} (h : callN nest σ η o.op = some (z, ns', g, xs)) (hn : eqs ns') : DOpP E N o σ η (.d z) ∧ Pure E.toCx g xs (.ret z) := by
  unfold callN at h
  split at h
  · rename_i f as tys ho
    obtain ⟨as⟩ := as
    split at h
    · rename_i g' cs hc
      split at h
      · rename_i xs' ns2 ms hfz
        split at h
        · rename_i z' hz
          split at h
          · simp only [Option.some.injEq, Prod.mk.injEq] at h; obtain ⟨rfl, rfl, rfl, rfl⟩ := h
            exact ⟨DOpP.pure 60 ho (hnest _ _ _ hz) hc hfz hn (ImpL.refl _) (.inl rfl), hnest _ _ _ hz⟩
          · split at h
            · rename_i hrf
              simp only [Option.some.injEq, Prod.mk.injEq] at h; obtain ⟨rfl, rfl, rfl, rfl⟩ := h
              exact ⟨DOpP.pure 60 ho (hnest _ _ _ hz) hc hfz hn (ImpL.refl _) (.inr hrf), hnest _ _ _ hz⟩
            · cases h
        · cases h
      · cases h
    · cases h
  · cases h
theorem stepTl_ok {nest : Nat → List AV → Option AV} (hnest : ∀ g xs z, nest g xs = some z → Pure E.toCx g xs (.ret z)) (hF : ∀ g x, c.fn g = some x → E.P.funcs[g]? = some x) {l : List (Nat × Oper × TK)} {A : Als} {pend : List (Nat × Oper × CV)} {fs : List (Nat × List AV × AV)} (hp : FOk E fs → PendD E N all pend σ η) (h : Nx.ok E Q (stepTl E.P E.G E.T c nest N K all l A pend fs k σ η ns bad)) (hb : bad.ok E Q → eqs ns ∧ DWP E N K (.tl all l A pend fs :: k) Q σ η) :
    eqs ns ∧ DWP E N K (.tl all l A pend fs :: k) Q σ η := by
  unfold stepTl at h
  split at h
  · exact ⟨h.1, fun hf => DTl.nil (hp hf) h.2⟩
  · exact hb h
  · rename_i i o j o' _ l
    split at h
    · rename_i hcl hw hw'
      split at h
      · rename_i a ca b cb hpr
        split at h
        · rename_i hB
          simp only [Bool.and_eq_true] at hB
          simp only [Tr.putK_eq] at h
          obtain ⟨g1, g2, g3, g4, g5, g6⟩ := pairH_ok hpr
          exact ⟨h.1, fun hf => DTl.pair (hp hf) g1 g2 hw hw' g3 (pendB_ok (lookF_ok hf) hB.1) g4 g5 (pendB_ok (lookF_ok hf) hB.2) g6 (h.2 hf)⟩
        · exact hb h
      · exact hb h
    · exact hb h
  · rename_i i o l
    split at h
    · exact hb h
    · rename_i hd
      split at h
      · rename_i hw
        exact ⟨h.1, fun hf => DTl.st (hp hf) hd (.inr ⟨hw, rfl⟩) (h.2 hf)⟩
      · rename_i hw
        split at h
        · rename_i x hv
          exact ⟨h.1, fun hf => DTl.st (hp hf) hd (.inl ⟨hw, vopS_ok hv⟩) (h.2 hf)⟩
        · split at h
          · exact hb h
          · rename_i x hv
            exact ⟨h.1, fun hf => DTl.st (hp hf) hd (.inl ⟨hw, callS_ok hnest hv⟩) (h.2 hf)⟩
          · split at h
            · rename_i x ns' hv
              refine needK_ok (P := Nx.ok E Q) h hb fun ns1 he h => ?_
              obtain ⟨h1, h2⟩ := he h.1
              exact ⟨h2, fun hf => DTl.fl (hp hf) hd (.inl ⟨hw, vopL_ok hv h1⟩) (h.2 hf)⟩
            · split at h
              · rename_i z ns' g xs hv
                refine needK_ok (P := Nx.ok E Q) h hb fun ns1 he h => ?_
                obtain ⟨h1, h2⟩ := he h.1
                obtain ⟨q1, q2⟩ := callN_ok hnest hv h1
                exact ⟨h2, fun hf => DTl.fl (hp hf) hd (.inl ⟨hw, q1⟩) (h.2 fun f hm => (List.mem_cons.1 hm).elim (fun e => by subst e; exact q2) (hf f))⟩
              · exact hb h
      · exact hb h
  · rename_i i o l
    split at h
    · rename_i hnd hd
      rw [openK_eq] at h
      obtain ⟨σ1, η1, hop⟩ : ∃ σ1 η1, openN (nuC (mOf all.toArray i A)) σ η = (σ1, η1) := ⟨_, _, rfl⟩
      rw [hop] at h
      simp only at h
      split at h
      · rename_i hw
        refine ⟨h.1, fun hf => DTl.skip (hp hf) hnd hd (by rw [hop]; exact hw) ?_⟩
        rw [hop]; exact h.2 hf
      · rename_i hw
        split at h
        · rename_i x ns' hv
          refine needK_ok (P := Nx.ok E Q) h hb fun ns1 he h => ?_
          obtain ⟨h1, h2⟩ := he h.1
          exact ⟨h2, fun hf => DTl.eff (hp hf) hnd hd hop hw (DEff.val (vop_ok hv h1)) (fun y η' hr => by obtain ⟨e1, rfl⟩ := hr; cases e1; exact h.2 hf) (fun y η' hr => by obtain ⟨e1, _⟩ := hr; cases e1)⟩
        · rename_i hv
          split at h
          · rename_i d x ce η2 ns' hh
            refine needK_ok (P := Nx.ok E Q) h hb fun ns1 he h => ?_
            rw [Tr.putK_eq] at h
            obtain ⟨h1, h2⟩ := he h.1
            exact ⟨h2, fun hf => DTl.eff (hp hf) hnd hd hop hw (preHop_ok hh h1) (fun y η' hr => by obtain ⟨e1, rfl⟩ := hr; cases e1; exact h.2 hf) (fun y η' hr => by obtain ⟨e1, _⟩ := hr; cases e1)⟩
          · rename_i j ce ns2 η2 ns' hh
            refine needK_ok (P := Nx.ok E Q) h hb fun ns1 he h => ?_
            rw [Tr.putK_eq] at h
            obtain ⟨h1, h2⟩ := he h.1
            exact ⟨h2, fun hf => DTl.eff (hp hf) hnd hd hop hw (preHop_ok hh h1) (fun y η' hr => by obtain ⟨e1, rfl⟩ := hr; cases e1; exact h.2 hf) (fun y η' hr => by obtain ⟨e1, _⟩ := hr; cases e1)⟩
          · rename_i j d x ce ns2 η2 ns' hh
            refine needK_ok (P := Nx.ok E Q) h hb fun ns1 he h => ?_
            rw [Tr.putK_eq] at h
            obtain ⟨h1, h2⟩ := he h.1
            exact ⟨h2, fun hf => DTl.eff (hp hf) hnd hd hop hw (preHop_ok hh h1) (fun y η' hr => by obtain ⟨e1, rfl⟩ := hr; cases e1; exact h.2 hf) (fun y η' hr => by obtain ⟨e1, _⟩ := hr; cases e1)⟩
          · exact hb h
          · split at h
            · rename_i f as tys ho
              obtain ⟨as⟩ := as
              split at h
              · rename_i g cs hc
                split at h
                · exact hb h
                · split at h
                  · rename_i nt rs b hf
                    split at h
                    · rename_i hB
                      obtain ⟨fn, h1, h2, h3, h4, h5⟩ := finfo_spec hF hf
                      exact ⟨h.1, DWP.inlT ho hp hnd hop hw hc h1 h2 h3 h4 h5 hB hd h.2⟩
                    · exact hb h
                  · exact hb h
              · exact hb h
            · rename_i p ho
              split at h
              · rename_i t y hpp
                exact stepPan_ok (N := N) (K := K) ⟨y, .inl rfl⟩ h hb fun h1 h2 => ⟨h1, fun hf => DTl.eff (hp hf) hnd hd hop hw (DEff.panic ho hpp) (fun y η' hr => by obtain ⟨e1, _⟩ := hr; cases e1) (fun y η' hr => by obtain ⟨e1, rfl⟩ := hr; cases e1; exact h2)⟩
              · rename_i t y hpp
                exact stepPan_ok (N := N) (K := K) ⟨.d y, .inr ⟨y, rfl⟩⟩ h hb fun h1 h2 => ⟨h1, fun hf => DTl.eff (hp hf) hnd hd hop hw (DEff.panicD ho hpp) (fun y η' hr => by obtain ⟨e1, _⟩ := hr; cases e1) (fun y η' hr => by obtain ⟨e1, rfl⟩ := hr; cases e1; exact h2)⟩
              · exact hb h
            · exact hb h
      · exact hb h
    · exact hb h
theorem AWP.scope {C : Cx} {N : Nat} {c : Code} {Q : AQ} {σ : Sg} {η : List Ent} (h : AWP C N c Q σ η) : AWP C N (.scope c) Q σ η := fun F w0 η0 a w hs hx => wp_scope_straight (wp_mono (h F w0 η0 a w hs hx) fun e a' w' hq => by
  obtain ⟨e0, σ', η', h1, h2, h3⟩ := hq
  cases e0 with
  | norm => simp only [AE.rel] at h2; subst h2; exact ⟨.norm, σ', η', h1, rfl, h3⟩
  | exit i => simp only [AE.rel] at h2; subst h2; exact ⟨.exit i, σ', η', h1, rfl, h3⟩
  | ret => simp only [AE.rel] at h2; subst h2; exact ⟨.ret, σ', η', h1, rfl, h3⟩
  | pan x => obtain ⟨v, rfl, h2⟩ := h2; exact ⟨.pan x, σ', η', h1, ⟨v, rfl, h2⟩, h3⟩)
theorem DC.scope {c : Code} {σ : TS} {η : Hp} (h : DC E N K c Q σ η) : DC E N K (.scope c) Q σ η := fun ρ σB ηB hs hh => AWP.scope (h ρ σB ηB hs hh)
theorem stepCode_ok (hm : E.P.follows .mixedOrders = true) {fl : Nat} {b : Code} (h : Nx.ok E Q (stepCode E.T c fl N K b k σ η ns bad)) (hb : bad.ok E Q → eqs ns ∧ DWP E N K (.code b :: k) Q σ η) : eqs ns ∧ DWP E N K (.code b :: k) Q σ η := by
  unfold stepCode at h
  split at h
  · exact ⟨h.1, DC.skip h.2⟩
  · exact ⟨h.1, DC.label h.2⟩
  · rename_i x y
    refine ⟨h.1, DC.seq ?_⟩
    rw [dq_then]; exact h.2
  · rename_i i x
    refine ⟨h.1, DC.block ?_⟩
    rw [dq_blk]; exact h.2
  · rename_i id ops d
    obtain ⟨ops⟩ := ops
    split at h
    · exact ⟨h.1, DC.region h.2⟩
    split at h
    · rename_i u hu
      split at h
      · rename_i x hx
        split at h
        · rename_i z ns' ms hf
          refine needK_ok (P := Nx.ok E Q) h hb fun ns1 he h => ?_
          rw [Tr.putK_eq] at h
          obtain ⟨h1, h2⟩ := he h.1
          exact ⟨h2, DC.frz 60 hx hf h1 h.2⟩
        · exact hb h
      · exact hb h
    · split at h
      rename_i pre tl al hp
      split at h
      · exact hb h
      · rename_i A hA
        split at h
        · rename_i hB
          simp only [Bool.and_eq_true] at hB
          exact ⟨h.1, DC.open pre tl al A hm hA hB.1 hB.2 h.2⟩
        · exact hb h
  · rename_i i
    split at h
    · rename_i k' hk
      refine ⟨h.1, DC.exit ?_⟩
      rw [dq_exit hk]; exact h.2
    · exact hb h
  · split at h
    · rename_i hk
      refine ⟨h.1, DC.ret ?_⟩
      rw [dq_ret, hk]; exact h.2
    · rename_i N' K' σ' dst rs k' hk
      refine ⟨h.1, DC.ret ?_⟩
      rw [dq_ret, hk]; exact h.2
    · rename_i N' K' σ' dst rs ty z k' hk
      refine ⟨h.1, DC.ret ?_⟩
      rw [dq_ret, hk]; exact h.2
    · exact hb h
  · exact ⟨h.1, DC.scope h.2⟩
  · rename_i t x y
    split at h
    · rename_i v hv
      split at h
      · split at h
        · exact ⟨h.1, DC.cond hv (fun _ => h.2) (fun e => by cases e)⟩
        · exact ⟨h.1, DC.cond hv (fun e => by cases e) (fun _ => h.2)⟩
      · simp only [Tr.putK_eq] at h
        exact ⟨h.1, DC.condS hv h.2.1 h.2.2⟩
    · exact hb h
  · rename_i v x y
    split at h
    · exact ⟨h.1, DC.cond (t := true) rfl (fun _ => h.2) (fun e => by cases e)⟩
    · exact ⟨h.1, DC.cond (t := false) rfl (fun e => by cases e) (fun _ => h.2)⟩
  · rename_i x
    split at h
    · refine ⟨h.1, DC.rounds (fl + 1) ?_⟩
      show DC E N K x (DE.then (DRounds E N K x (dq E N K k Q) fl) (dq E N K k Q)) σ η
      rw [dq_lpu]; exact h.2
    · exact hb h
  · exact hb h
theorem step_ok (hm : E.P.follows .mixedOrders = true) (hfs : FOk E c.fs) (hct : ∀ f ty z, c.ct f = some (ty, z) → CtOk E f ty z) (hF : ∀ g x, c.fn g = some x → E.P.funcs[g]? = some x) {nest : Nat → List AV → Option AV} (hnest : ∀ g xs z, nest g xs = some z → Pure E.toCx g xs (.ret z)) {fl : Nat} {todo : List It} (h : Nx.ok E Q (step E.P E.G E.T c nest fl N K todo σ η ns)) : eqs ns ∧ DWP E N K todo Q σ η := by
  unfold step at h
  have hb : Nx.ok E Q (.out (.stuck N K todo σ η ns)) → eqs ns ∧ DWP E N K todo Q σ η := fun h => h
  revert hb
  generalize Nx.out (.stuck N K todo σ η ns) = bad at h
  intro hb
  rcases todo with _ | ⟨it, k⟩
  · exact h
  cases it with
  | blk i => exact h
  | lp n => exact hb h
  | lpu m b =>
    cases m with
    | zero => exact hb h
    | succ m' =>
      refine ⟨h.1, ?_⟩
      show DRounds E N K _ (dq E N K _ Q) (m' + 1) σ η
      show DC E N K _ (DE.then (DRounds E N K _ (dq E N K _ Q) m') (dq E N K _ Q)) σ η
      rw [dq_lpu]; exact h.2
  | fr N' K' σ' dst rs =>
    unfold stepB at h
    simp only at h
    split at h
    · exact hb h
    · rename_i xs hx
      split at h
      · exact ⟨h.1, xs, hx, h.2⟩
      · rw [Tr.putK_eq] at h
        exact ⟨h.1, xs, hx, h.2⟩
  | ct N' K' σ' dst rs ty z =>
    unfold stepB at h
    simp only at h
    split at h
    · exact hb h
    · rename_i xs hx
      exact ⟨h.1, xs, hx, h.2⟩
  | ops all l =>
    cases l with
    | nil => exact ⟨h.1, DO.nil h.2⟩
    | cons o r => exact stepOps_ok hfs hct hF h hb
  | lex all tl A pre ν =>
    cases pre with
    | nil =>
      unfold stepB at h
      simp only at h
      split at h
      · rename_i hnd
        rw [openK_eq, eraseK_eq] at h
        exact ⟨h.1, DLex.nil hnd (h.2 fun f hf => by cases hf)⟩
      · exact hb h
    | cons o r => exact stepLex_ok hnest h hb
  | tl all l A pend fs =>
    unfold stepB at h
    simp only at h
    split at h
    · rename_i hp
      exact stepTl_ok hnest hF (fun hf => pendB_ok (lookF_ok hf) hp) h hb
    · exact hb h
  | code b => exact stepCode_ok hm h hb
end
def endV (T : Tab) (rs : List ResultVar) : Out → Option AV
  | .fin .ret σ η [] => match resD T σ η rs with
    | some xs => match frzL η.e 60 [packC xs] with
      | some ([z], ns, _) => match ns.all fun p => Nat.beq p.1 p.2 with
        | true => some z
        | false => none
      | _ => none
    | none => none
  | .fin .norm σ η [] => match resD T σ η rs with
    | some xs => match frzL η.e 60 [packC xs] with
      | some ([z], ns, _) => match ns.all fun p => Nat.beq p.1 p.2 with
        | true => some z
        | false => none
      | _ => none
    | none => none
  | _ => none
def nestV (F : Nat → Option Func) (T : Tab) (run : Nat → Nat → List It → TS → Hp → List (Nat × Nat) → Out) (g : Nat) (xs : List AV) : Option AV := match finfo F g with
  | some (nt, rs, b) => match Nat.ble xs.length nt with
    | true => endV T rs (run nt 0 [.code b] (ofArgs 0 (xs.map .d)) Hp.nil [])
    | false => none
  | none => none
def nestC (fs : List (Nat × List AV × AV)) (nest : Nat → List AV → Option AV) (g : Nat) (xs : List AV) : Option AV := match lookF fs g xs with
  | some z => some z
  | none => nest g xs
def dx (P : Program) (G : Gl) (T : Tab) (c : Cfg) : Nat → Nat → Nat → List It → TS → Hp → List (Nat × Nat) → Out
  | 0, N, K, todo, σ, η, ns => .stuck N K todo σ η ns
  | f + 1, N, K, todo, σ, η, ns => match step P G T c (nestC c.fs (nestV c.fn T (dx P G T c f))) f N K todo σ η ns with
    | .go N' K' todo' σ' η' ns' => dx P G T c f N' K' todo' σ' η' ns'
    | .out o => o
section
variable {E : Env}
theorem nestV_ok {F : Nat → Option Func} (hF : ∀ g x, F g = some x → E.P.funcs[g]? = some x) {run : Nat → Nat → List It → TS → Hp → List (Nat × Nat) → Out} (hr : ∀ (Q : DQ) N K todo σ η ns, Out.ok E Q (run N K todo σ η ns) → eqs ns ∧ DWP E N K todo Q σ η) {g : Nat} {xs : List AV} {z : AV} (h : nestV F E.T run g xs = some z) : Pure E.toCx g xs (.ret z) := by
  unfold nestV at h
  split at h
  · rename_i nt rs b hf
    obtain ⟨fn, h1, h2, h3, h4, h5⟩ := finfo_spec hF hf
    split at h
    · rename_i hle
      refine Pure.ofD 60 (DCall.enter h1 h2 h3 rs h4 nt h5 (by simpa using hle) ?_)
      have key : ∀ {σ' : TS} {η' : Hp} {xs' : List CV} {ns1 : List (Nat × Nat)} {ms1 : List (Nat × CEnt)} {z' : AV}, resD E.T σ' η' rs = some xs' → frzL η'.e 60 [packC xs'] = some ([z'], ns1, ms1) → (ns1.all fun p => Nat.beq p.1 p.2) = true → some z' = some z →
          ∃ ys, resD E.T σ' η' rs = some ys ∧ Ends 60 (.ret z) (.ret (packC ys)) η' := by
        intro σ' η' xs' ns1 ms1 z' g1 g2 g3 g4
        cases g4
        exact ⟨xs', g1, z, ns1, ms1, g2, eqs_all g3, z, rfl, Imp.refl z⟩
      have := hr (RD E.T rs (Ends 60 (.ret z))) nt 0 [.code b] (ofArgs 0 (xs.map .d)) Hp.nil []
      revert h this
      generalize run nt 0 [.code b] (ofArgs 0 (xs.map .d)) Hp.nil [] = out
      intro h hr'
      refine (hr' ?_).2
      unfold endV at h
      split at h
      · split at h
        · rename_i xs' g1
          split at h
          · rename_i z' ns1 ms1 g2
            split at h
            · rename_i g3; exact ⟨trivial, key g1 g2 g3 h⟩
            · cases h
          · cases h
        · cases h
      · split at h
        · rename_i xs' g1
          split at h
          · rename_i z' ns1 ms1 g2
            split at h
            · rename_i g3; exact ⟨trivial, key g1 g2 g3 h⟩
            · cases h
          · cases h
        · cases h
      · cases h
    · cases h
  · cases h
theorem dx_ok (hm : E.P.follows .mixedOrders = true) (c : Cfg) (hfs : FOk E c.fs) (hct : ∀ f ty z, c.ct f = some (ty, z) → CtOk E f ty z) (hF : ∀ g x, c.fn g = some x → E.P.funcs[g]? = some x) : ∀ (f : Nat) (Q : DQ) (N K : Nat) (todo : List It) (σ : TS) (η : Hp) (ns : List (Nat × Nat)), Out.ok E Q (dx E.P E.G E.T c f N K todo σ η ns) → eqs ns ∧ DWP E N K todo Q σ η
  | 0, _, _, _, _, _, _, _, h => h
  | f + 1, Q, N, K, todo, σ, η, ns, h => by
    have ih := dx_ok hm c hfs hct hF f
    refine step_ok (c := c) (fl := f) hm hfs hct hF (nest := nestC c.fs (nestV c.fn E.T (dx E.P E.G E.T c f))) (fun g xs z hz => ?_) ?_
    · unfold nestC at hz
      split at hz
      · rename_i z' hl
        cases hz
        exact lookF_ok hfs g xs z hl
      · exact nestV_ok hF (fun Q N K todo σ η ns => ih Q N K todo σ η ns) hz
    unfold dx at h
    revert h
    generalize step E.P E.G E.T c (nestC c.fs (nestV c.fn E.T (dx E.P E.G E.T c f))) f N K todo σ η ns = nx
    intro h
    cases nx with
    | go N' K' todo' σ' η' ns' => exact ih Q N' K' todo' σ' η' ns' h
    | out o => exact h
def runV (P : Program) (G : Gl) (T : Tab) (c : Cfg) (f : Nat) (g : Nat) (xs : List AV) : Option AV := nestV c.fn T (dx P G T c f) g xs
theorem runV_ok (hm : E.P.follows .mixedOrders = true) {c : Cfg} (hfs : FOk E c.fs) (hct : ∀ f ty z, c.ct f = some (ty, z) → CtOk E f ty z) (hF : ∀ g x, c.fn g = some x → E.P.funcs[g]? = some x) {f g : Nat} {xs : List AV} {z : AV} (h : runV E.P E.G E.T c f g xs = some z) : Pure E.toCx g xs (.ret z) := nestV_ok hF (dx_ok hm c hfs hct hF f) h
end
end Go.Bw
