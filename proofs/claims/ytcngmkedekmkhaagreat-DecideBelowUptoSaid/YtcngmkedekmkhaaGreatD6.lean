/-
  Own work. The abstract machine, sixth part: its step, as a function.
-/
import Derived.Test.YtcngmkedekmkhaaGreatD5
import Derived.KernelRfl
noncomputable section
namespace Go.Bw
open Go
def divN (a b : Nat) : Nat := Nat.div a b
def modN (a b : Nat) : Nat := Nat.mod a b
def mop (cl : Bool) (T : Tab) (σ : TS) (η : Hp) : Op → Option (CV × List (Nat × Nat))
  | .load t p => match cev σ p with
    | some (.own i off) => match η.e.get i with
      | some (.box cs) => match loadC T t cs off with
        | some x => some (x, [])
        | none => none
      | some (.fzP cs) => match loadA T t (cs.drop off) 0 with
        | some y => some (.d y, [])
        | none => none
      | _ => none
    | some (.oe i n m) => match cl with
      | false => none
      | true => match η.e.get i with
        | some (.row _ k rows) => match nth rows (divN m k) with
          | some r => match loadA T t r (modN m k) with
            | some y => some (.d y, [(n, rows.length)])
            | none => none
          | none => none
        | _ => none
    | _ => none
  | .indexAddr t p ix => match cl with
    | false => none
    | true => match cev σ p, cev σ ix, tget T t with
      | some (.os i n), some (.d (.v (.int _ (.ofNat j)))), some ⟨.slice e k, _, _, _⟩ => match η.e.get i with
        | some (.row e' k' rows) => match Nat.beq e e' && Nat.beq k k' && Nat.blt j rows.length with
          | true => some (.oe i n (j * k), [(n, rows.length)])
          | false => none
        | some (.fzS k' rows) => match Nat.beq k k', nth rows j with
          | true, some r => some (.d (.ip r), [(n, rows.length)])
          | _, _ => none
        | _ => none
      | _, _, _ => none
  | .call { callee := .builtin .len, args := as, argTypes := ts } => match as.toList, ts.toList with
    | [p], [t] => match cev σ p, tget T t with
      | some (.os _ n), some ⟨.slice _ _, _, _, _⟩ => some (.d (.v (.int .i64 (n : Int))), [])
      | some (.d y), _ => match lenA T t y with
        | some n => some (.d (.v (.int .i64 n)), [])
        | none => none
      | _, _ => none
    | _, _ => none
  | _ => none
def opI (op : Op) : Nat := @Op.rec (fun _ => Nat) (fun _ => 0) (fun _ => 1) (fun _ _ _ => 2) (fun _ => 3) (fun _ _ => 4) (fun _ _ => 5) (fun _ _ _ => 6) (fun _ _ _ _ => 7) (fun _ _ => 8) (fun _ _ _ => 9) (fun _ => 10) (fun _ => 11) (fun _ => 12) (fun _ _ _ _ _ => 13) (fun _ _ _ => 14) (fun _ _ _ => 15) (fun _ _ => 16) (fun _ _ => 17) (fun _ _ _ => 18) (fun _ _ => 19) (fun _ _ => 20) (fun _ _ _ => 21) (fun _ _ _ _ _ => 22) (fun _ _ _ => 23) (fun _ _ _ => 24) (fun _ _ _ => 25) (fun _ _ _ => 26) (fun _ _ _ _ => 27) (fun _ _ _ _ => 28) (fun _ _ _ => 29) (fun _ _ _ _ => 30) (fun _ _ => 31) (fun _ _ => 32) (fun _ => 33) (fun _ _ _ _ => 34) (fun _ _ => 35) (fun _ => 36) (fun _ => 37) (fun _ => 38) (fun _ => 39) (fun _ _ => 40) (fun _ _ _ => 41) (fun _ _ => 42) op
def inM (m : Nat) (op : Op) : Bool := Nat.beq (Nat.land (Nat.shiftRight m (opI op)) 1) 1
def ifM {α : Type} (m : Nat) (op : Op) (x : Option α) : Option α := @Bool.rec (fun _ => Option α) none x (inM m op)
theorem aop_g {T : Tab} {s : Sl} {op : Op} : ifM 51565228327 op (aop T s op) = aop T s op := by cases op <;> kernel_rfl
theorem rop_g {T : Tab} {σ : TS} {op : Op} : ifM 51565170727 op (rop T σ op) = rop T σ op := by cases op <;> kernel_rfl
theorem mop_g {cl : Bool} {T : Tab} {σ : TS} {η : Hp} {op : Op} : ifM 68753031424 op (mop cl T σ η op) = mop cl T σ η op := by cases op <;> kernel_rfl
theorem gop_g {G : Gl} {T : Tab} {s : Sl} {op : Op} : ifM 33024 op (gop G T s op) = gop G T s op := by cases op <;> kernel_rfl
theorem kop_g {P : Program} {T : Tab} {s : Sl} {op : Op} : ifM 104865792 op (kop P T s op) = kop P T s op := by cases op <;> kernel_rfl
theorem nop_g {P : Program} {s : Sl} {op : Op} : ifM 68719484928 op (nop P s op) = nop P s op := by cases op <;> kernel_rfl
theorem nopC_g {P : Program} {σ : TS} {η : Hp} {op : Op} : ifM 8192 op (nopC P σ η op) = nopC P σ η op := by cases op <;> kernel_rfl
def aopF (T : Tab) (σ : Sl) (op : Op) : Option AV := @Op.rec (fun _ => Tab → Sl → Option AV)
  (fun x T σ => ev σ x)
  (fun x T σ => ev σ x)
  (fun c a b T σ => match ev σ c with 
    | some (.v (.bool true)) => ev σ a 
    | some (.v (.bool false)) => ev σ b 
    | _ => none)
  (fun _ _ _ => none)
  (fun _ _ _ _ => none)
  (fun t parts T σ => match tget T t with 
    | some ⟨.struct fs, _, _, z⟩ => match fillA fs σ (z.map .v) parts.toList with 
      | some cells => some (.agg cells) 
      | none => none 
    | _ => none)
  (fun _ _ _ _ _ => none)
  (fun _ _ _ _ _ _ => none)
  (fun t x T σ => match ev σ x, tget T t with 
    | some (.ip cs), some ⟨d, k, _, _⟩ => match d.agg with 
      | true => match fits cs k with 
        | true => some (.agg (cs.take k)) 
        | false => none 
      | false => nth cs 0 
    | _, _ => none)
  (fun _ _ _ _ _ => none)
  (fun _ _ _ => none)
  (fun _ _ _ => none)
  (fun x T σ => match ev σ x with 
    | some (.v (.pointer (some a))) => some (.v (.pointer (some a))) 
    | some (.own tag b o) => some (.own tag b o) 
    | some (.ip cs) => some (.ip cs) 
    | some (.oe tag v n) => some (.oe tag v n) 
    | some (.fn f fs cs) => some (.fn f fs cs) 
    | some (.v (.func (.func f) a c)) => some (.v (.func (.func f) a c)) 
    | _ => none)
  (fun op ot x y _ T σ => match ev σ x, ev σ y with 
    | some (.v p), some (.v q) => match abin op p q with 
      | some r => some (.v r) 
      | none => match abit op p q with 
        | some r => some (.v r) 
        | none => none 
    | some (.ifc _ _), some (.v .nilIface) => match tget T ot with 
      | some ⟨.iface, _, _, _⟩ => match op with 
        | .eql => some (.v (.bool false)) 
        | .neq => some (.v (.bool true)) 
        | _ => none 
      | _ => none 
    | _, _ => none)
  (fun u0 u1 u2 T σ => aop T σ (.unOp u0 u1 u2))
  (fun s d x T σ => match ev σ x, tget T s, tget T d with 
    | some (.v (.int _ n)), some _, some ⟨.int k, _, _, _⟩ => some (.v (.int k (k.wrap n))) 
    | some (.v (.string x)), some ⟨.str, _, _, _⟩, some ⟨.str, _, _, _⟩ => some (.v (.string x)) 
    | _, _, _ => none)
  (fun _ _ _ _ => none)
  (fun t x T σ => match ev σ x, tget T t with 
    | some _, some ⟨.iface, _, _, _⟩ => none 
    | some y, some _ => some (.ifc t y) 
    | _, _ => none)
  (fun u0 u1 u2 T σ => aop T σ (.makeFunc u0 u1 u2))
  (fun _ _ _ _ => none)
  (fun _ _ _ _ => none)
  (fun _ _ _ _ _ => none)
  (fun _ _ _ _ _ _ _ => none)
  (fun t x f T σ => match tget T t with 
    | some ⟨.struct fs, _, _, _⟩ => match nth fs f with 
      | some (off, _, _, _) => match ev σ x with 
        | some (.own tag b o) => some (.own tag b (o + off)) 
        | some (.ip cs) => some (.ip (cs.drop off)) 
        | some (.oe tag v n) => some (.oe tag v (n + off)) 
        | _ => none 
      | none => none 
    | _ => none)
  (fun t x f T σ => match ev σ x, tget T t with 
    | some (.agg xs), some ⟨.struct fs, _, _, _⟩ => match nth fs f with 
      | some (o, _, k, g) => partA g xs o k 
      | none => none 
    | _, _ => none)
  (fun _ _ _ _ _ => none)
  (fun _ _ _ _ _ => none)
  (fun _ _ _ _ _ _ => none)
  (fun _ _ _ _ _ _ => none)
  (fun _ _ _ _ _ => none)
  (fun _ _ _ _ _ _ => none)
  (fun _ _ _ _ => none)
  (fun _ _ _ _ => none)
  (fun _ _ _ => none)
  (fun x _ t ok T σ => match ev σ x, tget T t with 
    | some (.ifc _ _), some ⟨.iface, _, _, _⟩ => none 
    | some (.ifc u y), some _ => match Nat.beq u t, ok with 
      | true, true => some (.tup [y, .v (.bool true)]) 
      | true, false => some y 
      | false, _ => none 
    | _, _ => none)
  (fun x i T σ => match ev σ x with 
    | some (.tup xs) => nth xs i 
    | _ => none)
  (fun _ _ _ => none)
  (fun _ _ _ => none)
  (fun _ _ _ => none)
  (fun _ _ _ => none)
  (fun _ _ _ _ => none)
  (fun _ _ _ _ _ => none)
  (fun _ _ _ _ => none) op T σ
def ropF (T : Tab) (σ : TS) (op : Op) : Option CV := @Op.rec (fun _ => Tab → TS → Option CV)
  (fun x T σ => cev σ x)
  (fun x T σ => cev σ x)
  (fun c a b T σ => match cev σ c with 
    | some (.d (.v (.bool true))) => cev σ a 
    | some (.d (.v (.bool false))) => cev σ b 
    | _ => none)
  (fun _ _ _ => none)
  (fun _ _ _ _ => none)
  (fun t parts T σ => match tget T t with 
    | some ⟨.struct fs, _, _, z⟩ => match fillC fs σ ((z.map .v).map .d) parts.toList with 
      | some cells => some (mkAgg cells) 
      | none => none 
    | _ => none)
  (fun _ _ _ _ _ => none)
  (fun _ _ _ _ _ _ => none)
  (fun _ _ _ _ => none)
  (fun _ _ _ _ _ => none)
  (fun _ _ _ => none)
  (fun _ _ _ => none)
  (fun x T σ => match cev σ x with 
    | some (.own t o) => some (.own t o) 
    | some (.oe t n o) => some (.oe t n o) 
    | some (.fn f fs cs) => some (.fn f fs cs) 
    | _ => none)
  (fun _ _ _ _ _ _ _ => none)
  (fun _ _ _ _ _ => none)
  (fun _ _ _ _ _ => none)
  (fun _ _ _ _ => none)
  (fun t x T σ => match cev σ x, tget T t with 
    | some _, some ⟨.iface, _, _, _⟩ => none 
    | some y, some _ => some (.ifc t y) 
    | _, _ => none)
  (fun u0 u1 u2 T σ => rop T σ (.makeFunc u0 u1 u2))
  (fun _ _ _ _ => none)
  (fun _ _ _ _ => none)
  (fun _ _ _ _ _ => none)
  (fun _ _ _ _ _ _ _ => none)
  (fun t x f T σ => match tget T t with 
    | some ⟨.struct fs, _, _, _⟩ => match nth fs f with 
      | some (off, _, _, _) => match cev σ x with 
        | some (.own t o) => some (.own t (o + off)) 
        | some (.oe t n o) => some (.oe t n (o + off)) 
        | _ => none 
      | none => none 
    | _ => none)
  (fun t x f T σ => match cev σ x, tget T t with 
    | some (.agg xs), some ⟨.struct fs, _, _, _⟩ => match nth fs f with 
      | some (o, _, k, g) => match g with 
        | true => some (mkAgg ((xs.drop o).take k)) 
        | false => nth xs o 
      | none => none 
    | _, _ => none)
  (fun _ _ _ _ _ => none)
  (fun _ _ _ _ _ => none)
  (fun _ _ _ _ _ _ => none)
  (fun _ _ _ _ _ _ => none)
  (fun _ _ _ _ _ => none)
  (fun _ _ _ _ _ _ => none)
  (fun _ _ _ _ => none)
  (fun _ _ _ _ => none)
  (fun _ _ _ => none)
  (fun x _ t ok T σ => match cev σ x, tget T t with 
    | some (.ifc _ _), some ⟨.iface, _, _, _⟩ => none 
    | some (.ifc u y), some _ => match Nat.beq u t, ok with 
      | true, true => some (.tup [y, .d (.v (.bool true))]) 
      | true, false => some y 
      | false, _ => none 
    | _, _ => none)
  (fun x i T σ => match cev σ x with 
    | some (.tup xs) => nth xs i 
    | _ => none)
  (fun _ _ _ => none)
  (fun _ _ _ => none)
  (fun _ _ _ => none)
  (fun _ _ _ => none)
  (fun _ _ _ _ => none)
  (fun _ _ _ _ _ => none)
  (fun _ _ _ _ => none) op T σ
def mopF (cl : Bool) (T : Tab) (σ : TS) (η : Hp) (op : Op) : Option (CV × List (Nat × Nat)) := @Op.rec (fun _ => Bool → Tab → TS → Hp → Option (CV × List (Nat × Nat)))
  (fun _ _ _ _ _ => none)
  (fun _ _ _ _ _ => none)
  (fun _ _ _ _ _ _ _ => none)
  (fun _ _ _ _ _ => none)
  (fun _ _ _ _ _ _ => none)
  (fun _ _ _ _ _ _ => none)
  (fun _ _ _ _ _ _ _ => none)
  (fun _ _ _ _ _ _ _ _ => none)
  (fun t p cl T σ η => match cev σ p with 
    | some (.own i off) => match η.e.get i with 
      | some (.box cs) => match loadC T t cs off with 
        | some x => some (x, []) 
        | none => none 
      | some (.fzP cs) => match loadA T t (cs.drop off) 0 with 
        | some y => some (.d y, []) 
        | none => none 
      | _ => none 
    | some (.oe i n m) => match cl with 
      | false => none 
      | true => match η.e.get i with 
        | some (.row _ k rows) => match nth rows (divN m k) with 
          | some r => match loadA T t r (modN m k) with 
            | some y => some (.d y, [(n, rows.length)]) 
            | none => none 
          | none => none 
        | _ => none 
    | _ => none)
  (fun _ _ _ _ _ _ _ => none)
  (fun _ _ _ _ _ => none)
  (fun _ _ _ _ _ => none)
  (fun _ _ _ _ _ => none)
  (fun _ _ _ _ _ _ _ _ _ => none)
  (fun _ _ _ _ _ _ _ => none)
  (fun _ _ _ _ _ _ _ => none)
  (fun _ _ _ _ _ _ => none)
  (fun _ _ _ _ _ _ => none)
  (fun _ _ _ _ _ _ _ => none)
  (fun _ _ _ _ _ _ => none)
  (fun _ _ _ _ _ _ => none)
  (fun _ _ _ _ _ _ _ => none)
  (fun _ _ _ _ _ _ _ _ _ => none)
  (fun _ _ _ _ _ _ _ => none)
  (fun _ _ _ _ _ _ _ => none)
  (fun t p ix cl T σ η => match cl with 
    | false => none 
    | true => match cev σ p, cev σ ix, tget T t with 
      | some (.os i n), some (.d (.v (.int _ (.ofNat j)))), some ⟨.slice e k, _, _, _⟩ => match η.e.get i with 
        | some (.row e' k' rows) => match Nat.beq e e' && Nat.beq k k' && Nat.blt j rows.length with 
          | true => some (.oe i n (j * k), [(n, rows.length)]) 
          | false => none 
        | some (.fzS k' rows) => match Nat.beq k k', nth rows j with 
          | true, some r => some (.d (.ip r), [(n, rows.length)]) 
          | _, _ => none 
        | _ => none 
      | _, _, _ => none)
  (fun _ _ _ _ _ _ _ => none)
  (fun _ _ _ _ _ _ _ _ => none)
  (fun _ _ _ _ _ _ _ _ => none)
  (fun _ _ _ _ _ _ _ => none)
  (fun _ _ _ _ _ _ _ _ => none)
  (fun _ _ _ _ _ _ => none)
  (fun _ _ _ _ _ _ => none)
  (fun _ _ _ _ _ => none)
  (fun _ _ _ _ _ _ _ _ => none)
  (fun _ _ _ _ _ _ => none)
  (fun u0 cl T σ η => mop cl T σ η (.call u0))
  (fun _ _ _ _ _ => none)
  (fun _ _ _ _ _ => none)
  (fun _ _ _ _ _ => none)
  (fun _ _ _ _ _ _ => none)
  (fun _ _ _ _ _ _ _ => none)
  (fun _ _ _ _ _ _ => none) op cl T σ η
theorem aopF_eq {T : Tab} {σ : Sl} {op : Op} : aopF T σ op = aop T σ op := by cases op <;> kernel_rfl
theorem ropF_eq {T : Tab} {σ : TS} {op : Op} : ropF T σ op = rop T σ op := by cases op <;> kernel_rfl
theorem mopF_eq {cl : Bool} {T : Tab} {σ : TS} {η : Hp} {op : Op} : mopF cl T σ η op = mop cl T σ η op := by cases op <;> kernel_rfl
def vop (P : Program) (G : Gl) (T : Tab) (cl : Bool) (σ : TS) (η : Hp) (op : Op) : Option (CV × List (Nat × Nat)) :=
  match ifM 51565228327 op (aopF T (dat σ) op) with
  | some y => some (.d y, [])
  | none => match ifM 51565170727 op (ropF T σ op) with
    | some x => some (x, [])
    | none => match ifM 68753031424 op (mopF cl T σ η op) with
      | some p => some p
      | none => match ifM 33024 op (gop G T (dat σ) op) with
        | some y => some (.d y, [])
        | none => match cl with
          | false => none
          | true => match ifM 104865792 op (kop P T (dat σ) op) with
            | some y => some (.d y, [])
            | none => match ifM 68719484928 op (nop P (dat σ) op) with
              | some y => some (.d y, [])
              | none => ifM 8192 op (nopC P σ η op)
section
variable {E : Env} {N K : Nat} {Q : DQ} {σ : TS} {η : Hp} {o : Oper} {x : CV} {all rest : List Oper} {cl : Bool}
theorem mop_ok {ns : List (Nat × Nat)} (h : mop cl E.T σ η o.op = some (x, ns)) (hn : eqs ns) : DOpP E N o σ η x := by
  unfold mop at h
  split at h
  · rename_i t p ho
    split at h
    · rename_i i off hp
      split at h
      · rename_i cs hi
        split at h
        · rename_i y hl
          simp only [Option.some.injEq, Prod.mk.injEq] at h; obtain ⟨rfl, rfl⟩ := h
          exact DOpP.load ho hp hi hl
        · cases h
      · rename_i cs hi
        split at h
        · rename_i y hl
          simp only [Option.some.injEq, Prod.mk.injEq] at h; obtain ⟨rfl, rfl⟩ := h
          exact DOpP.loadF ho hp hi hl
        · cases h
      · cases h
    · rename_i i n m hp
      split at h
      · cases h
      · split at h
        · rename_i e k rows hi
          split at h
          · rename_i r hr
            split at h
            · rename_i y hl
              simp only [Option.some.injEq, Prod.mk.injEq] at h; obtain ⟨rfl, rfl⟩ := h
              refine DOpP.loadRow (divN m k) (modN m k) ho hp hi hn.1 ?_ (by rw [← nth_eq]; exact hr) hl
              have := Nat.div_add_mod m k
              rw [Nat.mul_comm] at this
              exact this.symm
            · cases h
          · cases h
        · cases h
    · cases h
  · rename_i t p ix ho
    split at h
    · cases h
    · split at h
      · rename_i i n kd j e k _ _ _ hp hix ht
        split at h
        · rename_i e' k' rows hi
          split at h
          · rename_i hB
            simp only [Option.some.injEq, Prod.mk.injEq] at h; obtain ⟨rfl, rfl⟩ := h
            simp only [Bool.and_eq_true, Nat.blt_eq] at hB
            have h1 := Nat.eq_of_beq_eq_true hB.1.1
            have h2 := Nat.eq_of_beq_eq_true hB.1.2
            subst h1; subst h2
            exact DOpP.idxRow j ho hp hi hn.1 ht hix rfl hB.2
          · cases h
        · rename_i k' rows hi
          split at h
          · rename_i r hk hr
            simp only [Option.some.injEq, Prod.mk.injEq] at h; obtain ⟨rfl, rfl⟩ := h
            have hk := Nat.eq_of_beq_eq_true hk
            subst hk
            exact DOpP.idxF j ho hp hi hn.1 ht hix rfl (by rw [← nth_eq]; exact hr)
          · cases h
        · cases h
      · cases h
  · rename_i as ts ho
    split at h
    · rename_i p t h1 h2
      obtain ⟨as⟩ := as
      obtain ⟨ts⟩ := ts
      simp only at h1 h2
      subst h1; subst h2
      split at h
      · rename_i i n e k _ _ _ hp ht
        simp only [Option.some.injEq, Prod.mk.injEq] at h; obtain ⟨rfl, rfl⟩ := h
        exact DOpP.len ho hp ht
      · rename_i y _ hp
        split at h
        · rename_i n hl
          simp only [Option.some.injEq, Prod.mk.injEq] at h; obtain ⟨rfl, rfl⟩ := h
          exact DOpP.lenD ho hp hl
        · cases h
      · cases h
    · cases h
  · cases h
theorem vop_ok {ns : List (Nat × Nat)} (h : vop E.P E.G E.T cl σ η o.op = some (x, ns)) (hn : eqs ns) : DOpP E N o σ η x := by
  unfold vop at h
  simp only [aopF_eq, ropF_eq, mopF_eq, aop_g, rop_g, mop_g, gop_g, kop_g, nop_g, nopC_g] at h
  split at h
  · rename_i y hy
    simp only [Option.some.injEq, Prod.mk.injEq] at h; obtain ⟨rfl, rfl⟩ := h
    exact DOpP.aop hy
  · split at h
    · rename_i y hy
      simp only [Option.some.injEq, Prod.mk.injEq] at h; obtain ⟨rfl, rfl⟩ := h
      exact DOpP.rop hy
    · split at h
      · rename_i p hp
        simp only [Option.some.injEq] at h; subst h
        exact mop_ok hp hn
      · split at h
        · rename_i y hy
          simp only [Option.some.injEq, Prod.mk.injEq] at h; obtain ⟨rfl, rfl⟩ := h
          exact DOpP.gop hy
        · split at h
          · cases h
          · split at h
            · rename_i y hy
              simp only [Option.some.injEq, Prod.mk.injEq] at h; obtain ⟨rfl, rfl⟩ := h
              exact DOpP.kop hy
            · split at h
              · rename_i y hy
                simp only [Option.some.injEq, Prod.mk.injEq] at h; obtain ⟨rfl, rfl⟩ := h
                exact DOpP.nop hy
              · exact DOpP.nopC h hn
inductive HOp where
  | push (d : Nat) (x : CV) (c : CEnt)
  | set (i : Nat) (c : CEnt) (ns : List (Nat × Nat))
  | app (i d : Nat) (x : CV) (c : CEnt) (ns : List (Nat × Nat))
  | nilrow (t e k : Nat)
  | frz (t : Nat) (z : AV) (ns : List (Nat × Nat)) (ms : List (Nat × CEnt))
def refPart (σ : TS) : List (Nat × Operand) → Option Nat
  | [] => none
  | (_, .tmp t) :: r => match σ.get t with
    | some (.d _) => refPart σ r
    | _ => some t
  | _ :: r => refPart σ r
def rowPart (σ : TS) : List (Nat × Operand) → Option Nat
  | [] => none
  | (_, .tmp t) :: r => match σ.get t with
    | some (.os _ _) => some t
    | _ => rowPart σ r
  | _ :: r => rowPart σ r
mutual
def rowIn : CV → Bool
  | .os _ _ => true
  | .agg xs => rowInL xs
  | _ => false
def rowInL : List CV → Bool
  | [] => false
  | x :: r => rowIn x || rowInL r
end
def aggRow (σ : TS) : Operand → Option (Nat × CV)
  | .tmp u => match σ.get u with
    | some (.agg xs) => match rowInL xs with
      | true => some (u, .agg xs)
      | false => none
    | _ => none
  | _ => none
def srcR (σ : TS) (η : Hp) (k : Nat) (p : Operand) : Option (List (List AV) × List (Nat × Nat)) := match cev σ p with
  | some (.d (.sl k' rows)) => match Nat.beq k k' with
    | true => some (rows, [])
    | false => none
  | some (.d (.v (.slice none 0 0))) => some ([], [])
  | some (.os j n) => match η.e.get j with
    | some (.row _ k' rows) => match Nat.beq k k' with
      | true => some (rows, [(n, rows.length)])
      | false => none
    | some (.fzS k' rows) => match Nat.beq k k' with
      | true => some (rows, [(n, rows.length)])
      | false => none
    | _ => none
  | _ => none
theorem srcR_ok {k : Nat} {p : Operand} {rows : List (List AV)} {ns : List (Nat × Nat)} (h : srcR σ η k p = some (rows, ns)) (hn : eqs ns) : SrcC E σ η k p rows := by
  unfold srcR at h
  split at h
  · rename_i k' rows' hp
    split at h
    · rename_i hk
      simp only [Option.some.injEq, Prod.mk.injEq] at h; obtain ⟨rfl, rfl⟩ := h
      have := Nat.eq_of_beq_eq_true hk; subst this
      exact .sl hp
    · cases h
  · rename_i hp
    simp only [Option.some.injEq, Prod.mk.injEq] at h; obtain ⟨rfl, rfl⟩ := h
    exact .nil hp
  · rename_i j n hp
    split at h
    · rename_i e k' rows' hi
      split at h
      · rename_i hk
        simp only [Option.some.injEq, Prod.mk.injEq] at h; obtain ⟨rfl, rfl⟩ := h
        have := Nat.eq_of_beq_eq_true hk; subst this
        exact .row hp hi hn.1
      · cases h
    · rename_i k' rows' hi
      split at h
      · rename_i hk
        simp only [Option.some.injEq, Prod.mk.injEq] at h; obtain ⟨rfl, rfl⟩ := h
        have := Nat.eq_of_beq_eq_true hk; subst this
        exact .fz hp hi hn.1
      · cases h
    · cases h
  · cases h
def hop (cl : Bool) (T : Tab) (N : Nat) (σ : TS) (η : Hp) (o : Oper) : Option HOp :=
  match o.op with
  | .box _ p => match o.dst, cev σ p with
    | some d, some x => match Nat.blt d N with
      | true => some (.push d (.own η.n 0) (.box (cellsC x)))
      | false => none
    | _, _ => none
  | .alloc t => match o.dst, tget T t with
    | some d, some ⟨_, _, _, z⟩ => match Nat.blt d N with
      | true => some (.push d (.own η.n 0) (.box ((z.map .v).map .d)))
      | false => none
    | _, _ => none
  | .buildSlice t n parts => match refPart σ parts.toList with
    | some u => match σ.get u with
      | some x => match frzL η.e 60 [x] with
        | some ([z], ns, ms) => some (.frz u z ns ms)
        | _ => none
      | none => none
    | none => match o.dst, tget T t with
      | some d, some ⟨.slice e k, _, _, _⟩ => match tget T e with
        | some ⟨_, _, _, z'⟩ => match fillG k (dat σ) (reps n (z'.map .v)) parts.toList with
          | some cells => match Nat.blt d N && Nat.ble (n * k) 16777216 && Nat.ble 1 k with
            | true => some (.push d (.os η.n n) (.row e k (chunk n k cells)))
            | false => none
          | none => none
        | none => none
      | _, _ => none
  | .store t p v => match o.dst with
    | some _ => none
    | none => match aggRow σ v with
     | some (u, x) => match frzL η.e 60 [x] with
      | some ([z], ns, ms) => some (.frz u z ns ms)
      | _ => none
     | none => match cev σ p, cev σ v, tget T t with
      | some (.own i off), some x, some ti => match η.e.get i with
        | some (.box cs) => match Nat.beq (cellsC x).length ti.size && onesC (cellsC x), spliceC cs off (cellsC x) with
          | true, some cs' => some (.set i (.box cs') [])
          | _, _ => none
        | _ => none
      | some (.oe i n m), some (.d y), some ti => match cl with
        | false => none
        | true => match η.e.get i with
          | some (.row e k rows) => match nth rows (divN m k) with
            | some r => match Nat.beq (cellsA y).length ti.size && onesB (cellsA y), spliceA r (modN m k) (cellsA y) with
              | true, some r' => some (.set i (.row e k (rows.set (divN m k) r')) [(n, rows.length)])
              | _, _ => none
            | none => none
          | _ => none
      | some (.oe _ _ _), some x, _ => match v with
        | .tmp u => match frzL η.e 60 [x] with
          | some ([z], ns, ms) => some (.frz u z ns ms)
          | _ => none
        | _ => none
      | _, _, _ => none
  | .makeSlice t p q => match cl with
    | false => none
    | true => match o.dst, tget T t with
      | some d, some ⟨.slice e k, _, _, _⟩ => match tget T e, cev σ p, cev σ q with
        | some ⟨_, _, by'', z'⟩, some (.d (.v (.int _ (.ofNat l)))), some (.d (.v (.int _ (.ofNat c)))) => match Nat.blt d N && Nat.ble (c * by'') 140737488355328 && Nat.ble l c && Nat.ble 1 k && Nat.ble 1 by'' with
          | true => some (.push d (.os η.n l) (.row e k (List.replicate l (z'.map .v))))
          | false => none
        | _, _, _ => none
      | _, _ => none
  | .call { callee := .builtin .append, args := as, argTypes := ts } => match o.dst, as.toList, ts.toList with
    | some d, [s, p], [t, t'] => match Nat.beq t t', tget T t with
      | true, some ⟨.slice e k, _, _, _⟩ => match cev σ s with
        | some (.d (.v (.slice none 0 0))) => match s with
          | .tmp u => some (.nilrow u e k)
          | _ => none
        | some (.os i n) => match cl with
          | false => none
          | true => match η.e.get i, srcR σ η k p, tget T e with
            | some (.row e' k' rows), some (rows2, ns), some ⟨_, _, by'', _⟩ => match Nat.beq e e' && Nat.beq k k' && Nat.ble ((rows ++ rows2).length * by'') 140737488355328 && rowsOnes rows2 && Nat.ble 1 k && Nat.ble 1 by'' && Nat.blt d N with
              | true => some (.app i d (.os i (rows ++ rows2).length) (.row e k (rows ++ rows2)) ((n, rows.length) :: ns))
              | false => none
            | _, _, _ => none
        | _ => none
      | false, some ⟨.slice e k, _, _, _⟩ => match tget T t' with
        | some ⟨.str, _, _, _⟩ => match cev σ s with
          | some (.d (.v (.slice none 0 0))) => match s with
            | .tmp u => some (.nilrow u e k)
            | _ => none
          | some (.os i n) => match cl with
            | false => none
            | true => match η.e.get i, cev σ p, tget T e with
              | some (.row e' k' rows), some (.d (.v (.string b))), some ⟨_, _, by'', _⟩ => match Nat.beq e e' && Nat.beq k k' && Nat.ble ((rows ++ bytesR b).length * by'') 140737488355328 && Nat.beq k 1 && Nat.beq by'' 1 && Nat.blt d N with
                | true => some (.app i d (.os i (rows ++ bytesR b).length) (.row e k (rows ++ bytesR b)) [(n, rows.length)])
                | false => none
              | _, _, _ => none
          | _ => none
        | _ => none
      | _, _ => none
    | _, _, _ => none
  | _ => none
theorem aggRow_ok {v : Operand} {u : Nat} (h : aggRow σ v = some (u, x)) : σ.get u = some x := by
  unfold aggRow at h
  split at h
  · split at h
    · rename_i hx
      split at h
      · simp only [Option.some.injEq, Prod.mk.injEq] at h; obtain ⟨rfl, rfl⟩ := h; exact hx
      · cases h
    · cases h
  · cases h
def HOp.ok (E : Env) (N K : Nat) (all rest : List Oper) (Q : DQ) (o : Oper) (σ : TS) (η : Hp) : HOp → Prop
  | .push d x c => DO E N K all rest Q (Tr.put 24 σ d (some x)) (η.push c)
  | .set i c ns => eqs ns ∧ DO E N K all rest Q σ (η.set i c)
  | .app i d x c ns => eqs ns ∧ DO E N K all rest Q (Tr.put 24 σ d (some x)) (η.set i c)
  | .nilrow t e k => DO E N K all (o :: rest) Q (Tr.put 24 σ t (some (.os η.n 0))) (η.push (.row e k []))
  | .frz t z ns ms => eqs ns ∧ DO E N K all (o :: rest) Q (Tr.put 24 σ t (some (.d z))) (applyM ms η)
theorem hop_ok {h : HOp} (hg : o.guard = none) (hh : hop cl E.T N σ η o = some h) (hk : h.ok E N K all rest Q o σ η) : DO E N K all (o :: rest) Q σ η := by
  obtain ⟨dst, op, ty, pos, after, gd⟩ := o
  simp only at hg; subst hg
  unfold hop at hh
  simp only at hh
  split at hh
  · split at hh
    · rename_i d x hp
      split at hh
      · rename_i hlt
        simp only [Option.some.injEq] at hh; subst hh
        exact DO.ofN rfl rfl hlt (box_new rfl hp) hk
      · cases hh
    · cases hh
  · split at hh
    · rename_i d _ _ _ z ht
      split at hh
      · rename_i hlt
        simp only [Option.some.injEq] at hh; subst hh
        exact DO.ofN rfl rfl hlt (alloc_new' rfl ht) hk
      · cases hh
    · cases hh
  · rename_i t n parts
    split at hh
    · rename_i u hu
      split at hh
      · rename_i x hx
        split at hh
        · rename_i z ns ms hf
          simp only [Option.some.injEq] at hh; subst hh
          exact DO.frz 60 hx hf hk.1 hk.2
        · cases hh
      · cases hh
    · split at hh
      · rename_i d e k _ _ _ ht
        split at hh
        · rename_i _ _ _ z' hte
          split at hh
          · rename_i cells hf
            split at hh
            · rename_i hB
              simp only [Option.some.injEq] at hh; subst hh
              simp only [Bool.and_eq_true] at hB
              exact DO.lit ht hte hf hB.1.2 hB.2 hB.1.1 hk
            · cases hh
          · cases hh
        · cases hh
      · cases hh
  · rename_i t p v
    split at hh
    · cases hh
    split at hh
    · rename_i u x hu
      split at hh
      · rename_i z ns ms hf
        simp only [Option.some.injEq] at hh; subst hh
        exact DO.frz 60 (aggRow_ok hu) hf hk.1 hk.2
      · cases hh
    · split at hh
      · rename_i i off x ti hp hv ht
        split at hh
        · rename_i cs hi
          split at hh
          · rename_i cs' hB hs
            simp only [Option.some.injEq] at hh; subst hh
            simp only [Bool.and_eq_true] at hB
            exact DO.store rfl rfl rfl hp hv hi ht hB.1 hB.2 hs hk.2
          · cases hh
        · cases hh
      · rename_i i n m y ti hp hv ht
        split at hh
        · cases hh
        · split at hh
          · rename_i e k rows hi
            split at hh
            · rename_i r hr
              split at hh
              · rename_i r' hB hs
                simp only [Option.some.injEq] at hh; subst hh
                simp only [Bool.and_eq_true] at hB
                refine DO.storeRow (divN m k) (modN m k) rfl rfl rfl hp hv hi hk.1.1 ?_ (by rw [← nth_eq]; exact hr) ht hB.1 hB.2 hs hk.2
                have := Nat.div_add_mod m k
                rw [Nat.mul_comm] at this
                exact this.symm
              · cases hh
            · cases hh
          · cases hh
      · rename_i hp hv _
        split at hh
        · split at hh
          · rename_i u z ns ms hf
            simp only [Option.some.injEq] at hh; subst hh
            exact DO.frz 60 hv hf hk.1 hk.2
          · cases hh
        · cases hh
      · cases hh
  · rename_i t p q
    split at hh
    · cases hh
    · split at hh
      · rename_i d e k _ _ _ ht
        split at hh
        · rename_i _ _ by'' z' _ l _ c hte hp hq
          split at hh
          · rename_i hB
            simp only [Option.some.injEq] at hh; subst hh
            simp only [Bool.and_eq_true] at hB
            obtain ⟨⟨⟨⟨h1, h2⟩, h3⟩, h4⟩, h5⟩ := hB
            exact DO.make l c (Nat.le_of_ble_eq_true h2) (Nat.le_of_ble_eq_true h3) hp rfl hq rfl ht hte h4 h5 h1 hk
          · cases hh
        · cases hh
      · cases hh
  · rename_i as ts
    split at hh
    · rename_i d s p t t' ha ht
      obtain ⟨as⟩ := as
      obtain ⟨ts⟩ := ts
      simp only at ha ht
      subst ha; subst ht
      split at hh
      · rename_i e k _ _ _ htt ht
        have htt := Nat.eq_of_beq_eq_true htt
        subst htt
        split at hh
        · rename_i hs
          split at hh
          · rename_i u
            simp only [Option.some.injEq] at hh; subst hh
            exact DO.nilRow u e k hs hk
          · cases hh
        · rename_i i n hs
          split at hh
          · cases hh
          · split at hh
            · rename_i e' k' rows rows2 ns _ _ by'' _ hi hsrc hte
              split at hh
              · rename_i hB
                simp only [Option.some.injEq] at hh; subst hh
                simp only [Bool.and_eq_true] at hB
                obtain ⟨⟨⟨⟨⟨⟨h1, h2⟩, h3⟩, h4⟩, h5⟩, h6⟩, h7⟩ := hB
                have h1 := Nat.eq_of_beq_eq_true h1
                have h2 := Nat.eq_of_beq_eq_true h2
                subst h1; subst h2
                exact DO.append (Nat.le_of_ble_eq_true h3) hs hi hk.1.1 (srcR_ok hsrc hk.1.2) ht hte h4 h5 h6 h7 hk.2
              · cases hh
            · cases hh
        · cases hh
      · rename_i e k _ _ _ htt ht
        split at hh
        · rename_i hu
          split at hh
          · rename_i hs
            split at hh
            · rename_i u
              simp only [Option.some.injEq] at hh; subst hh
              exact DO.nilRow u e k hs hk
            · cases hh
          · rename_i i n hs
            split at hh
            · cases hh
            · split at hh
              · rename_i e' k' rows b _ _ by'' _ hi hsrc hte
                split at hh
                · rename_i hB
                  simp only [Option.some.injEq] at hh; subst hh
                  simp only [Bool.and_eq_true] at hB
                  obtain ⟨⟨⟨⟨⟨h1, h2⟩, h3⟩, h4⟩, h5⟩, h6⟩ := hB
                  have h1 := Nat.eq_of_beq_eq_true h1
                  have h2 := Nat.eq_of_beq_eq_true h2
                  subst h1; subst h2
                  exact DO.appendS (Nat.le_of_ble_eq_true h3) hs hi hk.1.1 hsrc ht hu hte h4 h5 h6 hk.2
                · cases hh
              · cases hh
          · cases hh
        · cases hh
      · cases hh
    · cases hh
  · cases hh
def HOp.R (η : Hp) : HOp → DR → Hp → Prop
  | .push _ x c => fun r η' => r = .ret x ∧ η' = η.push c
  | .set i c _ => fun r η' => r = .ret (.d (.v undef)) ∧ η' = η.set i c
  | .app i _ x c _ => fun r η' => r = .ret x ∧ η' = η.set i c
  | .nilrow _ _ _ => fun _ _ => False
  | .frz _ _ _ _ => fun _ _ => False
def HOp.need : HOp → List (Nat × Nat)
  | .set _ _ ns => ns
  | .app _ _ _ _ ns => ns
  | _ => []
def HOp.fits (o : Oper) : HOp → Bool
  | .push d _ _ => match o.dst with
    | some d' => Nat.beq d d'
    | none => false
  | .set _ _ _ => o.dst.isNone
  | .app _ d _ _ _ => match o.dst with
    | some d' => Nat.beq d d'
    | none => false
  | _ => false
def isMake : Op → Bool
  | .makeSlice _ _ _ => true
  | _ => false
theorem hop_eff {h : HOp} (hmk : isMake o.op = false) (hh : hop cl E.T N σ η o = some h) (hn : eqs h.need) (hf : h.fits o = true) : DEff E N o σ η (h.R η) := by
  obtain ⟨dst, op, ty, pos, after, gd⟩ := o
  unfold hop at hh
  simp only at hh
  split at hh
  · split at hh
    · rename_i d x hp
      split at hh
      · simp only [Option.some.injEq] at hh; subst hh
        exact DEff.new rfl (box_new rfl hp)
      · cases hh
    · cases hh
  · split at hh
    · rename_i d _ _ _ z ht
      split at hh
      · simp only [Option.some.injEq] at hh; subst hh
        exact DEff.new rfl (alloc_new' rfl ht)
      · cases hh
    · cases hh
  · rename_i t n parts
    split at hh
    · split at hh
      · split at hh
        · simp only [Option.some.injEq] at hh; subst hh; cases hf
        · cases hh
      · cases hh
    · split at hh
      · rename_i d e k _ _ _ ht
        split at hh
        · rename_i _ _ _ z' hte
          split at hh
          · rename_i cells hfi
            split at hh
            · rename_i hB
              simp only [Option.some.injEq] at hh; subst hh
              simp only [Bool.and_eq_true] at hB
              exact DEff.lit rfl ht hte hfi hB.1.2 hB.2
            · cases hh
          · cases hh
        · cases hh
      · cases hh
  · rename_i t p v
    split at hh
    · cases hh
    split at hh
    · split at hh
      · simp only [Option.some.injEq] at hh; subst hh; cases hf
      · cases hh
    · split at hh
      · rename_i i off x ti hp hv ht
        split at hh
        · rename_i cs hi
          split at hh
          · rename_i cs' hB hs
            simp only [Option.some.injEq] at hh; subst hh
            simp only [Bool.and_eq_true] at hB
            exact DEff.store rfl hp hv hi ht hB.1 hB.2 hs
          · cases hh
        · cases hh
      · rename_i i n m y ti hp hv ht
        split at hh
        · cases hh
        · split at hh
          · rename_i e k rows hi
            split at hh
            · rename_i r hr
              split at hh
              · rename_i r' hB hs
                simp only [Option.some.injEq] at hh; subst hh
                simp only [Bool.and_eq_true] at hB
                refine DEff.storeRow (divN m k) (modN m k) rfl hp hv hi hn.1 ?_ (by rw [← nth_eq]; exact hr) ht hB.1 hB.2 hs
                have := Nat.div_add_mod m k
                rw [Nat.mul_comm] at this
                exact this.symm
              · cases hh
            · cases hh
          · cases hh
      · split at hh
        · split at hh
          · simp only [Option.some.injEq] at hh; subst hh; cases hf
          · cases hh
        · cases hh
      · cases hh
  · simp [isMake] at hmk
  · rename_i as ts
    split at hh
    · rename_i d s p t t' ha ht
      obtain ⟨as⟩ := as
      obtain ⟨ts⟩ := ts
      simp only at ha ht
      subst ha; subst ht
      split at hh
      · rename_i e k _ _ _ htt ht
        have htt := Nat.eq_of_beq_eq_true htt
        subst htt
        split at hh
        · split at hh
          · simp only [Option.some.injEq] at hh; subst hh; cases hf
          · cases hh
        · rename_i i n hs
          split at hh
          · cases hh
          · split at hh
            · rename_i e' k' rows rows2 ns _ _ by'' _ hi hsrc hte
              split at hh
              · rename_i hB
                simp only [Option.some.injEq] at hh; subst hh
                simp only [Bool.and_eq_true] at hB
                obtain ⟨⟨⟨⟨⟨⟨h1, h2⟩, h3⟩, h4⟩, h5⟩, h6⟩, h7⟩ := hB
                have h1 := Nat.eq_of_beq_eq_true h1
                have h2 := Nat.eq_of_beq_eq_true h2
                subst h1; subst h2
                exact DEff.append rfl (Nat.le_of_ble_eq_true h3) hs hi hn.1 (srcR_ok hsrc hn.2) ht hte h4 h5 h6
              · cases hh
            · cases hh
        · cases hh
      · rename_i e k _ _ _ htt ht
        split at hh
        · rename_i hu
          split at hh
          · split at hh
            · simp only [Option.some.injEq] at hh; subst hh; cases hf
            · cases hh
          · rename_i i n hs
            split at hh
            · cases hh
            · split at hh
              · rename_i e' k' rows b _ _ by'' _ hi hsrc hte
                split at hh
                · rename_i hB
                  simp only [Option.some.injEq] at hh; subst hh
                  simp only [Bool.and_eq_true] at hB
                  obtain ⟨⟨⟨⟨⟨h1, h2⟩, h3⟩, h4⟩, h5⟩, h6⟩ := hB
                  have h1 := Nat.eq_of_beq_eq_true h1
                  have h2 := Nat.eq_of_beq_eq_true h2
                  subst h1; subst h2
                  exact DEff.appendS rfl (Nat.le_of_ble_eq_true h3) hs hi hn.1 hsrc ht hu hte h4 h5
                · cases hh
              · cases hh
          · cases hh
        · cases hh
      · cases hh
    · cases hh
  · cases hh
def preHop (cl : Bool) (T : Tab) (N : Nat) : Nat → TS → Hp → Oper → Option (HOp × Hp × List (Nat × Nat))
  | 0, _, _, _ => none
  | f + 1, σ, η, o => match hop cl T N σ η o with
    | some (.nilrow t e k) => match σ.get t with
      | some (.d (.v (.slice none 0 0))) => preHop cl T N f (Tr.put 24 σ t (some (.os η.n 0))) (η.push (.row e k [])) o
      | _ => none
    | some (.frz t _ _ _) => match σ.get t, (tmpsOf o).contains t with
      | some x, true => match frzL η.e 60 [x] with
        | some ([z], ns, ms) => match preHop cl T N f (Tr.put 24 σ t (some (.d z))) (applyM ms η) o with
          | some (h, η1, ns1) => some (h, η1, ns ++ ns1)
          | none => none
        | _ => none
      | _, _ => none
    | some h => match h.fits o && !isMake o.op with
      | true => some (h, η, h.need)
      | false => none
    | none => none
theorem preHop_ok : ∀ {f : Nat} {σ : TS} {η : Hp} {h : HOp} {η1 : Hp} {ns : List (Nat × Nat)}, preHop cl E.T N f σ η o = some (h, η1, ns) → eqs ns → DEff E N o σ η (h.R η1)
  | 0, _, _, _, _, _, h, _ => by simp [preHop] at h
  | f + 1, σ, η, h, η1, ns, hp, hn => by
    simp only [preHop] at hp
    split at hp
    · rename_i t e k hh
      split at hp
      · rename_i ht
        exact DEff.nilRow t e k ht (preHop_ok hp hn)
      · cases hp
    · rename_i t z' ns' ms' hh
      split at hp
      · rename_i x hx hc
        split at hp
        · rename_i z ns2 ms hfz
          split at hp
          · rename_i h' η' ns1 hp'
            simp only [Option.some.injEq, Prod.mk.injEq] at hp
            obtain ⟨rfl, rfl, rfl⟩ := hp
            obtain ⟨g1, g2⟩ := eqs_append hn
            exact DEff.frz 60 hx hfz g1 (by simpa using hc) (preHop_ok hp' g2)
          · cases hp
        · cases hp
      · cases hp
    · rename_i h' hh
      split at hp
      · rename_i hf
        simp only [Option.some.injEq, Prod.mk.injEq] at hp
        obtain ⟨rfl, rfl, rfl⟩ := hp
        simp only [Bool.and_eq_true, Bool.not_eq_true'] at hf
        exact hop_eff hf.2 hh hn hf.1
      · cases hp
    · cases hp
mutual
def avEq : AV → AV → Bool
  | .v x, .v y => valB x y
  | .sl k r, .sl k' r' => Nat.beq k k' && avEqR r r'
  | .agg x, .agg y => avEqL x y
  | .tup x, .tup y => avEqL x y
  | .ip x, .ip y => avEqL x y
  | .fn f a b, .fn f' a' b' => Nat.beq f f' && avEqL a a' && avEqL b b'
  | .ifc t x, .ifc t' y => Nat.beq t t' && avEq x y
  | _, _ => false
def avEqL : List AV → List AV → Bool
  | [], [] => true
  | x :: xs, y :: ys => avEq x y && avEqL xs ys
  | _, _ => false
def avEqR : List (List AV) → List (List AV) → Bool
  | [], [] => true
  | x :: xs, y :: ys => avEqL x y && avEqR xs ys
  | _, _ => false
end
mutual
theorem avEq_ok : ∀ {x y : AV}, avEq x y = true → x = y
  | .v x, y, h => by cases y <;> simp [avEq] at h; rw [valB_eq h]
  | .sl k r, y, h => by
    cases y <;> simp [avEq] at h
    rw [h.1, avEqR_ok h.2]
  | .agg x, y, h => by cases y <;> simp [avEq] at h; rw [avEqL_ok h]
  | .tup x, y, h => by cases y <;> simp [avEq] at h; rw [avEqL_ok h]
  | .ip x, y, h => by cases y <;> simp [avEq] at h; rw [avEqL_ok h]
  | .own _ _ _, y, h => by cases y <;> simp [avEq] at h
  | .os _ _ _ _, y, h => by cases y <;> simp [avEq] at h
  | .oe _ _ _, y, h => by cases y <;> simp [avEq] at h
  | .om _ _, y, h => by cases y <;> simp [avEq] at h
  | .fn f a b, y, h => by
    cases y <;> simp [avEq] at h
    rw [h.1.1, avEqL_ok h.1.2, avEqL_ok h.2]
  | .ifc t x, y, h => by
    cases y <;> simp [avEq] at h
    rw [h.1, avEq_ok h.2]
theorem avEqL_ok : ∀ {x y : List AV}, avEqL x y = true → x = y
  | [], y, h => by cases y <;> simp [avEqL] at h; rfl
  | x :: xs, y, h => by
    cases y <;> simp [avEqL] at h
    rw [avEq_ok h.1, avEqL_ok h.2]
theorem avEqR_ok : ∀ {x y : List (List AV)}, avEqR x y = true → x = y
  | [], y, h => by cases y <;> simp [avEqR] at h; rfl
  | x :: xs, y, h => by
    cases y <;> simp [avEqR] at h
    rw [avEqL_ok h.1, avEqR_ok h.2]
end
mutual
def cvEq : CV → CV → Bool
  | .d x, .d y => avEq x y
  | .agg x, .agg y => cvEqL x y
  | .tup x, .tup y => cvEqL x y
  | .own t o, .own t' o' => Nat.beq t t' && Nat.beq o o'
  | .os t n, .os t' n' => Nat.beq t t' && Nat.beq n n'
  | .oe t n o, .oe t' n' o' => Nat.beq t t' && Nat.beq n n' && Nat.beq o o'
  | .om t, .om t' => Nat.beq t t'
  | .fn f a b, .fn f' a' b' => Nat.beq f f' && cvEqL a a' && cvEqL b b'
  | .ifc t x, .ifc t' y => Nat.beq t t' && cvEq x y
  | _, _ => false
def cvEqL : List CV → List CV → Bool
  | [], [] => true
  | x :: xs, y :: ys => cvEq x y && cvEqL xs ys
  | _, _ => false
end
mutual
theorem cvEq_ok : ∀ {x y : CV}, cvEq x y = true → x = y
  | .d x, y, h => by cases y <;> simp [cvEq] at h; rw [avEq_ok h]
  | .agg x, y, h => by cases y <;> simp [cvEq] at h; rw [cvEqL_ok h]
  | .tup x, y, h => by cases y <;> simp [cvEq] at h; rw [cvEqL_ok h]
  | .own t o, y, h => by cases y <;> simp [cvEq] at h; rw [h.1, h.2]
  | .os t o, y, h => by cases y <;> simp [cvEq] at h; rw [h.1, h.2]
  | .oe t n o, y, h => by cases y <;> simp [cvEq] at h; rw [h.1.1, h.1.2, h.2]
  | .om t, y, h => by cases y <;> simp [cvEq] at h; rw [h]
  | .fn f a b, y, h => by cases y <;> simp [cvEq] at h; rw [h.1.1, cvEqL_ok h.1.2, cvEqL_ok h.2]
  | .ifc t x, y, h => by cases y <;> simp [cvEq] at h; rw [h.1, cvEq_ok h.2]
theorem cvEqL_ok : ∀ {x y : List CV}, cvEqL x y = true → x = y
  | [], y, h => by cases y <;> simp [cvEqL] at h; rfl
  | x :: xs, y, h => by cases y <;> simp [cvEqL] at h; rw [cvEq_ok h.1, cvEqL_ok h.2]
end
def ceEq : CEnt → CEnt → Bool
  | .box x, .box y => cvEqL x y
  | .row e k r, .row e' k' r' => Nat.beq e e' && Nat.beq k k' && avEqR r r'
  | _, _ => false
theorem ceEq_ok : ∀ {x y : CEnt}, ceEq x y = true → x = y
  | .box x, y, h => by cases y <;> simp [ceEq] at h; rw [cvEqL_ok h]
  | .row e k r, y, h => by cases y <;> simp [ceEq] at h; rw [h.1.1, h.1.2, avEqR_ok h.2]
  | .map _, y, h => by cases y <;> simp [ceEq] at h
  | .fzP _, y, h => by cases y <;> simp [ceEq] at h
  | .fzS _ _, y, h => by cases y <;> simp [ceEq] at h
  | .gone, y, h => by cases y <;> simp [ceEq] at h
def pairH (cl : Bool) (T : Tab) (N : Nat) (σ : TS) (η : Hp) (o o' : Oper) : Option (Nat × CEnt × Nat × CEnt) := match o.dst, o'.dst, isMake o.op || isMake o'.op with
  | none, none, false => match hop cl T N σ η o, hop cl T N σ η o' with
    | some (.set a ca n1), some (.set b cb n2) => match hop cl T N σ (η.set a ca) o', hop cl T N σ (η.set b cb) o with
      | some (.set b' cb' n3), some (.set a' ca' n4) => match Nat.beq a a' && Nat.beq b b' && !Nat.beq a b && ceEq ca ca' && ceEq cb cb' && (n1 ++ n2 ++ n3 ++ n4).all fun p => Nat.beq p.1 p.2 with
        | true => some (a, ca, b, cb)
        | false => none
      | _, _ => none
    | _, _ => none
  | _, _, _ => none
theorem eqs_allq : ∀ {ns : List (Nat × Nat)}, (ns.all fun p => Nat.beq p.1 p.2) = true → eqs ns
  | [], _ => trivial
  | p :: r, h => by simp only [List.all_cons, Bool.and_eq_true] at h; exact ⟨Nat.eq_of_beq_eq_true h.1, eqs_allq h.2⟩
theorem pairH_ok {o' : Oper} {a b : Nat} {ca cb : CEnt} (h : pairH cl E.T N σ η o o' = some (a, ca, b, cb)) : o.dst = none ∧ o'.dst = none ∧ DEff E N o σ η (fun r η' => r = .ret (.d (.v undef)) ∧ η' = η.set a ca) ∧ DEff E N o' σ (η.set a ca) (fun r η' => r = .ret (.d (.v undef)) ∧ η' = (η.set a ca).set b cb) ∧
    DEff E N o' σ η (fun r η' => r = .ret (.d (.v undef)) ∧ η' = η.set b cb) ∧ DEff E N o σ (η.set b cb) (fun r η' => r = .ret (.d (.v undef)) ∧ η' = (η.set a ca).set b cb) := by
  unfold pairH at h
  split at h
  · rename_i hd hd' hm
    simp only [Bool.or_eq_false_iff] at hm
    split at h
    · rename_i a1 ca1 n1 b1 cb1 n2 h1 h2
      split at h
      · rename_i b2 cb2 n3 a2 ca2 n4 h3 h4
        split at h
        · rename_i hB
          simp only [Option.some.injEq, Prod.mk.injEq] at h
          obtain ⟨rfl, rfl, rfl, rfl⟩ := h
          simp only [Bool.and_eq_true, Bool.not_eq_true'] at hB
          obtain ⟨⟨⟨⟨⟨e1, e2⟩, e3⟩, e4⟩, e5⟩, e6⟩ := hB
          have e1 := Nat.eq_of_beq_eq_true e1
          have e2 := Nat.eq_of_beq_eq_true e2
          have e4 := ceEq_ok e4
          have e5 := ceEq_ok e5
          subst e1; subst e2; subst e4; subst e5
          have hne : a1 ≠ b1 := beq_false_ne e3
          simp only [List.all_append, Bool.and_eq_true] at e6
          obtain ⟨⟨⟨q1, q2⟩, q3⟩, q4⟩ := e6
          refine ⟨hd, hd', hop_eff hm.1 h1 (eqs_allq q1) (by simp [HOp.fits, hd]), hop_eff hm.2 h3 (eqs_allq q3) (by simp [HOp.fits, hd']), hop_eff hm.2 h2 (eqs_allq q2) (by simp [HOp.fits, hd']), (hop_eff hm.1 h4 (eqs_allq q4) (by simp [HOp.fits, hd])).mono ?_⟩
          rintro r η' ⟨g1, g2⟩
          refine ⟨g1, g2.trans ?_⟩
          simp only [Hp.set]
          rw [Tr.put_comm 24 η.e b1 a1 _ _ (Ne.symm hne)]
        · cases h
      · cases h
    · cases h
  · cases h
end
end Go.Bw
