/-
  Own work. Many steps at once: a function that runs what only computes, and what it says of the judgement.
-/
import Derived.Test.YtkbjckcclfceoaaDoorAw11
namespace Go.Aw
open Go

/-- What is still to be done. -/
inductive It where
  | code (c : Code)
  | blk (id : Nat)
  | ops (all rest : List Oper)
  | lp (next : Sg → List Ent → Prop)

/-- The post of what comes before. -/
def cq (C : Cx) (N : Nat) : List It → AQ → AQ
  | [], Q => Q
  | .code c :: k, Q => fun e σ η => match e with
    | .norm => AWP C N c (cq C N k Q) σ η
    | .exit i => cq C N k Q (.exit i) σ η
    | .ret => cq C N k Q .ret σ η
    | .pan x => cq C N k Q (.pan x) σ η
  | .blk id :: k, Q => fun e σ η => match e with
    | .norm => cq C N k Q .norm σ η
    | .exit i => match Nat.beq i id with
      | true => cq C N k Q .norm σ η
      | false => cq C N k Q (.exit i) σ η
    | .ret => cq C N k Q .ret σ η
    | .pan x => cq C N k Q (.pan x) σ η
  | .ops all rest :: k, Q => fun e σ η => match e with
    | .norm => AOps C N all.toArray rest (cq C N k Q) σ η
    | .exit i => cq C N k Q (.exit i) σ η
    | .ret => cq C N k Q .ret σ η
    | .pan x => cq C N k Q (.pan x) σ η
  | .lp next :: k, Q => fun e σ η => match e with
    | .norm => next σ η
    | .exit i => cq C N k Q (.exit i) σ η
    | .ret => cq C N k Q .ret σ η
    | .pan x => cq C N k Q (.pan x) σ η

def CWP (C : Cx) (N : Nat) (todo : List It) (Q : AQ) (σ : Sg) (η : List Ent) : Prop := cq C N todo Q .norm σ η

inductive Out where
  | stuck (todo : List It) (σ : Sg)
  | cond (b : Bool) (t1 : List It) (s1 : Sg) (t2 : List It) (s2 : Sg)
  | fin (e : AE) (σ : Sg)

def Out.ok (C : Cx) (N : Nat) (Q : AQ) (η : List Ent) : Out → Prop
  | .stuck todo σ => CWP C N todo Q σ η
  | .cond b t1 s1 t2 s2 => (b = true → CWP C N t1 Q s1 η) ∧ (b = false → CWP C N t2 Q s2 η)
  | .fin e σ => Q e σ η

def dropTo (id : Nat) : List It → Option (List It)
  | [] => none
  | .blk i :: k => match Nat.beq id i with
    | true => some k
    | false => dropTo id k
  | .code _ :: k => dropTo id k
  | .ops _ _ :: k => dropTo id k
  | .lp _ :: k => dropTo id k

def lenOp (T : Tab) (σ : Sg) : Op → Option AV
  | .call { callee := .builtin .len, args := as, argTypes := ts } => match as.toList, ts.toList with
    | [x], [t] => match ev σ x with
      | some y => match lenA T t y with
        | some n => some (.v (.int .i64 n))
        | none => none
      | none => none
    | _, _ => none
  | _ => none

/-- What is put where, by an operation that only computes. -/
def sop (T : Tab) (N : Nat) (σ : Sg) (o : Oper) : Option (Nat × AV) := match o.dst with
  | none => none
  | some d => match Nat.blt d N with
    | false => none
    | true => match aop T σ o.op with
      | some x => some (d, x)
      | none => match lenOp T σ o.op with
        | some x => some (d, x)
        | none => none

def sx (T : Tab) (N : Nat) : Nat → List It → Sg → Out
  | 0, todo, σ => .stuck todo σ
  | _ + 1, [], σ => .fin .norm σ
  | n + 1, .blk _ :: k, σ => sx T N n k σ
  | n + 1, .ops _ [] :: k, σ => sx T N n k σ
  | _ + 1, .lp next :: k, σ => .stuck (.lp next :: k) σ
  | n + 1, .ops all (o :: r) :: k, σ => match o.guard with
    | none => match sop T N σ o with
      | some p => sx T N n (.ops all r :: k) (p :: σ)
      | none => .stuck (.ops all (o :: r) :: k) σ
    | some (j, want) => match o.dst, nth all j with
      | some e, some oj => match oj.dst, Nat.blt e N with
        | some d, true => match look σ d with
          | some (.v (.bool t)) => match want with
            | true => .cond t (.ops all (⟨some e, o.op, o.type, o.pos, o.after, none⟩ :: r) :: k) ((d, .v (.bool true)) :: σ) (.ops all r :: k) ((e, .v undef) :: (d, .v (.bool false)) :: σ)
            | false => .cond t (.ops all r :: k) ((e, .v undef) :: (d, .v (.bool true)) :: σ) (.ops all (⟨some e, o.op, o.type, o.pos, o.after, none⟩ :: r) :: k) ((d, .v (.bool false)) :: σ)
          | some (.v (.tuple a)) => match a.toList with
            | [] => sx T N n (.ops all r :: k) ((e, .v undef) :: σ)
            | _ :: _ => .stuck (.ops all (o :: r) :: k) σ
          | _ => .stuck (.ops all (o :: r) :: k) σ
        | _, _ => .stuck (.ops all (o :: r) :: k) σ
      | _, _ => .stuck (.ops all (o :: r) :: k) σ
  | n + 1, .code c :: k, σ => match c with
    | .skip => sx T N n k σ
    | .label _ => sx T N n k σ
    | .seq a b => sx T N n (.code a :: .code b :: k) σ
    | .block i b => sx T N n (.code b :: .blk i :: k) σ
    | .region id ops d => match d with
      | false => sx T N n (.ops ops.toList ops.toList :: k) σ
      | true => .stuck (.code (.region id ops true) :: k) σ
    | .exit i => match dropTo i k with
      | some k' => sx T N n k' σ
      | none => .stuck (.code (.exit i) :: k) σ
    | .ret => .fin .ret σ
    | .cond (.tmp t) a b => match look σ t with
      | some (.v (.bool v)) => .cond v (.code a :: k) ((t, .v (.bool true)) :: σ) (.code b :: k) ((t, .v (.bool false)) :: σ)
      | _ => .stuck (.code (.cond (.tmp t) a b) :: k) σ
    | c => .stuck (.code c :: k) σ

section
variable {C : Cx} {N : Nat} {Q : AQ} {σ : Sg} {η : List Ent}

theorem cq_ret : ∀ (k : List It), cq C N k Q .ret = Q .ret
  | [] => rfl
  | .code _ :: k => by funext σ η; simp only [cq]; rw [cq_ret k]
  | .blk _ :: k => by funext σ η; simp only [cq]; rw [cq_ret k]
  | .ops _ _ :: k => by funext σ η; simp only [cq]; rw [cq_ret k]
  | .lp _ :: k => by funext σ η; simp only [cq]; rw [cq_ret k]

theorem cq_exit {id : Nat} : ∀ {k k' : List It}, dropTo id k = some k' → cq C N k Q (.exit id) = cq C N k' Q .norm
  | [], _, h => by simp [dropTo] at h
  | .code _ :: k, k', h => by funext σ η; simp only [cq]; rw [cq_exit (k := k) h]
  | .ops _ _ :: k, k', h => by funext σ η; simp only [cq]; rw [cq_exit (k := k) h]
  | .lp _ :: k, k', h => by funext σ η; simp only [cq]; rw [cq_exit (k := k) h]
  | .blk i :: k, k', h => by
    funext σ η
    simp only [dropTo] at h
    simp only [cq]
    cases hb : Nat.beq id i with
    | true => rw [hb] at h; simp only [Option.some.injEq] at h; subst h; rfl
    | false => rw [hb] at h; simp only; rw [cq_exit (k := k) h]

theorem AWP.mono' {c : Code} {Q' : AQ} (h : AWP C N c Q σ η) (hq : Q = Q') : AWP C N c Q' σ η := hq ▸ h

theorem CWP.code {c : Code} {k : List It} (h : AWP C N c (cq C N k Q) σ η) : CWP C N (.code c :: k) Q σ η := h
theorem CWP.ops {all rest : List Oper} {k : List It} (h : AOps C N all.toArray rest (cq C N k Q) σ η) : CWP C N (.ops all rest :: k) Q σ η := h
theorem CWP.of_code {c : Code} {k : List It} (h : CWP C N (.code c :: k) Q σ η) : AWP C N c (cq C N k Q) σ η := h
theorem CWP.of_ops {all rest : List Oper} {k : List It} (h : CWP C N (.ops all rest :: k) Q σ η) : AOps C N all.toArray rest (cq C N k Q) σ η := h
theorem CWP.of_norm {k : List It} (h : CWP C N k Q σ η) : cq C N k Q .norm σ η := h
theorem CWP.one {c : Code} (h : CWP C N [.code c] Q σ η) : AWP C N c Q σ η := AWP.mono h fun e σ η h => by cases e <;> exact h
theorem CWP.id {k : List It} (h : CWP C N k Q σ η) : CWP C N k Q σ η := h

theorem cq_seq (b : Code) (k : List It) : AE.then (AWP C N b (cq C N k Q)) (cq C N k Q) = cq C N (.code b :: k) Q := by
  funext e σ η; cases e <;> rfl
theorem cq_block (i : Nat) (k : List It) : AE.inBlock i (cq C N k Q) = cq C N (.blk i :: k) Q := by
  funext e σ η; cases e <;> rfl

theorem cq_loop (next : Sg → List Ent → Prop) (k : List It) : AE.then next (cq C N k Q) = cq C N (.lp next :: k) Q := by
  funext e σ η; cases e <;> rfl

/-- A loop: the slots ts and the first m entries are told of. -/
theorem CWP.loop {c : Code} {k : List It} (ts : List Nat) (m : Nat) (I : Nat → Sg → List Ent → Prop) (n : Nat) (h0 : ∃ σ', Aw.pick ts σ = some σ' ∧ I n σ' (η.take m))
    (round : ∀ n σ η, I n σ η → CWP C N (.code c :: .lp (fun σ1 η1 => ∃ n', n' < n ∧ ∃ σ', Aw.pick ts σ1 = some σ' ∧ I n' σ' (η1.take m)) :: k) Q σ η) : CWP C N (.code (.loop c) :: k) Q σ η :=
  AWP.loopP ts m I n h0 fun n σ η hI => AWP.mono' (round n σ η hI) (cq_loop _ k).symm
theorem CWP.lp {next : Sg → List Ent → Prop} {k : List It} (h : next σ η) : CWP C N (.lp next :: k) Q σ η := h

theorem lenOp_run {E : Env} {d : Nat} {op : Op} {ty : TypeId} {pos : String} {after : Array Edge} {x : AV} {ops : Array Oper} {rest : List Oper} (h : lenOp E.T σ op = some x) (hn : Nat.blt d N = true) (k : AOps E.toCx N ops rest Q ((d, x) :: σ) η) :
    AOps E.toCx N ops (⟨some d, op, ty, pos, after, none⟩ :: rest) Q σ η := by
  unfold lenOp at h
  split at h
  · rename_i as ts
    split at h
    · rename_i y t h1 h2
      obtain ⟨as⟩ := as
      obtain ⟨ts⟩ := ts
      simp only at h1 h2
      subst h1; subst h2
      split at h
      · rename_i z hz
        split at h
        · rename_i m hm
          simp only [Option.some.injEq] at h; subst h
          exact AOps.len (E := E) hz hm hn k
        · cases h
      · cases h
    · cases h
  · cases h

theorem nth_toArray {l : List Oper} {j : Nat} {o : Oper} (h : nth l j = some o) : l.toArray[j]? = some o := by rw [nth_eq] at h; simpa using h

theorem sx_ok {E : Env} : ∀ (n : Nat) (todo : List It) (σ : Sg), Out.ok E.toCx N Q η (sx E.T N n todo σ) → CWP E.toCx N todo Q σ η
  | 0, todo, σ, h => h
  | _ + 1, [], σ, h => h
  | n + 1, .blk i :: k, σ, h => show cq E.toCx N (.blk i :: k) Q .norm σ η by simp only [cq]; exact sx_ok n k σ h
  | n + 1, .ops all [] :: k, σ, h => AOps.nil (sx_ok n k σ h)
  | _ + 1, .lp next :: k, σ, h => h
  | n + 1, .ops all (⟨dst, op, ty, pos, after, guard⟩ :: r) :: k, σ, h => by
    simp only [sx] at h
    split at h
    · split at h
      · rename_i p hp
        have h' := sx_ok n _ _ h
        unfold sop at hp
        simp only at hp
        split at hp
        · cases hp
        · rename_i d
          split at hp
          · cases hp
          · rename_i hd
            split at hp
            · rename_i x hx
              simp only [Option.some.injEq] at hp; subst hp
              exact AOps.op (E := E) hx hd h'
            · split at hp
              · rename_i x hx
                simp only [Option.some.injEq] at hp; subst hp
                exact lenOp_run (E := E) hx hd h'
              · cases hp
      · exact h
    · rename_i j want
      split at h
      · rename_i e oj ho
        split at h
        · rename_i d hd he
          have hj : (all.toArray[j]?).bind (·.dst) = some d := by rw [nth_toArray ho]; exact hd
          split at h
          · rename_i t ht
            split at h
            · exact AOps.guardT hj ht h.1 h.2 he
            · exact AOps.guardF hj ht h.2 h.1 he
          · rename_i a ha
            split at h
            · rename_i hz
              have : a = #[] := by cases a; simp_all
              subst this
              exact AOps.guardU hj ha (sx_ok n _ _ h) he
            · exact h
          · exact h
        · exact h
      · exact h
  | n + 1, .code c :: k, σ, h => by
    cases c with
    | skip => exact AWP.skip (sx_ok n k σ h)
    | label l => exact AWP.label (sx_ok n k σ h)
    | seq a b => exact AWP.seq (AWP.mono' (sx_ok n (.code a :: .code b :: k) σ h) (cq_seq b k).symm)
    | block i b => exact AWP.block (AWP.mono' (sx_ok n (.code b :: .blk i :: k) σ h) (cq_block i k).symm)
    | region id ops d =>
      cases d with
      | false =>
        simp only [sx] at h
        have h' := sx_ok n _ _ h
        exact AWP.region (C := E.toCx) (l := ops.toList) h'
      | true => exact h
    | exit i =>
      simp only [sx] at h
      split at h
      · rename_i k' hk
        refine AWP.exit ?_
        rw [cq_exit hk]
        exact sx_ok n k' σ h
      · exact h
    | ret =>
      refine AWP.ret ?_
      rw [cq_ret]
      exact h
    | cond o a b =>
      cases o with
      | tmp t =>
        simp only [sx] at h
        split at h
        · rename_i v hv
          exact AWP.condS hv h.1 h.2
        · exact h
      | _ => exact h
    | _ => exact h

theorem sx_run (n : Nat) {E : Env} {T : Tab} (hT : E.T = T) {todo : List It} (h : Out.ok E.toCx N Q η (sx T N n todo σ)) : CWP E.toCx N todo Q σ η := by subst hT; exact sx_ok n todo σ h

theorem sx_stuck (n : Nat) {E : Env} {todo todo' : List It} {σ' : Sg} (h : sx E.T N n todo σ = .stuck todo' σ') (k : CWP E.toCx N todo' Q σ' η) : CWP E.toCx N todo Q σ η := sx_ok n todo σ (h ▸ k)
theorem sx_fin (n : Nat) {E : Env} {todo : List It} {e : AE} {σ' : Sg} (h : sx E.T N n todo σ = .fin e σ') (k : Q e σ' η) : CWP E.toCx N todo Q σ η := sx_ok n todo σ (h ▸ k)
theorem sx_cond (n : Nat) {E : Env} {todo t1 t2 : List It} {b : Bool} {s1 s2 : Sg} (h : sx E.T N n todo σ = .cond b t1 s1 t2 s2)
    (k1 : b = true → CWP E.toCx N t1 Q s1 η) (k2 : b = false → CWP E.toCx N t2 Q s2 η) : CWP E.toCx N todo Q σ η := sx_ok n todo σ (by rw [h]; exact ⟨k1, k2⟩)
theorem sx_condT (n : Nat) {E : Env} {todo t1 t2 : List It} {s1 s2 : Sg} (h : sx E.T N n todo σ = .cond true t1 s1 t2 s2) (k : CWP E.toCx N t1 Q s1 η) : CWP E.toCx N todo Q σ η := sx_cond n h (fun _ => k) (fun h => by cases h)
theorem sx_condF (n : Nat) {E : Env} {todo t1 t2 : List It} {s1 s2 : Sg} (h : sx E.T N n todo σ = .cond false t1 s1 t2 s2) (k : CWP E.toCx N t2 Q s2 η) : CWP E.toCx N todo Q σ η := sx_cond n h (fun h => by cases h) (fun _ => k)
end
end Go.Aw
