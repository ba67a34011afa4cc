/-
  Own work. The program logic, second part: the table of types, operations that only compute, and one region after another.
-/
import Derived.Test.YtkbjckcclfceoaaDoorAw1
namespace Go.Aw
open Go

/-- The description of a type, as far as the operations ask. -/
inductive TD where
  | struct (fs : List (Nat × Nat × Nat × Bool))
  | slice (e k : Nat)
  | array (n e k : Nat) (g : Bool)
  | int (k : IntKind)
  | str
  | bool
  | iface
  | other

structure TI where
  d : TD
  size : Nat
  bytes : Nat
  zero : List Value

def valB : Value → Value → Bool
  | .bool a, .bool b => a == b
  | .int k a, .int k' b => decide (k = k') && a == b
  | .string s, .string t => s.data.toList == t.data.toList
  | .pointer none, .pointer none => true
  | .slice none 0 0, .slice none 0 0 => true
  | .map none, .map none => true
  | .nilFunc, .nilFunc => true
  | .nilIface, .nilIface => true
  | _, _ => false

theorem valB_eq {a b : Value} (h : valB a b = true) : a = b := by
  unfold valB at h
  split at h <;> first | rfl | (simp_all; done) | cases h | skip
  · rename_i s t
    cases s; cases t
    rename_i s t
    cases s; cases t
    simp_all

def valsB : List Value → List Value → Bool
  | [], [] => true
  | a :: as, b :: bs => valB a b && valsB as bs
  | _, _ => false

theorem valsB_eq : ∀ {a b : List Value}, valsB a b = true → a = b
  | [], [], _ => rfl
  | a :: as, b :: bs, h => by
    simp only [valsB, Bool.and_eq_true] at h
    rw [valB_eq h.1, valsB_eq h.2]
  | [], _ :: _, h => by simp [valsB] at h
  | _ :: _, [], h => by simp [valsB] at h

def sizeB (P : Program) (t : Nat) : Nat := match P.info? t with
  | some i => i.size
  | none => 0
def aggB (P : Program) (t : Nat) : Bool := match P.underlying t with
  | some (.struct _) => true
  | some (.array _ _) => true
  | _ => false
def hasB (P : Program) (t : Nat) : Bool := (P.underlying t).isSome && (P.info? t).isSome

def tdB (P : Program) (d : TD) (u : TypeDesc) : Bool := match d, u with
  | .struct fs, .struct gs => decide (gs.toList.map (fun (f : Field) => (f.offset, f.type, sizeB P f.type, aggB P f.type)) = fs) && fs.all fun f => hasB P f.2.1 && Nat.blt 0 f.2.2.1
  | .slice e k, .slice e' => e == e' && k == sizeB P e && hasB P e
  | .array n e k g, .array n' e' => n == n' && e == e' && k == sizeB P e && g == aggB P e && hasB P e && Nat.blt 1 n
  | .int k, .int k' => decide (k = k')
  | .str, .string => true
  | .bool, .bool => true
  | .iface, .interface _ => true
  | .other, .interface _ => false
  | .other, .struct _ => false
  | .other, .array _ _ => false
  | .other, _ => true
  | _, _ => false

def tiB (P : Program) (t : Nat) (i : TI) : Bool := match P.underlying t, P.info? t with
  | some u, some ti => tdB P i.d u && ti.size == i.size && ti.bytes == i.bytes && (match ti.zero with | some z => valsB z.cells.toList i.zero && Nat.beq i.zero.length i.size | none => false)
  | _, _ => false

abbrev Tab := List (Nat × TI)

def tget : Tab → Nat → Option TI
  | [], _ => none
  | (k, x) :: r, t => match Nat.beq k t with
    | true => some x
    | false => tget r t

def TabOk (P : Program) (T : Tab) : Prop := ∀ t i, tget T t = some i → tiB P t i = true

theorem tabOk_of {P : Program} : ∀ {T : Tab}, T.all (fun p => tiB P p.1 p.2) = true → TabOk P T
  | [], _, t, i, h => by simp [tget] at h
  | (k, x) :: r, hall, t, i, h => by
    simp only [List.all_cons, Bool.and_eq_true] at hall
    simp only [tget] at h
    cases hb : Nat.beq k t with
    | true => rw [hb] at h; simp only [Option.some.injEq] at h; subst h; rw [← Nat.eq_of_beq_eq_true hb]; exact hall.1
    | false => rw [hb] at h; exact tabOk_of hall.2 t i h

structure Env extends Cx where
  T : Tab
  tok : TabOk P T

section
variable {P : Program} {t : Nat} {i : TI}

theorem tiB_spec (h : tiB P t i = true) : ∃ u ti, P.underlying t = some u ∧ P.info? t = some ti ∧ tdB P i.d u = true ∧ ti.size = i.size ∧ ti.bytes = i.bytes ∧ ∃ z, ti.zero = some z ∧ z.cells.toList = i.zero := by
  unfold tiB at h
  split at h
  · rename_i u ti hu hi
    simp only [Bool.and_eq_true, beq_iff_eq] at h
    obtain ⟨⟨⟨h1, h2⟩, h3⟩, h4⟩ := h
    split at h4
    · rename_i z hz
      simp only [Bool.and_eq_true] at h4
      exact ⟨u, ti, hu, hi, h1, h2, h3, z, hz, valsB_eq h4.1⟩
    · cases h4
  · cases h

theorem tiB_zlen (h : tiB P t i = true) : i.zero.length = i.size := by
  unfold tiB at h
  split at h
  · simp only [Bool.and_eq_true, beq_iff_eq] at h
    obtain ⟨⟨⟨h1, h2⟩, h3⟩, h4⟩ := h
    split at h4
    · simp only [Bool.and_eq_true] at h4
      exact Nat.eq_of_beq_eq_true h4.2
    · cases h4
  · cases h

theorem tiB_size (h : tiB P t i = true) (w : World) : (sizeOf t).run P w = .ok i.size w := by
  obtain ⟨u, ti, _, hi, _, hs, _⟩ := tiB_spec h
  simp [sizeOf, typeInfo, hi, hs]

theorem hasB_size (h : hasB P t = true) (w : World) : (sizeOf t).run P w = .ok (sizeB P t) w := by
  simp only [hasB, Bool.and_eq_true, Option.isSome_iff_exists] at h
  obtain ⟨_, ti, hi⟩ := h
  simp [sizeOf, typeInfo, sizeB, hi]

theorem hasB_agg (h : hasB P t = true) (w : World) : (isAgg t).run P w = .ok (aggB P t) w := by
  simp only [hasB, Bool.and_eq_true, Option.isSome_iff_exists] at h
  obtain ⟨⟨u, hu⟩, _⟩ := h
  simp only [isAgg, Sem.run_bind, run_underlying hu, Result.andThen_ok, aggB, hu]
  cases u <;> rfl

def TD.agg : TD → Bool
  | .struct _ => true
  | .array _ _ _ _ => true
  | _ => false

theorem tiB_agg (h : tiB P t i = true) (w : World) : (isAgg t).run P w = .ok i.d.agg w := by
  obtain ⟨u, ti, hu, _, hd, _⟩ := tiB_spec h
  simp only [isAgg, Sem.run_bind, run_underlying hu, Result.andThen_ok]
  cases hid : i.d <;> cases u <;> simp_all [tdB, TD.agg]

theorem tiB_underlying_struct {fs : List (Nat × Nat × Nat × Bool)} (h : tiB P t i = true) (hd : i.d = .struct fs) : ∃ gs : Array Field, P.underlying t = some (.struct gs) ∧
    ∀ (j o ft k : Nat) (g : Bool), fs[j]? = some (o, ft, k, g) → ∃ f : Field, gs[j]? = some f ∧ f.offset = o ∧ f.type = ft ∧ sizeB P ft = k ∧ aggB P ft = g ∧ hasB P ft = true ∧ 0 < k := by
  obtain ⟨u, ti, hu, _, hd', _⟩ := tiB_spec h
  rw [hd] at hd'
  cases u <;> simp only [tdB, Bool.false_eq_true] at hd'
  rename_i gs
  simp only [Bool.and_eq_true, decide_eq_true_eq] at hd'
  obtain ⟨hm, hall⟩ := hd'
  refine ⟨gs, hu, fun j o ft k g hj => ?_⟩
  have hin : (o, ft, k, g) ∈ fs := List.mem_of_getElem? hj
  have hh := List.all_eq_true.1 hall _ hin
  simp only [Bool.and_eq_true] at hh
  rw [← hm, List.getElem?_map] at hj
  cases hg : gs.toList[j]? with
  | none => rw [hg] at hj; cases hj
  | some f =>
    rw [hg] at hj
    simp only [Option.map_some, Option.some.injEq, Prod.mk.injEq] at hj
    obtain ⟨e1, e2, e3, e4⟩ := hj
    refine ⟨f, by simpa using hg, e1, e2, by rw [← e2]; exact e3, by rw [← e2]; exact e4, hh.1, by have := hh.2; rwa [Nat.blt_eq] at this⟩
theorem tiB_underlying_struct' {fs : List (Nat × Nat × Nat × Bool)} (h : tiB P t i = true) (hd : i.d = .struct fs) : ∃ gs : Array Field, P.underlying t = some (.struct gs) ∧
    (∀ (j o ft k : Nat) (g : Bool), fs[j]? = some (o, ft, k, g) → ∃ f : Field, gs[j]? = some f ∧ f.offset = o ∧ f.type = ft ∧ sizeB P ft = k ∧ aggB P ft = g ∧ hasB P ft = true ∧ 0 < k) ∧
    ∀ j (hj : j < gs.toList.length), hasB P gs.toList[j].type = true := by
  obtain ⟨gs, hu, h4⟩ := tiB_underlying_struct h hd
  refine ⟨gs, hu, h4, fun j hj => ?_⟩
  obtain ⟨u, ti, hu', _, hd', _⟩ := tiB_spec h
  rw [hu] at hu'
  cases hu'
  rw [hd] at hd'
  simp only [tdB, Bool.and_eq_true, decide_eq_true_eq] at hd'
  obtain ⟨hm, _⟩ := hd'
  have hl : j < fs.length := by rw [← hm]; simpa using hj
  obtain ⟨f, h5, h6, h7, _, _, h8, _⟩ := h4 j fs[j].1 fs[j].2.1 fs[j].2.2.1 fs[j].2.2.2 (by simp [hl])
  have : gs.toList[j] = f := by
    have := (Array.getElem?_eq_some_iff.1 h5).2
    simpa using this
  rw [this, h7]
  exact h8

end

/-- One operation of two plain values. -/
def abin (op : BinOp) (x y : Value) : Option Value :=
  match x, y with
  | .int k a, .int k' b => match decide (k = k') with
    | false => none
    | true => match op with
      | .add => some (.int k (k.wrap (a + b)))
      | .sub => some (.int k (k.wrap (a - b)))
      | .mul => some (.int k (k.wrap (a * b)))
      | .eql => some (.bool (a == b))
      | .neq => some (.bool (a != b))
      | .lss => some (.bool (decide (a < b)))
      | .leq => some (.bool (decide (a ≤ b)))
      | .gtr => some (.bool (decide (a > b)))
      | .geq => some (.bool (decide (a ≥ b)))
      | .rem => match decide (b = 0) with
        | true => none
        | false => some (.int k (a.tmod b))
      | .quo => match decide (b = 0) with
        | true => none
        | false => some (.int k (k.wrap (a.tdiv b)))
      | _ => none
  | .string a, .string b => match op with
    | .eql => some (.bool (a.toList == b.toList))
    | .neq => some (.bool (!(a.toList == b.toList)))
    | .lss => some (.bool (Op.bytesLess a.toList b.toList))
    | .leq => some (.bool (Op.bytesLess a.toList b.toList || a.toList == b.toList))
    | .gtr => some (.bool (!(Op.bytesLess a.toList b.toList || a.toList == b.toList)))
    | .geq => some (.bool (!Op.bytesLess a.toList b.toList))
    | _ => none
  | _, _ => none

theorem abin_run {P : Program} {op : BinOp} {t : TypeId} {x y : Operand} {u v r : Value} (h : abin op u v = some r) (w : World) :
    (do eqGuard op t x y u v; binOp op t u v : Sem Value).run P w = .ok r w := by
  unfold abin at h
  split at h
  · rename_i k a k' b
    split at h
    · cases h
    · rename_i hk
      have hk : k = k' := of_decide_eq_true hk
      subst hk
      cases op <;> simp only at h <;> first
        | (cases h; done)
        | (simp only [Option.some.injEq] at h; subst h; simp [eqGuard_at_int, binOp, Op.intArith, Op.intCmp]; done)
        | (split at h
           · cases h
           · rename_i hb
             have hb : ¬ b = 0 := of_decide_eq_false hb
             simp only [Option.some.injEq] at h; subst h
             simp [eqGuard_at_int, binOp, Op.intDiv, hb])
  · cases op <;> simp only at h <;> first
      | (cases h; done)
      | (simp only [Option.some.injEq] at h; subst h; simp [eqGuard_at_string, binOp, Op.stringOp]; done)
  · cases h

def nth {α : Type} : List α → Nat → Option α
  | [], _ => none
  | x :: _, 0 => some x
  | _ :: r, n + 1 => nth r n

theorem nth_eq {α : Type} : ∀ (l : List α) (n : Nat), nth l n = l[n]?
  | [], _ => by simp [nth]
  | x :: _, 0 => by simp [nth]
  | _ :: r, n + 1 => by simp [nth, nth_eq r n]

/-- A part of some cells. -/
def partA (g : Bool) (xs : List AV) (off k : Nat) : Option AV := match g with
  | true => some (.agg ((xs.drop off).take k))
  | false => nth xs off

/-- Enough cells. -/
def fits : List AV → Nat → Bool
  | _, 0 => true
  | [], _ + 1 => false
  | _ :: r, n + 1 => fits r n

theorem fits_le : ∀ {l : List AV} {n : Nat}, fits l n = true → n ≤ l.length
  | _, 0, _ => Nat.zero_le _
  | [], _ + 1, h => by simp [fits] at h
  | _ :: r, n + 1, h => by simp only [fits] at h; have := fits_le h; simp; omega

section
variable {w : World} {A : Nat → Prop}

theorem RelL.nth : ∀ {xs : List AV} {vs : List Value} {n : Nat} {x : AV}, RelL w A xs vs → Aw.nth xs n = some x → ∃ v, vs[n]? = some v ∧ Rel w A x v
  | [], _, _, _, _, h => by simp [Aw.nth] at h
  | y :: _, vs, 0, x, hr, h => by
    simp only [RelL] at hr; obtain ⟨v, r, rfl, h1, _⟩ := hr
    simp only [Aw.nth, Option.some.injEq] at h; subst h
    exact ⟨v, by simp, h1⟩
  | _ :: xs, vs, n + 1, x, hr, h => by
    simp only [RelL] at hr; obtain ⟨v, r, rfl, _, h2⟩ := hr
    simp only [Aw.nth] at h
    obtain ⟨u, h3, h4⟩ := RelL.nth h2 h
    exact ⟨u, by simpa using h3, h4⟩

theorem RelL.drop : ∀ (n : Nat) {xs : List AV} {vs : List Value}, RelL w A xs vs → RelL w A (xs.drop n) (vs.drop n)
  | 0, _, _, h => by simpa using h
  | n + 1, [], _, h => by simp only [RelL] at h; subst h; simp [RelL]
  | n + 1, _ :: _, _, h => by simp only [RelL] at h; obtain ⟨v, r, rfl, _, h⟩ := h; simpa using RelL.drop n h

theorem RelL.take : ∀ (n : Nat) {xs : List AV} {vs : List Value}, RelL w A xs vs → RelL w A (xs.take n) (vs.take n)
  | 0, _, _, _ => by simp [RelL]
  | n + 1, [], _, h => by simp only [RelL] at h; subst h; simp [RelL]
  | n + 1, _ :: _, _, h => by simp only [RelL] at h; obtain ⟨v, r, rfl, h1, h⟩ := h; simp only [List.take_succ_cons, RelL]; exact ⟨v, _, rfl, h1, RelL.take n h⟩

theorem RelL.append : ∀ {xs ys : List AV} {vs us : List Value}, RelL w A xs vs → RelL w A ys us → RelL w A (xs ++ ys) (vs ++ us)
  | [], _, _, _, h, g => by simp only [RelL] at h; subst h; simpa using g
  | _ :: _, _, _, _, h, g => by simp only [RelL] at h; obtain ⟨v, r, rfl, h1, h⟩ := h; simp only [List.cons_append, RelL]; exact ⟨v, _, rfl, h1, RelL.append h g⟩

theorem RelL.set : ∀ {xs : List AV} {vs : List Value} (n : Nat) {x : AV} {v : Value}, RelL w A xs vs → Rel w A x v → RelL w A (xs.set n x) (vs.set n v)
  | [], _, n, _, _, h, _ => by simp only [RelL] at h; subst h; simp [RelL]
  | _ :: _, _, 0, _, _, h, g => by simp only [RelL] at h; obtain ⟨v, r, rfl, _, h⟩ := h; simp only [List.set_cons_zero, RelL]; exact ⟨_, _, rfl, g, h⟩
  | _ :: _, _, n + 1, _, _, h, g => by simp only [RelL] at h; obtain ⟨v, r, rfl, h1, h⟩ := h; simp only [List.set_cons_succ, RelL]; exact ⟨_, _, rfl, h1, RelL.set n h g⟩

theorem run_part {P : Program} {t : TypeId} {g : Bool} (hg : hasB P t = true) (ha : aggB P t = g) {xs : List AV} {vs : List Value} (hr : RelL w A xs vs) {off : Nat} {x : AV}
    (h : partA g xs off (sizeB P t) = some x) (w' : World) : ∃ v, (part t vs.toArray off).run P w' = .ok v w' ∧ Rel w A x v := by
  subst ha
  simp only [part, Sem.run_bind, hasB_agg hg, Result.andThen_ok, Sem.run_ite, hasB_size hg, Sem.run_pure]
  cases hb : aggB P t with
  | true =>
    rw [hb] at h
    simp only [partA, Option.some.injEq] at h
    subst h
    refine ⟨_, by simp only [if_true]; rfl, ?_⟩
    simp only [Rel]
    refine ⟨(vs.drop off).take (sizeB P t), ?_, (hr.drop off).take _⟩
    congr 1
    apply Array.ext'
    simp [List.extract_eq_take_drop]
  | false =>
    rw [hb] at h
    simp only [partA] at h
    obtain ⟨v, h1, h2⟩ := hr.nth h
    refine ⟨v, ?_, h2⟩
    simp [h1]
end
end Go.Aw
