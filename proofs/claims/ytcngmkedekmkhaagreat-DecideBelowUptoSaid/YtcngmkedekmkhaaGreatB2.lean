/-
  Own work. The program logic, second part: the table of types, operations that only compute, and one region after another.
-/
import Derived.Test.YtcngmkedekmkhaaGreatB1
noncomputable section
namespace Go.Bw
open Go
inductive TD where
  | struct (fs : List (Nat × Nat × Nat × Bool))
  | slice (e k : Nat)
  | array (n e k : Nat) (g : Bool)
  | int (k : IntKind)
  | str
  | bool
  | iface
  | other
structure TI where
  d : TD
  size : Nat
  bytes : Nat
  zero : List Value
def valB : Value → Value → Bool
  | .bool a, .bool b => a == b
  | .int k a, .int k' b => decide (k = k') && a == b
  | .string s, .string t => s.data.toList == t.data.toList
  | .pointer none, .pointer none => true
  | .slice none 0 0, .slice none 0 0 => true
  | .map none, .map none => true
  | .nilFunc, .nilFunc => true
  | .func (.func f) a b, .func (.func g) c d => Nat.beq f g && (a.toList.isEmpty && b.toList.isEmpty && (c.toList.isEmpty && d.toList.isEmpty))
  | .nilIface, .nilIface => true
  | _, _ => false
theorem valB_eq {a b : Value} (h : valB a b = true) : a = b := by
  unfold valB at h
  split at h <;> first | rfl | (simp_all; done) | cases h | skip
  · rename_i s t
    cases s; cases t
    rename_i s t
    cases s; cases t
    simp_all
def valsB : List Value → List Value → Bool
  | [], [] => true
  | a :: as, b :: bs => valB a b && valsB as bs
  | _, _ => false
theorem valsB_eq : ∀ {a b : List Value}, valsB a b = true → a = b
  | [], [], _ => rfl
  | a :: as, b :: bs, h => by
    simp only [valsB, Bool.and_eq_true] at h
    rw [valB_eq h.1, valsB_eq h.2]
  | [], _ :: _, h => by simp [valsB] at h
  | _ :: _, [], h => by simp [valsB] at h
def sizeB (P : Program) (t : Nat) : Nat := match P.info? t with
  | some i => i.size
  | none => 0
def aggB (P : Program) (t : Nat) : Bool := match P.underlying t with
  | some (.struct _) => true
  | some (.array _ _) => true
  | _ => false
def hasB (P : Program) (t : Nat) : Bool := (P.underlying t).isSome && (P.info? t).isSome
def tdB (P : Program) (d : TD) (u : TypeDesc) : Bool := match d, u with
  | .struct fs, .struct gs => decide (gs.toList.map (fun (f : Field) => (f.offset, f.type, sizeB P f.type, aggB P f.type)) = fs) && fs.all fun f => hasB P f.2.1 && Nat.blt 0 f.2.2.1
  | .slice e k, .slice e' => e == e' && k == sizeB P e && hasB P e
  | .array n e k g, .array n' e' => n == n' && e == e' && k == sizeB P e && g == aggB P e && hasB P e && Nat.blt 1 n
  | .int k, .int k' => decide (k = k')
  | .str, .string => true
  | .bool, .bool => true
  | .iface, .interface _ => true
  | .other, .interface _ => false
  | .other, .struct _ => false
  | .other, .array _ _ => false
  | .other, _ => true
  | _, _ => false
def tiB (P : Program) (t : Nat) (i : TI) : Bool := match P.underlying t, P.info? t with
  | some u, some ti => tdB P i.d u && ti.size == i.size && ti.bytes == i.bytes && (match ti.zero with | some z => valsB z.cells.toList i.zero && Nat.beq i.zero.length i.size | none => false)
  | _, _ => false
inductive Tr (α : Type) where
  | lf
  | nd (x : Option α) (l r : Tr α)
def mod2 (n : Nat) : Nat := match n with
  | 0 => 0
  | m + 1 => Nat.mod (m + 1) 2
def div2 (n : Nat) : Nat := match n with
  | 0 => 0
  | m + 1 => Nat.div (m + 1) 2
theorem mod2_eq (n : Nat) : mod2 n = Nat.mod n 2 := by cases n <;> rfl
theorem div2_eq (n : Nat) : div2 n = Nat.div n 2 := by cases n <;> rfl
def Tr.get {α : Type} : Tr α → Nat → Option α
  | .lf, _ => none
  | .nd x l r, n => @Bool.rec (fun _ => Option α) (@Bool.rec (fun _ => Option α) (r.get (Nat.pred (div2 n))) (l.get (div2 n)) (Nat.beq (mod2 n) 1)) x (Nat.beq n 0)
theorem Tr.get_lf {α : Type} (n : Nat) : (Tr.lf : Tr α).get n = none := rfl
theorem Tr.get_nd {α : Type} (x : Option α) (l r : Tr α) (n : Nat) : (Tr.nd x l r).get n = match Nat.beq n 0 with
    | true => x
    | false => match Nat.beq (mod2 n) 1 with
      | true => l.get (div2 n)
      | false => r.get (Nat.pred (div2 n)) := by
  rw [Tr.get]
  cases Nat.beq n 0 with
  | true => rfl
  | false => cases Nat.beq (mod2 n) 1 <;> rfl
def Tr.allB {α : Type} (p : Nat → α → Bool) : Tr α → Nat → Nat → Bool
  | .lf, _, _ => true
  | .nd x l r, a, b => (match x with
    | some y => p b y
    | none => true) && (l.allB p (2 * a) (a + b) && r.allB p (2 * a) (2 * a + b))
theorem Tr.allB_get {α : Type} {p : Nat → α → Bool} : ∀ {t : Tr α} {a b n : Nat} {x : α}, t.allB p a b = true → t.get n = some x → p (a * n + b) x = true
  | .lf, _, _, _, _, _, h => by simp [Tr.get_lf] at h
  | .nd y l r, a, b, n, x, hall, h => by
    simp only [Tr.allB, Bool.and_eq_true] at hall
    simp only [Tr.get_nd, mod2_eq, div2_eq] at h
    cases h0 : Nat.beq n 0 with
    | true =>
      rw [h0] at h
      have := Nat.eq_of_beq_eq_true h0
      subst this
      simp only at h
      subst h
      simpa using hall.1
    | false =>
      rw [h0] at h
      have hne : n ≠ 0 := fun e => by subst e; simp [Nat.beq] at h0
      simp only at h
      cases h1 : Nat.beq (Nat.mod n 2) 1 with
      | true =>
        rw [h1] at h
        have h1 := Nat.eq_of_beq_eq_true h1
        change n % 2 = 1 at h1
        have := Tr.allB_get hall.2.1 h
        have e : 2 * a * Nat.div n 2 + (a + b) = a * n + b := by
          change 2 * a * (n / 2) + (a + b) = a * n + b
          have : n = 2 * (n / 2) + 1 := by omega
          generalize n / 2 = m at this
          subst this
          rw [Nat.mul_add, Nat.mul_one, ← Nat.mul_assoc, Nat.mul_comm a 2]; omega
        rwa [e] at this
      | false =>
        rw [h1] at h
        have h1 : ¬ n % 2 = 1 := fun e => by
          have : Nat.beq (Nat.mod n 2) 1 = true := by change Nat.beq (n % 2) 1 = true; rw [e]; rfl
          rw [h1] at this; cases this
        have := Tr.allB_get hall.2.2 h
        have e : 2 * a * Nat.pred (Nat.div n 2) + (2 * a + b) = a * n + b := by
          change 2 * a * (n / 2 - 1) + (2 * a + b) = a * n + b
          have : n = 2 * (n / 2 - 1) + 2 := by omega
          generalize n / 2 - 1 = m at this
          subst this
          rw [Nat.mul_add, ← Nat.mul_assoc, Nat.mul_comm a 2]; omega
        rwa [e] at this
abbrev Tab := Tr TI
def tget (T : Tab) (t : Nat) : Option TI := T.get t
def TabOk (P : Program) (T : Tab) : Prop := ∀ t i, tget T t = some i → tiB P t i = true
theorem tabOk_of {P : Program} {T : Tab} (h : T.allB (tiB P) 1 0 = true) : TabOk P T := fun t i hi => by
  have := Tr.allB_get h hi
  simpa using this
structure Env extends Cx where
  T : Tab
  tok : TabOk P T
section
variable {P : Program} {t : Nat} {i : TI}
theorem tiB_spec (h : tiB P t i = true) : ∃ u ti, P.underlying t = some u ∧ P.info? t = some ti ∧ tdB P i.d u = true ∧ ti.size = i.size ∧ ti.bytes = i.bytes ∧ ∃ z, ti.zero = some z ∧ z.cells.toList = i.zero := by
  unfold tiB at h
  split at h
  · rename_i u ti hu hi
    simp only [Bool.and_eq_true, beq_iff_eq] at h
    obtain ⟨⟨⟨h1, h2⟩, h3⟩, h4⟩ := h
    split at h4
    · rename_i z hz
      simp only [Bool.and_eq_true] at h4
      exact ⟨u, ti, hu, hi, h1, h2, h3, z, hz, valsB_eq h4.1⟩
    · cases h4
  · cases h
theorem tiB_zlen (h : tiB P t i = true) : i.zero.length = i.size := by
  unfold tiB at h
  split at h
  · simp only [Bool.and_eq_true, beq_iff_eq] at h
    obtain ⟨⟨⟨h1, h2⟩, h3⟩, h4⟩ := h
    split at h4
    · simp only [Bool.and_eq_true] at h4
      exact Nat.eq_of_beq_eq_true h4.2
    · cases h4
  · cases h
theorem tiB_size (h : tiB P t i = true) (w : World) : (sizeOf t).run P w = .ok i.size w := by
  obtain ⟨u, ti, _, hi, _, hs, _⟩ := tiB_spec h
  simp [sizeOf, typeInfo, hi, hs]
theorem hasB_size (h : hasB P t = true) (w : World) : (sizeOf t).run P w = .ok (sizeB P t) w := by
  simp only [hasB, Bool.and_eq_true, Option.isSome_iff_exists] at h
  obtain ⟨_, ti, hi⟩ := h
  simp [sizeOf, typeInfo, sizeB, hi]
theorem hasB_agg (h : hasB P t = true) (w : World) : (isAgg t).run P w = .ok (aggB P t) w := by
  simp only [hasB, Bool.and_eq_true, Option.isSome_iff_exists] at h
  obtain ⟨⟨u, hu⟩, _⟩ := h
  simp only [isAgg, Sem.run_bind, run_underlying hu, Result.andThen_ok, aggB, hu]
  cases u <;> rfl
def TD.agg : TD → Bool
  | .struct _ => true
  | .array _ _ _ _ => true
  | _ => false
theorem tiB_agg (h : tiB P t i = true) (w : World) : (isAgg t).run P w = .ok i.d.agg w := by
  obtain ⟨u, ti, hu, _, hd, _⟩ := tiB_spec h
  simp only [isAgg, Sem.run_bind, run_underlying hu, Result.andThen_ok]
  cases hid : i.d <;> cases u <;> simp_all [tdB, TD.agg]
theorem tiB_underlying_struct {fs : List (Nat × Nat × Nat × Bool)} (h : tiB P t i = true) (hd : i.d = .struct fs) : ∃ gs : Array Field, P.underlying t = some (.struct gs) ∧
    ∀ (j o ft k : Nat) (g : Bool), fs[j]? = some (o, ft, k, g) → ∃ f : Field, gs[j]? = some f ∧ f.offset = o ∧ f.type = ft ∧ sizeB P ft = k ∧ aggB P ft = g ∧ hasB P ft = true ∧ 0 < k := by
  obtain ⟨u, ti, hu, _, hd', _⟩ := tiB_spec h
  rw [hd] at hd'
  cases u <;> simp only [tdB, Bool.false_eq_true] at hd'
  rename_i gs
  simp only [Bool.and_eq_true, decide_eq_true_eq] at hd'
  obtain ⟨hm, hall⟩ := hd'
  refine ⟨gs, hu, fun j o ft k g hj => ?_⟩
  have hin : (o, ft, k, g) ∈ fs := List.mem_of_getElem? hj
  have hh := List.all_eq_true.1 hall _ hin
  simp only [Bool.and_eq_true] at hh
  rw [← hm, List.getElem?_map] at hj
  cases hg : gs.toList[j]? with
  | none => rw [hg] at hj; cases hj
  | some f =>
    rw [hg] at hj
    simp only [Option.map_some, Option.some.injEq, Prod.mk.injEq] at hj
    obtain ⟨e1, e2, e3, e4⟩ := hj
    refine ⟨f, by simpa using hg, e1, e2, by rw [← e2]; exact e3, by rw [← e2]; exact e4, hh.1, by have := hh.2; rwa [Nat.blt_eq] at this⟩
theorem tiB_underlying_struct' {fs : List (Nat × Nat × Nat × Bool)} (h : tiB P t i = true) (hd : i.d = .struct fs) : ∃ gs : Array Field, P.underlying t = some (.struct gs) ∧
    (∀ (j o ft k : Nat) (g : Bool), fs[j]? = some (o, ft, k, g) → ∃ f : Field, gs[j]? = some f ∧ f.offset = o ∧ f.type = ft ∧ sizeB P ft = k ∧ aggB P ft = g ∧ hasB P ft = true ∧ 0 < k) ∧
    ∀ j (hj : j < gs.toList.length), hasB P gs.toList[j].type = true := by
  obtain ⟨gs, hu, h4⟩ := tiB_underlying_struct h hd
  refine ⟨gs, hu, h4, fun j hj => ?_⟩
  obtain ⟨u, ti, hu', _, hd', _⟩ := tiB_spec h
  rw [hu] at hu'
  cases hu'
  rw [hd] at hd'
  simp only [tdB, Bool.and_eq_true, decide_eq_true_eq] at hd'
  obtain ⟨hm, _⟩ := hd'
  have hl : j < fs.length := by rw [← hm]; simpa using hj
  obtain ⟨f, h5, h6, h7, _, _, h8, _⟩ := h4 j fs[j].1 fs[j].2.1 fs[j].2.2.1 fs[j].2.2.2 (by simp [hl])
  have : gs.toList[j] = f := by
    have := (Array.getElem?_eq_some_iff.1 h5).2
    simpa using this
  rw [this, h7]
  exact h8
end
def abin (op : BinOp) (x y : Value) : Option Value :=
  match x, y with
  | .int k a, .int k' b => match decide (k = k') with
    | false => none
    | true => match op with
      | .add => some (.int k (k.wrap (a + b)))
      | .sub => some (.int k (k.wrap (a - b)))
      | .mul => some (.int k (k.wrap (a * b)))
      | .eql => some (.bool (a == b))
      | .neq => some (.bool (a != b))
      | .lss => some (.bool (decide (a < b)))
      | .leq => some (.bool (decide (a ≤ b)))
      | .gtr => some (.bool (decide (a > b)))
      | .geq => some (.bool (decide (a ≥ b)))
      | .rem => match decide (b = 0) with
        | true => none
        | false => some (.int k (a.tmod b))
      | .quo => match decide (b = 0) with
        | true => none
        | false => some (.int k (k.wrap (a.tdiv b)))
      | _ => none
  | .string a, .string b => match op with
    | .eql => some (.bool (a.data.toList == b.data.toList))
    | .neq => some (.bool (!(a.data.toList == b.data.toList)))
    | .lss => some (.bool (Op.bytesLess a.data.toList b.data.toList))
    | .leq => some (.bool (Op.bytesLess a.data.toList b.data.toList || a.data.toList == b.data.toList))
    | .gtr => some (.bool (!(Op.bytesLess a.data.toList b.data.toList || a.data.toList == b.data.toList)))
    | .geq => some (.bool (!Op.bytesLess a.data.toList b.data.toList))
    | _ => none
  | _, _ => none
theorem abin_run {P : Program} {op : BinOp} {t : TypeId} {x y : Operand} {u v r : Value} (h : abin op u v = some r) (w : World) :
    (do eqGuard op t x y u v; binOp op t u v : Sem Value).run P w = .ok r w := by
  unfold abin at h
  split at h
  · rename_i k a k' b
    split at h
    · cases h
    · rename_i hk
      have hk : k = k' := of_decide_eq_true hk
      subst hk
      cases op <;> simp only at h <;> first
        | (cases h; done)
        | (simp only [Option.some.injEq] at h; subst h; simp [eqGuard_at_int, binOp, Op.intArith, Op.intCmp]; done)
        | (split at h
           · cases h
           · rename_i hb
             have hb : ¬ b = 0 := of_decide_eq_false hb
             simp only [Option.some.injEq] at h; subst h
             simp [eqGuard_at_int, binOp, Op.intDiv, hb])
  · cases op <;> simp only at h <;> first
      | (cases h; done)
      | (simp only [Option.some.injEq] at h; subst h; simp [eqGuard_at_string, binOp, Op.stringOp, ByteArray.toList_eq]; done)
  · cases h
def abit (op : BinOp) (x y : Value) : Option Value :=
  match x, y with
  | .int k a, .int k' b => match op with
    | .shl => match decide (b < 0) with
      | true => none
      | false => some (.int k (k.wrap (a * 2 ^ min b.toNat k.bits)))
    | .shr => match decide (b < 0) with
      | true => none
      | false => some (.int k (a.fdiv (2 ^ min b.toNat k.bits)))
    | .and => match decide (k = k') with
      | false => none
      | true => some (.int k (k.wrap ((BitVec.ofInt k.bits a &&& BitVec.ofInt k.bits b).toNat : Int)))
    | .or => match decide (k = k') with
      | false => none
      | true => some (.int k (k.wrap ((BitVec.ofInt k.bits a ||| BitVec.ofInt k.bits b).toNat : Int)))
    | .xor => match decide (k = k') with
      | false => none
      | true => some (.int k (k.wrap ((BitVec.ofInt k.bits a ^^^ BitVec.ofInt k.bits b).toNat : Int)))
    | .andNot => match decide (k = k') with
      | false => none
      | true => some (.int k (k.wrap ((BitVec.ofInt k.bits a &&& ~~~BitVec.ofInt k.bits b).toNat : Int)))
    | _ => none
  | _, _ => none
theorem abit_run {P : Program} {op : BinOp} {t : TypeId} {x y : Operand} {u v r : Value} (h : abit op u v = some r) (w : World) :
    (do eqGuard op t x y u v; binOp op t u v : Sem Value).run P w = .ok r w := by
  unfold abit at h
  split at h
  · rename_i k a k' b
    cases op <;> simp only at h <;> try (cases h; done)
    all_goals (split at h <;> try (cases h; done))
    all_goals simp only [Option.some.injEq] at h
    all_goals subst h
    all_goals rename_i hk
    all_goals (simp only [decide_eq_true_eq, decide_eq_false_iff_not] at hk)
    all_goals first
      | (subst hk; simp [eqGuard_at_int, binOp, Op.intBits]; done)
      | (simp [eqGuard, binOp, Op.shift, hk]; done)
  · cases h
def nth {α : Type} : List α → Nat → Option α
  | [], _ => none
  | x :: _, 0 => some x
  | _ :: r, n + 1 => nth r n
theorem nth_eq {α : Type} : ∀ (l : List α) (n : Nat), nth l n = l[n]?
  | [], _ => by simp [nth]
  | x :: _, 0 => by simp [nth]
  | _ :: r, n + 1 => by simp [nth, nth_eq r n]
def partA (g : Bool) (xs : List AV) (off k : Nat) : Option AV := match g with
  | true => some (.agg ((xs.drop off).take k))
  | false => nth xs off
def fits : List AV → Nat → Bool
  | _, 0 => true
  | [], _ + 1 => false
  | _ :: r, n + 1 => fits r n
theorem fits_le : ∀ {l : List AV} {n : Nat}, fits l n = true → n ≤ l.length
  | _, 0, _ => Nat.zero_le _
  | [], _ + 1, h => by simp [fits] at h
  | _ :: r, n + 1, h => by simp only [fits] at h; have := fits_le h; simp; omega
section
variable {w : World} {A : Nat → Prop}
theorem RelL.nth : ∀ {xs : List AV} {vs : List Value} {n : Nat} {x : AV}, RelL w A xs vs → Bw.nth xs n = some x → ∃ v, vs[n]? = some v ∧ Rel w A x v
  | [], _, _, _, _, h => by simp [Bw.nth] at h
  | y :: _, vs, 0, x, hr, h => by
    simp only [RelL] at hr; obtain ⟨v, r, rfl, h1, _⟩ := hr
    simp only [Bw.nth, Option.some.injEq] at h; subst h
    exact ⟨v, by simp, h1⟩
  | _ :: xs, vs, n + 1, x, hr, h => by
    simp only [RelL] at hr; obtain ⟨v, r, rfl, _, h2⟩ := hr
    simp only [Bw.nth] at h
    obtain ⟨u, h3, h4⟩ := RelL.nth h2 h
    exact ⟨u, by simpa using h3, h4⟩
theorem RelL.drop : ∀ (n : Nat) {xs : List AV} {vs : List Value}, RelL w A xs vs → RelL w A (xs.drop n) (vs.drop n)
  | 0, _, _, h => by simpa using h
  | n + 1, [], _, h => by simp only [RelL] at h; subst h; simp [RelL]
  | n + 1, _ :: _, _, h => by simp only [RelL] at h; obtain ⟨v, r, rfl, _, h⟩ := h; simpa using RelL.drop n h
theorem RelL.take : ∀ (n : Nat) {xs : List AV} {vs : List Value}, RelL w A xs vs → RelL w A (xs.take n) (vs.take n)
  | 0, _, _, _ => by simp [RelL]
  | n + 1, [], _, h => by simp only [RelL] at h; subst h; simp [RelL]
  | n + 1, _ :: _, _, h => by simp only [RelL] at h; obtain ⟨v, r, rfl, h1, h⟩ := h; simp only [List.take_succ_cons, RelL]; exact ⟨v, _, rfl, h1, RelL.take n h⟩
theorem RelL.append : ∀ {xs ys : List AV} {vs us : List Value}, RelL w A xs vs → RelL w A ys us → RelL w A (xs ++ ys) (vs ++ us)
  | [], _, _, _, h, g => by simp only [RelL] at h; subst h; simpa using g
  | _ :: _, _, _, _, h, g => by simp only [RelL] at h; obtain ⟨v, r, rfl, h1, h⟩ := h; simp only [List.cons_append, RelL]; exact ⟨v, _, rfl, h1, RelL.append h g⟩
theorem RelL.set : ∀ {xs : List AV} {vs : List Value} (n : Nat) {x : AV} {v : Value}, RelL w A xs vs → Rel w A x v → RelL w A (xs.set n x) (vs.set n v)
  | [], _, n, _, _, h, _ => by simp only [RelL] at h; subst h; simp [RelL]
  | _ :: _, _, 0, _, _, h, g => by simp only [RelL] at h; obtain ⟨v, r, rfl, _, h⟩ := h; simp only [List.set_cons_zero, RelL]; exact ⟨_, _, rfl, g, h⟩
  | _ :: _, _, n + 1, _, _, h, g => by simp only [RelL] at h; obtain ⟨v, r, rfl, h1, h⟩ := h; simp only [List.set_cons_succ, RelL]; exact ⟨_, _, rfl, h1, RelL.set n h g⟩
theorem run_part {P : Program} {t : TypeId} {g : Bool} (hg : hasB P t = true) (ha : aggB P t = g) {xs : List AV} {vs : List Value} (hr : RelL w A xs vs) {off : Nat} {x : AV}
    (h : partA g xs off (sizeB P t) = some x) (w' : World) : ∃ v, (part t vs.toArray off).run P w' = .ok v w' ∧ Rel w A x v := by
  subst ha
  simp only [part, Sem.run_bind, hasB_agg hg, Result.andThen_ok, Sem.run_ite, hasB_size hg, Sem.run_pure]
  cases hb : aggB P t with
  | true =>
    rw [hb] at h
    simp only [partA, Option.some.injEq] at h
    subst h
    refine ⟨_, by simp only [if_true]; rfl, ?_⟩
    simp only [Rel]
    refine ⟨(vs.drop off).take (sizeB P t), ?_, (hr.drop off).take _⟩
    congr 1
    apply Array.ext'
    simp [List.extract_eq_take_drop]
  | false =>
    rw [hb] at h
    simp only [partA] at h
    obtain ⟨v, h1, h2⟩ := hr.nth h
    refine ⟨v, ?_, h2⟩
    simp [h1]
end
end Go.Bw
