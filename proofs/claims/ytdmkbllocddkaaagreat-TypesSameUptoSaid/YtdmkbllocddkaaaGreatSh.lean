/-
  Own work, in part printed by a program. What the reading of an argument comes to, as the program's types as trees; their bounds.
-/
import Derived.Test.YtdmkbllocddkaaaGreatKGk
namespace Go.Proofs.YtdmkbllocddkaaaGreat
open Go Go.Bw
theorem choose_list {α β : Type} {f : α → β} {p : α → Prop} : ∀ {rows : List β}, (∀ r ∈ rows, ∃ x, r = f x ∧ p x) → ∃ xs : List α, rows = xs.map f ∧ ∀ x ∈ xs, p x
  | [], _ => ⟨[], rfl, by simp⟩
  | r :: rows, h => by
    obtain ⟨x, rfl, hx⟩ := h r (by simp)
    obtain ⟨xs, rfl, hxs⟩ := choose_list (rows := rows) (fun r hr => h r (by simp [hr]))
    exact ⟨x :: xs, rfl, by simpa using ⟨hx, hxs⟩⟩
section
variable {P : Program} {B n : Nat} {t : TypeId} {row : List AV}
theorem sh_intW {k : IntKind} (hu : P.underlying t = some (.int k)) (h : Sh P B n t row) : ∃ z, row = [.v (.int k z)] ∧ (Lit.int k z).wf = true := by
  cases n with
  | zero => exact h.elim
  | succ n => simp only [Sh, hu] at h; exact h
theorem sh_str (hu : P.underlying t = some .string) (h : Sh P B n t row) : ∃ s, row = [.v (.string s)] ∧ s.size ≤ B := by
  cases n with
  | zero => exact h.elim
  | succ n => simp only [Sh, hu] at h; exact h
theorem sh_slice {e k : Nat} (hu : P.underlying t = some (.slice e)) (hk : P.cellsOf e = k) (h : Sh P B n t row) : ∃ m rows, n = m + 1 ∧ row = [.sl k rows] ∧ rows.length ≤ B ∧ ∀ r ∈ rows, Sh P B m e r := by
  cases n with
  | zero => exact h.elim
  | succ n => simp only [Sh, hu] at h; subst hk; obtain ⟨rows, h1, h2, h3⟩ := h; exact ⟨n, rows, rfl, h1, h2, h3⟩
theorem sh_struct {fs : Array Field} (hu : P.underlying t = some (.struct fs)) (h : Sh P B n t row) : ∃ m, n = m + 1 ∧ ShF (Sh P B m) fs.toList row := by
  cases n with
  | zero => exact h.elim
  | succ n => simp only [Sh, hu] at h; exact ⟨n, rfl, h⟩
end
mutual
def TNode.ok (B : Nat) : TNode → Prop
  | ⟨vKind, vText, vN, vAt, vKids⟩ => (Lit.int .i64 vKind).wf = true ∧ vText.length ≤ B ∧ (Lit.int .i64 vN).wf = true ∧ (Lit.int .i64 vAt).wf = true ∧ (vKids.length ≤ B ∧ TNode.oks B vKids)
def TNode.oks (B : Nat) : List TNode → Prop
  | [] => True
  | x :: r => TNode.ok B x ∧ TNode.oks B r
end
theorem TNode.oks_of {B : Nat} : ∀ {l : List TNode}, (∀ x ∈ l, TNode.ok B x) → TNode.oks B l
  | [], _ => trivial
  | x :: r, h => ⟨h x (by simp), TNode.oks_of fun y hy => h y (by simp [hy])⟩
theorem TNode.oks_mem {B : Nat} : ∀ {l : List TNode} {x : TNode}, TNode.oks B l → x ∈ l → TNode.ok B x
  | y :: r, x, h, hx => by
    rcases List.mem_cons.1 hx with rfl | hx
    · exact h.1
    · exact TNode.oks_mem h.2 hx
theorem TNode.ok_iff {B : Nat} (x : TNode) : TNode.ok B x ↔ ((Lit.int .i64 x.Kind).wf = true ∧ x.Text.length ≤ B ∧ (Lit.int .i64 x.N).wf = true ∧ (Lit.int .i64 x.At).wf = true ∧ (x.Kids.length ≤ B ∧ TNode.oks B x.Kids)) := by cases x; first | rfl | simp only [TNode.ok]
set_option maxRecDepth 100000 in
theorem TNode.sh {B : Nat} : ∀ (n : Nat) (row : List AV), Sh Tryz.prog B n 25 row → ∃ x : TNode, row = TNode.cs x ∧ TNode.ok B x := by
  intro n
  induction n using Nat.strongRecOn with
  | _ n ih =>
    intro row h
    obtain ⟨m, rfl, hh⟩ := sh_struct Tryz.underlying25 h
    simp only [ShF] at hh
    obtain ⟨a0, r0, rfl, h0, a1, r1, rfl, h1, a2, r2, rfl, h2, a3, r3, rfl, h3, a4, r4, rfl, h4, rfl⟩ := hh
    obtain ⟨x0, rfl, o0⟩ := sh_intW (show Tryz.prog.underlying 3 = some (.int .i64) by kernel_rfl) h0
    obtain ⟨⟨⟨x1⟩⟩, rfl, o1⟩ := sh_str (show Tryz.prog.underlying 9 = some (.string) by kernel_rfl) h1
    replace o1 : x1.length ≤ B := o1
    obtain ⟨x2, rfl, o2⟩ := sh_intW (show Tryz.prog.underlying 2 = some (.int .i64) by kernel_rfl) h2
    obtain ⟨x3, rfl, o3⟩ := sh_intW (show Tryz.prog.underlying 3 = some (.int .i64) by kernel_rfl) h3
    obtain ⟨h4m, h4w, h4e, rfl, h4l, h4r⟩ := sh_slice (show Tryz.prog.underlying 23 = some (.slice 25) by kernel_rfl) (show Tryz.prog.cellsOf 25 = 5 by kernel_rfl) h4
    obtain ⟨x4, rfl, o41⟩ := choose_list (f := TNode.cs) (p := fun y => TNode.ok B y) (rows := h4w) (fun r hr => ih h4m (by omega) r (h4r r hr))
    have o4 : (x4.length ≤ B ∧ TNode.oks B x4) := ⟨by simpa using h4l, TNode.oks_of o41⟩
    exact ⟨⟨x0, x1, x2, x3, x4⟩, by first | rfl | simp [TNode.cs, TNode.rows_map], (TNode.ok_iff _).2 ⟨o0, o1, o2, o3, o4⟩⟩
def TRule.ok (B : Nat) (x : TRule) : Prop := (x.If.length ≤ B ∧ ∀ y ∈ x.If, y.length ≤ B) ∧ x.Then.length ≤ B
set_option maxRecDepth 100000 in
theorem TRule.sh {B : Nat} : ∀ (n : Nat) (row : List AV), Sh Tryz.prog B n 117 row → ∃ x : TRule, row = TRule.cs x ∧ TRule.ok B x := by
  intro n
  induction n using Nat.strongRecOn with
  | _ n ih =>
    intro row h
    obtain ⟨m, rfl, hh⟩ := sh_struct Tryz.underlying117 h
    simp only [ShF] at hh
    obtain ⟨a0, r0, rfl, h0, a1, r1, rfl, h1, rfl⟩ := hh
    obtain ⟨h0m, h0w, h0e, rfl, h0l, h0r⟩ := sh_slice (show Tryz.prog.underlying 39 = some (.slice 9) by kernel_rfl) (show Tryz.prog.cellsOf 9 = 1 by kernel_rfl) h0
    obtain ⟨x0, rfl, o01⟩ := choose_list (f := (fun x : List UInt8 => [AV.v (.string ⟨⟨x⟩⟩)])) (p := fun y => y.length ≤ B) (rows := h0w) (fun r hr => by obtain ⟨⟨⟨b⟩⟩, e, e2⟩ := sh_str (show Tryz.prog.underlying 9 = some (.string) by kernel_rfl) (h0r r hr); exact ⟨b, e, e2⟩)
    have o0 : (x0.length ≤ B ∧ ∀ y ∈ x0, y.length ≤ B) := ⟨by simpa using h0l, o01⟩
    obtain ⟨⟨⟨x1⟩⟩, rfl, o1⟩ := sh_str (show Tryz.prog.underlying 9 = some (.string) by kernel_rfl) h1
    replace o1 : x1.length ≤ B := o1
    exact ⟨⟨x0, x1⟩, by first | rfl | simp [TRule.cs, rowsS], ⟨o0, o1⟩⟩
mutual
def TLattice.ok (B : Nat) : TLattice → Prop
  | ⟨vKind, vLo, vHi, vNames, vParts, vRules⟩ => (Lit.int .i64 vKind).wf = true ∧ (Lit.int .i64 vLo).wf = true ∧ (Lit.int .i64 vHi).wf = true ∧ (vNames.length ≤ B ∧ ∀ y ∈ vNames, y.length ≤ B) ∧ (vParts.length ≤ B ∧ TLattice.oks B vParts) ∧ (vRules.length ≤ B ∧ ∀ y ∈ vRules, TRule.ok B y)
def TLattice.oks (B : Nat) : List TLattice → Prop
  | [] => True
  | x :: r => TLattice.ok B x ∧ TLattice.oks B r
end
theorem TLattice.oks_of {B : Nat} : ∀ {l : List TLattice}, (∀ x ∈ l, TLattice.ok B x) → TLattice.oks B l
  | [], _ => trivial
  | x :: r, h => ⟨h x (by simp), TLattice.oks_of fun y hy => h y (by simp [hy])⟩
theorem TLattice.oks_mem {B : Nat} : ∀ {l : List TLattice} {x : TLattice}, TLattice.oks B l → x ∈ l → TLattice.ok B x
  | y :: r, x, h, hx => by
    rcases List.mem_cons.1 hx with rfl | hx
    · exact h.1
    · exact TLattice.oks_mem h.2 hx
theorem TLattice.ok_iff {B : Nat} (x : TLattice) : TLattice.ok B x ↔ ((Lit.int .i64 x.Kind).wf = true ∧ (Lit.int .i64 x.Lo).wf = true ∧ (Lit.int .i64 x.Hi).wf = true ∧ (x.Names.length ≤ B ∧ ∀ y ∈ x.Names, y.length ≤ B) ∧ (x.Parts.length ≤ B ∧ TLattice.oks B x.Parts) ∧ (x.Rules.length ≤ B ∧ ∀ y ∈ x.Rules, TRule.ok B y)) := by cases x; first | rfl | simp only [TLattice.ok]
set_option maxRecDepth 100000 in
theorem TLattice.sh {B : Nat} : ∀ (n : Nat) (row : List AV), Sh Tryz.prog B n 43 row → ∃ x : TLattice, row = TLattice.cs x ∧ TLattice.ok B x := by
  intro n
  induction n using Nat.strongRecOn with
  | _ n ih =>
    intro row h
    obtain ⟨m, rfl, hh⟩ := sh_struct Tryz.underlying43 h
    simp only [ShF] at hh
    obtain ⟨a0, r0, rfl, h0, a1, r1, rfl, h1, a2, r2, rfl, h2, a3, r3, rfl, h3, a4, r4, rfl, h4, a5, r5, rfl, h5, rfl⟩ := hh
    obtain ⟨x0, rfl, o0⟩ := sh_intW (show Tryz.prog.underlying 3 = some (.int .i64) by kernel_rfl) h0
    obtain ⟨x1, rfl, o1⟩ := sh_intW (show Tryz.prog.underlying 2 = some (.int .i64) by kernel_rfl) h1
    obtain ⟨x2, rfl, o2⟩ := sh_intW (show Tryz.prog.underlying 2 = some (.int .i64) by kernel_rfl) h2
    obtain ⟨h3m, h3w, h3e, rfl, h3l, h3r⟩ := sh_slice (show Tryz.prog.underlying 39 = some (.slice 9) by kernel_rfl) (show Tryz.prog.cellsOf 9 = 1 by kernel_rfl) h3
    obtain ⟨x3, rfl, o31⟩ := choose_list (f := (fun x : List UInt8 => [AV.v (.string ⟨⟨x⟩⟩)])) (p := fun y => y.length ≤ B) (rows := h3w) (fun r hr => by obtain ⟨⟨⟨b⟩⟩, e, e2⟩ := sh_str (show Tryz.prog.underlying 9 = some (.string) by kernel_rfl) (h3r r hr); exact ⟨b, e, e2⟩)
    have o3 : (x3.length ≤ B ∧ ∀ y ∈ x3, y.length ≤ B) := ⟨by simpa using h3l, o31⟩
    obtain ⟨h4m, h4w, h4e, rfl, h4l, h4r⟩ := sh_slice (show Tryz.prog.underlying 40 = some (.slice 43) by kernel_rfl) (show Tryz.prog.cellsOf 43 = 6 by kernel_rfl) h4
    obtain ⟨x4, rfl, o41⟩ := choose_list (f := TLattice.cs) (p := fun y => TLattice.ok B y) (rows := h4w) (fun r hr => ih h4m (by omega) r (h4r r hr))
    have o4 : (x4.length ≤ B ∧ TLattice.oks B x4) := ⟨by simpa using h4l, TLattice.oks_of o41⟩
    obtain ⟨h5m, h5w, h5e, rfl, h5l, h5r⟩ := sh_slice (show Tryz.prog.underlying 41 = some (.slice 117) by kernel_rfl) (show Tryz.prog.cellsOf 117 = 2 by kernel_rfl) h5
    obtain ⟨x5, rfl, o51⟩ := choose_list (f := TRule.cs) (p := fun y => TRule.ok B y) (rows := h5w) (fun r hr => TRule.sh _ _ (h5r r hr))
    have o5 : (x5.length ≤ B ∧ ∀ y ∈ x5, TRule.ok B y) := ⟨by simpa using h5l, o51⟩
    exact ⟨⟨x0, x1, x2, x3, x4, x5⟩, by first | rfl | simp [TLattice.cs, rowsS, TLattice.rows_map, TRule.rows_map], (TLattice.ok_iff _).2 ⟨o0, o1, o2, o3, o4, o5⟩⟩
def TObject.ok (B : Nat) (x : TObject) : Prop := x.Name.length ≤ B ∧ TLattice.ok B x.Lattice
set_option maxRecDepth 100000 in
theorem TObject.sh {B : Nat} : ∀ (n : Nat) (row : List AV), Sh Tryz.prog B n 62 row → ∃ x : TObject, row = TObject.cs x ∧ TObject.ok B x := by
  intro n
  induction n using Nat.strongRecOn with
  | _ n ih =>
    intro row h
    obtain ⟨m, rfl, hh⟩ := sh_struct Tryz.underlying62 h
    simp only [ShF] at hh
    obtain ⟨a0, r0, rfl, h0, a1, r1, rfl, h1, rfl⟩ := hh
    obtain ⟨⟨⟨x0⟩⟩, rfl, o0⟩ := sh_str (show Tryz.prog.underlying 9 = some (.string) by kernel_rfl) h0
    replace o0 : x0.length ≤ B := o0
    obtain ⟨x1, rfl, o1⟩ := TLattice.sh _ _ h1
    exact ⟨⟨x0, x1⟩, by first | rfl | simp [TObject.cs, TLattice.cs], ⟨o0, o1⟩⟩
def TParam.ok (B : Nat) (x : TParam) : Prop := x.Name.length ≤ B ∧ (Lit.int .i64 x.Sort_).wf = true
set_option maxRecDepth 100000 in
theorem TParam.sh {B : Nat} : ∀ (n : Nat) (row : List AV), Sh Tryz.prog B n 89 row → ∃ x : TParam, row = TParam.cs x ∧ TParam.ok B x := by
  intro n
  induction n using Nat.strongRecOn with
  | _ n ih =>
    intro row h
    obtain ⟨m, rfl, hh⟩ := sh_struct Tryz.underlying89 h
    simp only [ShF] at hh
    obtain ⟨a0, r0, rfl, h0, a1, r1, rfl, h1, rfl⟩ := hh
    obtain ⟨⟨⟨x0⟩⟩, rfl, o0⟩ := sh_str (show Tryz.prog.underlying 9 = some (.string) by kernel_rfl) h0
    replace o0 : x0.length ≤ B := o0
    obtain ⟨x1, rfl, o1⟩ := sh_intW (show Tryz.prog.underlying 3 = some (.int .i64) by kernel_rfl) h1
    exact ⟨⟨x0, x1⟩, by first | rfl | simp [TParam.cs], ⟨o0, o1⟩⟩
def TType.ok (B : Nat) (x : TType) : Prop := (Lit.int .i64 x.Sort_).wf = true ∧ TLattice.ok B x.Lattice
set_option maxRecDepth 100000 in
theorem TType.sh {B : Nat} : ∀ (n : Nat) (row : List AV), Sh Tryz.prog B n 46 row → ∃ x : TType, row = TType.cs x ∧ TType.ok B x := by
  intro n
  induction n using Nat.strongRecOn with
  | _ n ih =>
    intro row h
    obtain ⟨m, rfl, hh⟩ := sh_struct Tryz.underlying46 h
    simp only [ShF] at hh
    obtain ⟨a0, r0, rfl, h0, a1, r1, rfl, h1, rfl⟩ := hh
    obtain ⟨x0, rfl, o0⟩ := sh_intW (show Tryz.prog.underlying 3 = some (.int .i64) by kernel_rfl) h0
    obtain ⟨x1, rfl, o1⟩ := TLattice.sh _ _ h1
    exact ⟨⟨x0, x1⟩, by first | rfl | simp [TType.cs, TLattice.cs], ⟨o0, o1⟩⟩
mutual
def TExpr.ok (B : Nat) : TExpr → Prop
  | ⟨vOp, vType_, vN, vText, vAt, vKids⟩ => (Lit.int .i64 vOp).wf = true ∧ TType.ok B vType_ ∧ (Lit.int .i64 vN).wf = true ∧ vText.length ≤ B ∧ (Lit.int .i64 vAt).wf = true ∧ (vKids.length ≤ B ∧ TExpr.oks B vKids)
def TExpr.oks (B : Nat) : List TExpr → Prop
  | [] => True
  | x :: r => TExpr.ok B x ∧ TExpr.oks B r
end
theorem TExpr.oks_of {B : Nat} : ∀ {l : List TExpr}, (∀ x ∈ l, TExpr.ok B x) → TExpr.oks B l
  | [], _ => trivial
  | x :: r, h => ⟨h x (by simp), TExpr.oks_of fun y hy => h y (by simp [hy])⟩
theorem TExpr.oks_mem {B : Nat} : ∀ {l : List TExpr} {x : TExpr}, TExpr.oks B l → x ∈ l → TExpr.ok B x
  | y :: r, x, h, hx => by
    rcases List.mem_cons.1 hx with rfl | hx
    · exact h.1
    · exact TExpr.oks_mem h.2 hx
theorem TExpr.ok_iff {B : Nat} (x : TExpr) : TExpr.ok B x ↔ ((Lit.int .i64 x.Op).wf = true ∧ TType.ok B x.Type_ ∧ (Lit.int .i64 x.N).wf = true ∧ x.Text.length ≤ B ∧ (Lit.int .i64 x.At).wf = true ∧ (x.Kids.length ≤ B ∧ TExpr.oks B x.Kids)) := by cases x; first | rfl | simp only [TExpr.ok]
set_option maxRecDepth 100000 in
theorem TExpr.sh {B : Nat} : ∀ (n : Nat) (row : List AV), Sh Tryz.prog B n 52 row → ∃ x : TExpr, row = TExpr.cs x ∧ TExpr.ok B x := by
  intro n
  induction n using Nat.strongRecOn with
  | _ n ih =>
    intro row h
    obtain ⟨m, rfl, hh⟩ := sh_struct Tryz.underlying52 h
    simp only [ShF] at hh
    obtain ⟨a0, r0, rfl, h0, a1, r1, rfl, h1, a2, r2, rfl, h2, a3, r3, rfl, h3, a4, r4, rfl, h4, a5, r5, rfl, h5, rfl⟩ := hh
    obtain ⟨x0, rfl, o0⟩ := sh_intW (show Tryz.prog.underlying 3 = some (.int .i64) by kernel_rfl) h0
    obtain ⟨x1, rfl, o1⟩ := TType.sh _ _ h1
    obtain ⟨x2, rfl, o2⟩ := sh_intW (show Tryz.prog.underlying 2 = some (.int .i64) by kernel_rfl) h2
    obtain ⟨⟨⟨x3⟩⟩, rfl, o3⟩ := sh_str (show Tryz.prog.underlying 9 = some (.string) by kernel_rfl) h3
    replace o3 : x3.length ≤ B := o3
    obtain ⟨x4, rfl, o4⟩ := sh_intW (show Tryz.prog.underlying 3 = some (.int .i64) by kernel_rfl) h4
    obtain ⟨h5m, h5w, h5e, rfl, h5l, h5r⟩ := sh_slice (show Tryz.prog.underlying 50 = some (.slice 52) by kernel_rfl) (show Tryz.prog.cellsOf 52 = 12 by kernel_rfl) h5
    obtain ⟨x5, rfl, o51⟩ := choose_list (f := TExpr.cs) (p := fun y => TExpr.ok B y) (rows := h5w) (fun r hr => ih h5m (by omega) r (h5r r hr))
    have o5 : (x5.length ≤ B ∧ TExpr.oks B x5) := ⟨by simpa using h5l, TExpr.oks_of o51⟩
    exact ⟨⟨x0, x1, x2, x3, x4, x5⟩, by first | rfl | simp [TExpr.cs, TType.cs, TExpr.rows_map], (TExpr.ok_iff _).2 ⟨o0, o1, o2, o3, o4, o5⟩⟩
def TFunction.ok (B : Nat) (x : TFunction) : Prop := x.Name.length ≤ B ∧ x.On.length ≤ B ∧ (x.Params.length ≤ B ∧ ∀ y ∈ x.Params, TParam.ok B y) ∧ (Lit.int .i64 x.Result).wf = true ∧ TExpr.ok B x.Body
set_option maxRecDepth 100000 in
theorem TFunction.sh {B : Nat} : ∀ (n : Nat) (row : List AV), Sh Tryz.prog B n 64 row → ∃ x : TFunction, row = TFunction.cs x ∧ TFunction.ok B x := by
  intro n
  induction n using Nat.strongRecOn with
  | _ n ih =>
    intro row h
    obtain ⟨m, rfl, hh⟩ := sh_struct Tryz.underlying64 h
    simp only [ShF] at hh
    obtain ⟨a0, r0, rfl, h0, a1, r1, rfl, h1, a2, r2, rfl, h2, a3, r3, rfl, h3, a4, r4, rfl, h4, rfl⟩ := hh
    obtain ⟨⟨⟨x0⟩⟩, rfl, o0⟩ := sh_str (show Tryz.prog.underlying 9 = some (.string) by kernel_rfl) h0
    replace o0 : x0.length ≤ B := o0
    obtain ⟨⟨⟨x1⟩⟩, rfl, o1⟩ := sh_str (show Tryz.prog.underlying 9 = some (.string) by kernel_rfl) h1
    replace o1 : x1.length ≤ B := o1
    obtain ⟨h2m, h2w, h2e, rfl, h2l, h2r⟩ := sh_slice (show Tryz.prog.underlying 44 = some (.slice 89) by kernel_rfl) (show Tryz.prog.cellsOf 89 = 2 by kernel_rfl) h2
    obtain ⟨x2, rfl, o21⟩ := choose_list (f := TParam.cs) (p := fun y => TParam.ok B y) (rows := h2w) (fun r hr => TParam.sh _ _ (h2r r hr))
    have o2 : (x2.length ≤ B ∧ ∀ y ∈ x2, TParam.ok B y) := ⟨by simpa using h2l, o21⟩
    obtain ⟨x3, rfl, o3⟩ := sh_intW (show Tryz.prog.underlying 3 = some (.int .i64) by kernel_rfl) h3
    obtain ⟨x4, rfl, o4⟩ := TExpr.sh _ _ h4
    exact ⟨⟨x0, x1, x2, x3, x4⟩, by first | rfl | simp [TFunction.cs, TParam.rows_map, TExpr.cs], ⟨o0, o1, o2, o3, o4⟩⟩
def TProgram.ok (B : Nat) (x : TProgram) : Prop := (x.Objects.length ≤ B ∧ ∀ y ∈ x.Objects, TObject.ok B y) ∧ (x.Updates.length ≤ B ∧ ∀ y ∈ x.Updates, TFunction.ok B y) ∧ (x.Queries.length ≤ B ∧ ∀ y ∈ x.Queries, TFunction.ok B y)
set_option maxRecDepth 100000 in
theorem TProgram.sh {B : Nat} : ∀ (n : Nat) (row : List AV), Sh Tryz.prog B n 34 row → ∃ x : TProgram, row = TProgram.cs x ∧ TProgram.ok B x := by
  intro n
  induction n using Nat.strongRecOn with
  | _ n ih =>
    intro row h
    obtain ⟨m, rfl, hh⟩ := sh_struct Tryz.underlying34 h
    simp only [ShF] at hh
    obtain ⟨a0, r0, rfl, h0, a1, r1, rfl, h1, a2, r2, rfl, h2, rfl⟩ := hh
    obtain ⟨h0m, h0w, h0e, rfl, h0l, h0r⟩ := sh_slice (show Tryz.prog.underlying 31 = some (.slice 62) by kernel_rfl) (show Tryz.prog.cellsOf 62 = 7 by kernel_rfl) h0
    obtain ⟨x0, rfl, o01⟩ := choose_list (f := TObject.cs) (p := fun y => TObject.ok B y) (rows := h0w) (fun r hr => TObject.sh _ _ (h0r r hr))
    have o0 : (x0.length ≤ B ∧ ∀ y ∈ x0, TObject.ok B y) := ⟨by simpa using h0l, o01⟩
    obtain ⟨h1m, h1w, h1e, rfl, h1l, h1r⟩ := sh_slice (show Tryz.prog.underlying 32 = some (.slice 64) by kernel_rfl) (show Tryz.prog.cellsOf 64 = 16 by kernel_rfl) h1
    obtain ⟨x1, rfl, o11⟩ := choose_list (f := TFunction.cs) (p := fun y => TFunction.ok B y) (rows := h1w) (fun r hr => TFunction.sh _ _ (h1r r hr))
    have o1 : (x1.length ≤ B ∧ ∀ y ∈ x1, TFunction.ok B y) := ⟨by simpa using h1l, o11⟩
    obtain ⟨h2m, h2w, h2e, rfl, h2l, h2r⟩ := sh_slice (show Tryz.prog.underlying 32 = some (.slice 64) by kernel_rfl) (show Tryz.prog.cellsOf 64 = 16 by kernel_rfl) h2
    obtain ⟨x2, rfl, o21⟩ := choose_list (f := TFunction.cs) (p := fun y => TFunction.ok B y) (rows := h2w) (fun r hr => TFunction.sh _ _ (h2r r hr))
    have o2 : (x2.length ≤ B ∧ ∀ y ∈ x2, TFunction.ok B y) := ⟨by simpa using h2l, o21⟩
    exact ⟨⟨x0, x1, x2⟩, by first | rfl | simp [TProgram.cs, TObject.rows_map, TFunction.rows_map], ⟨o0, o1, o2⟩⟩
section
def shapesB (P : Program) (t : Nat) : Bool := match P.underlying t with
  | some (.struct fs) => contigB P 0 fs.toList (P.cellsOf t) && fs.toList.all fun f => Nat.blt f.type P.types.size
  | some (.slice e) => Nat.ble 1 (P.cellsOf e) && Nat.blt e P.types.size
  | _ => true
theorem shapes_all : (List.range Tryz.prog.types.size).all (shapesB Tryz.prog) = true := by kernel_rfl
theorem contig_all : ∀ t fs, t < Tryz.prog.types.size → Tryz.prog.underlying t = some (.struct fs) → contigB Tryz.prog 0 fs.toList (Tryz.prog.cellsOf t) = true ∧ (fs.toList.all fun f => Nat.blt f.type Tryz.prog.types.size) = true := by
  intro t fs ht h
  have := List.all_eq_true.1 shapes_all t (List.mem_range.2 ht)
  simpa only [shapesB, h, Bool.and_eq_true] using this
theorem slices_all : ∀ t e, t < Tryz.prog.types.size → Tryz.prog.underlying t = some (.slice e) → 1 ≤ Tryz.prog.cellsOf e ∧ e < Tryz.prog.types.size := by
  intro t e ht h
  have := List.all_eq_true.1 shapes_all t (List.mem_range.2 ht)
  simp only [shapesB, h, Bool.and_eq_true, Nat.blt_eq] at this
  exact ⟨Nat.le_of_ble_eq_true this.1, this.2⟩
end
end Go.Proofs.YtdmkbllocddkaaaGreat
