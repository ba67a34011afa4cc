/-
  Own work, in part printed by a program. What the reading of an argument comes to, as the program's types as trees; their bounds.
-/
import Derived.Test.YtcngmkedekmkhaaGreatKGk
namespace Go.Proofs.YtcngmkedekmkhaaGreat
open Go Go.Bw
theorem choose_list {α β : Type} {f : α → β} {p : α → Prop} : ∀ {rows : List β}, (∀ r ∈ rows, ∃ x, r = f x ∧ p x) → ∃ xs : List α, rows = xs.map f ∧ ∀ x ∈ xs, p x
  | [], _ => ⟨[], rfl, by simp⟩
  | r :: rows, h => by
    obtain ⟨x, rfl, hx⟩ := h r (by simp)
    obtain ⟨xs, rfl, hxs⟩ := choose_list (rows := rows) (fun r hr => h r (by simp [hr]))
    exact ⟨x :: xs, rfl, by simpa using ⟨hx, hxs⟩⟩
section
variable {P : Program} {B n : Nat} {t : TypeId} {row : List AV}
theorem sh_intW {k : IntKind} (hu : P.underlying t = some (.int k)) (h : Sh P B n t row) : ∃ z, row = [.v (.int k z)] ∧ (Lit.int k z).wf = true := by
  cases n with
  | zero => exact h.elim
  | succ n => simp only [Sh, hu] at h; exact h
theorem sh_str (hu : P.underlying t = some .string) (h : Sh P B n t row) : ∃ s, row = [.v (.string s)] ∧ s.size ≤ B := by
  cases n with
  | zero => exact h.elim
  | succ n => simp only [Sh, hu] at h; exact h
theorem sh_slice {e k : Nat} (hu : P.underlying t = some (.slice e)) (hk : P.cellsOf e = k) (h : Sh P B n t row) : ∃ m rows, n = m + 1 ∧ row = [.sl k rows] ∧ rows.length ≤ B ∧ ∀ r ∈ rows, Sh P B m e r := by
  cases n with
  | zero => exact h.elim
  | succ n => simp only [Sh, hu] at h; subst hk; obtain ⟨rows, h1, h2, h3⟩ := h; exact ⟨n, rows, rfl, h1, h2, h3⟩
theorem sh_struct {fs : Array Field} (hu : P.underlying t = some (.struct fs)) (h : Sh P B n t row) : ∃ m, n = m + 1 ∧ ShF (Sh P B m) fs.toList row := by
  cases n with
  | zero => exact h.elim
  | succ n => simp only [Sh, hu] at h; exact ⟨n, rfl, h⟩
end
def TParam.ok (B : Nat) (x : TParam) : Prop := x.Name.length ≤ B ∧ (Lit.int .i64 x.Sort_).wf = true
set_option maxRecDepth 100000 in
theorem TParam.sh {B : Nat} : ∀ (n : Nat) (row : List AV), Sh Tryz.prog B n 64 row → ∃ x : TParam, row = TParam.cs x ∧ TParam.ok B x := by
  intro n
  induction n using Nat.strongRecOn with
  | _ n ih =>
    intro row h
    obtain ⟨m, rfl, hh⟩ := sh_struct Tryz.underlying64 h
    simp only [ShF] at hh
    obtain ⟨a0, r0, rfl, h0, a1, r1, rfl, h1, rfl⟩ := hh
    obtain ⟨⟨⟨x0⟩⟩, rfl, o0⟩ := sh_str (show Tryz.prog.underlying 9 = some (.string) by kernel_rfl) h0
    replace o0 : x0.length ≤ B := o0
    obtain ⟨x1, rfl, o1⟩ := sh_intW (show Tryz.prog.underlying 3 = some (.int .i64) by kernel_rfl) h1
    exact ⟨⟨x0, x1⟩, by first | rfl | simp [TParam.cs], ⟨o0, o1⟩⟩
def TDatum.ok (B : Nat) (x : TDatum) : Prop := (Lit.int .i64 x.Sort_).wf = true ∧ (Lit.int .i64 x.N).wf = true ∧ x.Name.length ≤ B ∧ (x.Names.length ≤ B ∧ ∀ y ∈ x.Names, y.length ≤ B)
set_option maxRecDepth 100000 in
theorem TDatum.sh {B : Nat} : ∀ (n : Nat) (row : List AV), Sh Tryz.prog B n 42 row → ∃ x : TDatum, row = TDatum.cs x ∧ TDatum.ok B x := by
  intro n
  induction n using Nat.strongRecOn with
  | _ n ih =>
    intro row h
    obtain ⟨m, rfl, hh⟩ := sh_struct Tryz.underlying42 h
    simp only [ShF] at hh
    obtain ⟨a0, r0, rfl, h0, a1, r1, rfl, h1, a2, r2, rfl, h2, a3, r3, rfl, h3, rfl⟩ := hh
    obtain ⟨x0, rfl, o0⟩ := sh_intW (show Tryz.prog.underlying 3 = some (.int .i64) by kernel_rfl) h0
    obtain ⟨x1, rfl, o1⟩ := sh_intW (show Tryz.prog.underlying 2 = some (.int .i64) by kernel_rfl) h1
    obtain ⟨⟨⟨x2⟩⟩, rfl, o2⟩ := sh_str (show Tryz.prog.underlying 9 = some (.string) by kernel_rfl) h2
    replace o2 : x2.length ≤ B := o2
    obtain ⟨h3m, h3w, h3e, rfl, h3l, h3r⟩ := sh_slice (show Tryz.prog.underlying 29 = some (.slice 9) by kernel_rfl) (show Tryz.prog.cellsOf 9 = 1 by kernel_rfl) h3
    obtain ⟨x3, rfl, o31⟩ := choose_list (f := (fun x : List UInt8 => [AV.v (.string ⟨⟨x⟩⟩)])) (p := fun y => y.length ≤ B) (rows := h3w) (fun r hr => by obtain ⟨⟨⟨b⟩⟩, e, e2⟩ := sh_str (show Tryz.prog.underlying 9 = some (.string) by kernel_rfl) (h3r r hr); exact ⟨b, e, e2⟩)
    have o3 : (x3.length ≤ B ∧ ∀ y ∈ x3, y.length ≤ B) := ⟨by simpa using h3l, o31⟩
    exact ⟨⟨x0, x1, x2, x3⟩, by first | rfl | simp [TDatum.cs, rowsS], ⟨o0, o1, o2, o3⟩⟩
def TRule.ok (B : Nat) (x : TRule) : Prop := (x.If.length ≤ B ∧ ∀ y ∈ x.If, y.length ≤ B) ∧ x.Then.length ≤ B
set_option maxRecDepth 100000 in
theorem TRule.sh {B : Nat} : ∀ (n : Nat) (row : List AV), Sh Tryz.prog B n 273 row → ∃ x : TRule, row = TRule.cs x ∧ TRule.ok B x := by
  intro n
  induction n using Nat.strongRecOn with
  | _ n ih =>
    intro row h
    obtain ⟨m, rfl, hh⟩ := sh_struct Tryz.underlying273 h
    simp only [ShF] at hh
    obtain ⟨a0, r0, rfl, h0, a1, r1, rfl, h1, rfl⟩ := hh
    obtain ⟨h0m, h0w, h0e, rfl, h0l, h0r⟩ := sh_slice (show Tryz.prog.underlying 29 = some (.slice 9) by kernel_rfl) (show Tryz.prog.cellsOf 9 = 1 by kernel_rfl) h0
    obtain ⟨x0, rfl, o01⟩ := choose_list (f := (fun x : List UInt8 => [AV.v (.string ⟨⟨x⟩⟩)])) (p := fun y => y.length ≤ B) (rows := h0w) (fun r hr => by obtain ⟨⟨⟨b⟩⟩, e, e2⟩ := sh_str (show Tryz.prog.underlying 9 = some (.string) by kernel_rfl) (h0r r hr); exact ⟨b, e, e2⟩)
    have o0 : (x0.length ≤ B ∧ ∀ y ∈ x0, y.length ≤ B) := ⟨by simpa using h0l, o01⟩
    obtain ⟨⟨⟨x1⟩⟩, rfl, o1⟩ := sh_str (show Tryz.prog.underlying 9 = some (.string) by kernel_rfl) h1
    replace o1 : x1.length ≤ B := o1
    exact ⟨⟨x0, x1⟩, by first | rfl | simp [TRule.cs, rowsS], ⟨o0, o1⟩⟩
mutual
def TLattice.ok (B : Nat) : TLattice → Prop
  | ⟨vKind, vLo, vHi, vNames, vParts, vRules⟩ => (Lit.int .i64 vKind).wf = true ∧ (Lit.int .i64 vLo).wf = true ∧ (Lit.int .i64 vHi).wf = true ∧ (vNames.length ≤ B ∧ ∀ y ∈ vNames, y.length ≤ B) ∧ (vParts.length ≤ B ∧ TLattice.oks B vParts) ∧ (vRules.length ≤ B ∧ ∀ y ∈ vRules, TRule.ok B y)
def TLattice.oks (B : Nat) : List TLattice → Prop
  | [] => True
  | x :: r => TLattice.ok B x ∧ TLattice.oks B r
end
theorem TLattice.oks_of {B : Nat} : ∀ {l : List TLattice}, (∀ x ∈ l, TLattice.ok B x) → TLattice.oks B l
  | [], _ => trivial
  | x :: r, h => ⟨h x (by simp), TLattice.oks_of fun y hy => h y (by simp [hy])⟩
theorem TLattice.ok_iff {B : Nat} (x : TLattice) : TLattice.ok B x ↔ ((Lit.int .i64 x.Kind).wf = true ∧ (Lit.int .i64 x.Lo).wf = true ∧ (Lit.int .i64 x.Hi).wf = true ∧ (x.Names.length ≤ B ∧ ∀ y ∈ x.Names, y.length ≤ B) ∧ (x.Parts.length ≤ B ∧ TLattice.oks B x.Parts) ∧ (x.Rules.length ≤ B ∧ ∀ y ∈ x.Rules, TRule.ok B y)) := by cases x; first | rfl | simp only [TLattice.ok]
set_option maxRecDepth 100000 in
theorem TLattice.sh {B : Nat} : ∀ (n : Nat) (row : List AV), Sh Tryz.prog B n 33 row → ∃ x : TLattice, row = TLattice.cs x ∧ TLattice.ok B x := by
  intro n
  induction n using Nat.strongRecOn with
  | _ n ih =>
    intro row h
    obtain ⟨m, rfl, hh⟩ := sh_struct Tryz.underlying33 h
    simp only [ShF] at hh
    obtain ⟨a0, r0, rfl, h0, a1, r1, rfl, h1, a2, r2, rfl, h2, a3, r3, rfl, h3, a4, r4, rfl, h4, a5, r5, rfl, h5, rfl⟩ := hh
    obtain ⟨x0, rfl, o0⟩ := sh_intW (show Tryz.prog.underlying 3 = some (.int .i64) by kernel_rfl) h0
    obtain ⟨x1, rfl, o1⟩ := sh_intW (show Tryz.prog.underlying 2 = some (.int .i64) by kernel_rfl) h1
    obtain ⟨x2, rfl, o2⟩ := sh_intW (show Tryz.prog.underlying 2 = some (.int .i64) by kernel_rfl) h2
    obtain ⟨h3m, h3w, h3e, rfl, h3l, h3r⟩ := sh_slice (show Tryz.prog.underlying 29 = some (.slice 9) by kernel_rfl) (show Tryz.prog.cellsOf 9 = 1 by kernel_rfl) h3
    obtain ⟨x3, rfl, o31⟩ := choose_list (f := (fun x : List UInt8 => [AV.v (.string ⟨⟨x⟩⟩)])) (p := fun y => y.length ≤ B) (rows := h3w) (fun r hr => by obtain ⟨⟨⟨b⟩⟩, e, e2⟩ := sh_str (show Tryz.prog.underlying 9 = some (.string) by kernel_rfl) (h3r r hr); exact ⟨b, e, e2⟩)
    have o3 : (x3.length ≤ B ∧ ∀ y ∈ x3, y.length ≤ B) := ⟨by simpa using h3l, o31⟩
    obtain ⟨h4m, h4w, h4e, rfl, h4l, h4r⟩ := sh_slice (show Tryz.prog.underlying 30 = some (.slice 33) by kernel_rfl) (show Tryz.prog.cellsOf 33 = 6 by kernel_rfl) h4
    obtain ⟨x4, rfl, o41⟩ := choose_list (f := TLattice.cs) (p := fun y => TLattice.ok B y) (rows := h4w) (fun r hr => ih h4m (by omega) r (h4r r hr))
    have o4 : (x4.length ≤ B ∧ TLattice.oks B x4) := ⟨by simpa using h4l, TLattice.oks_of o41⟩
    obtain ⟨h5m, h5w, h5e, rfl, h5l, h5r⟩ := sh_slice (show Tryz.prog.underlying 31 = some (.slice 273) by kernel_rfl) (show Tryz.prog.cellsOf 273 = 2 by kernel_rfl) h5
    obtain ⟨x5, rfl, o51⟩ := choose_list (f := TRule.cs) (p := fun y => TRule.ok B y) (rows := h5w) (fun r hr => TRule.sh _ _ (h5r r hr))
    have o5 : (x5.length ≤ B ∧ ∀ y ∈ x5, TRule.ok B y) := ⟨by simpa using h5l, o51⟩
    exact ⟨⟨x0, x1, x2, x3, x4, x5⟩, by first | rfl | simp [TLattice.cs, rowsS, TLattice.rows_map, TRule.rows_map], (TLattice.ok_iff _).2 ⟨o0, o1, o2, o3, o4, o5⟩⟩
def TType.ok (B : Nat) (x : TType) : Prop := (Lit.int .i64 x.Sort_).wf = true ∧ TLattice.ok B x.Lattice
set_option maxRecDepth 100000 in
theorem TType.sh {B : Nat} : ∀ (n : Nat) (row : List AV), Sh Tryz.prog B n 35 row → ∃ x : TType, row = TType.cs x ∧ TType.ok B x := by
  intro n
  induction n using Nat.strongRecOn with
  | _ n ih =>
    intro row h
    obtain ⟨m, rfl, hh⟩ := sh_struct Tryz.underlying35 h
    simp only [ShF] at hh
    obtain ⟨a0, r0, rfl, h0, a1, r1, rfl, h1, rfl⟩ := hh
    obtain ⟨x0, rfl, o0⟩ := sh_intW (show Tryz.prog.underlying 3 = some (.int .i64) by kernel_rfl) h0
    obtain ⟨x1, rfl, o1⟩ := TLattice.sh _ _ h1
    exact ⟨⟨x0, x1⟩, by first | rfl | simp [TType.cs, TLattice.cs], ⟨o0, o1⟩⟩
mutual
def TExpr.ok (B : Nat) : TExpr → Prop
  | ⟨vOp, vType_, vN, vText, vAt, vKids⟩ => (Lit.int .i64 vOp).wf = true ∧ TType.ok B vType_ ∧ (Lit.int .i64 vN).wf = true ∧ vText.length ≤ B ∧ (Lit.int .i64 vAt).wf = true ∧ (vKids.length ≤ B ∧ TExpr.oks B vKids)
def TExpr.oks (B : Nat) : List TExpr → Prop
  | [] => True
  | x :: r => TExpr.ok B x ∧ TExpr.oks B r
end
theorem TExpr.oks_of {B : Nat} : ∀ {l : List TExpr}, (∀ x ∈ l, TExpr.ok B x) → TExpr.oks B l
  | [], _ => trivial
  | x :: r, h => ⟨h x (by simp), TExpr.oks_of fun y hy => h y (by simp [hy])⟩
theorem TExpr.ok_iff {B : Nat} (x : TExpr) : TExpr.ok B x ↔ ((Lit.int .i64 x.Op).wf = true ∧ TType.ok B x.Type_ ∧ (Lit.int .i64 x.N).wf = true ∧ x.Text.length ≤ B ∧ (Lit.int .i64 x.At).wf = true ∧ (x.Kids.length ≤ B ∧ TExpr.oks B x.Kids)) := by cases x; first | rfl | simp only [TExpr.ok]
set_option maxRecDepth 100000 in
theorem TExpr.sh {B : Nat} : ∀ (n : Nat) (row : List AV), Sh Tryz.prog B n 38 row → ∃ x : TExpr, row = TExpr.cs x ∧ TExpr.ok B x := by
  intro n
  induction n using Nat.strongRecOn with
  | _ n ih =>
    intro row h
    obtain ⟨m, rfl, hh⟩ := sh_struct Tryz.underlying38 h
    simp only [ShF] at hh
    obtain ⟨a0, r0, rfl, h0, a1, r1, rfl, h1, a2, r2, rfl, h2, a3, r3, rfl, h3, a4, r4, rfl, h4, a5, r5, rfl, h5, rfl⟩ := hh
    obtain ⟨x0, rfl, o0⟩ := sh_intW (show Tryz.prog.underlying 3 = some (.int .i64) by kernel_rfl) h0
    obtain ⟨x1, rfl, o1⟩ := TType.sh _ _ h1
    obtain ⟨x2, rfl, o2⟩ := sh_intW (show Tryz.prog.underlying 2 = some (.int .i64) by kernel_rfl) h2
    obtain ⟨⟨⟨x3⟩⟩, rfl, o3⟩ := sh_str (show Tryz.prog.underlying 9 = some (.string) by kernel_rfl) h3
    replace o3 : x3.length ≤ B := o3
    obtain ⟨x4, rfl, o4⟩ := sh_intW (show Tryz.prog.underlying 3 = some (.int .i64) by kernel_rfl) h4
    obtain ⟨h5m, h5w, h5e, rfl, h5l, h5r⟩ := sh_slice (show Tryz.prog.underlying 36 = some (.slice 38) by kernel_rfl) (show Tryz.prog.cellsOf 38 = 12 by kernel_rfl) h5
    obtain ⟨x5, rfl, o51⟩ := choose_list (f := TExpr.cs) (p := fun y => TExpr.ok B y) (rows := h5w) (fun r hr => ih h5m (by omega) r (h5r r hr))
    have o5 : (x5.length ≤ B ∧ TExpr.oks B x5) := ⟨by simpa using h5l, TExpr.oks_of o51⟩
    exact ⟨⟨x0, x1, x2, x3, x4, x5⟩, by first | rfl | simp [TExpr.cs, TType.cs, TExpr.rows_map], (TExpr.ok_iff _).2 ⟨o0, o1, o2, o3, o4, o5⟩⟩
def TTick.ok (B : Nat) (x : TTick) : Prop := (Lit.int .i64 x.Process).wf = true ∧ (Lit.int .i64 x.N).wf = true
set_option maxRecDepth 100000 in
theorem TTick.sh {B : Nat} : ∀ (n : Nat) (row : List AV), Sh Tryz.prog B n 134 row → ∃ x : TTick, row = TTick.cs x ∧ TTick.ok B x := by
  intro n
  induction n using Nat.strongRecOn with
  | _ n ih =>
    intro row h
    obtain ⟨m, rfl, hh⟩ := sh_struct Tryz.underlying134 h
    simp only [ShF] at hh
    obtain ⟨a0, r0, rfl, h0, a1, r1, rfl, h1, rfl⟩ := hh
    obtain ⟨x0, rfl, o0⟩ := sh_intW (show Tryz.prog.underlying 3 = some (.int .i64) by kernel_rfl) h0
    obtain ⟨x1, rfl, o1⟩ := sh_intW (show Tryz.prog.underlying 2 = some (.int .i64) by kernel_rfl) h1
    exact ⟨⟨x0, x1⟩, by first | rfl | simp [TTick.cs], ⟨o0, o1⟩⟩
def TEntry.ok (B : Nat) (x : TEntry) : Prop := (x.Clock.length ≤ B ∧ ∀ y ∈ x.Clock, TTick.ok B y) ∧ x.Name.length ≤ B
set_option maxRecDepth 100000 in
theorem TEntry.sh {B : Nat} : ∀ (n : Nat) (row : List AV), Sh Tryz.prog B n 131 row → ∃ x : TEntry, row = TEntry.cs x ∧ TEntry.ok B x := by
  intro n
  induction n using Nat.strongRecOn with
  | _ n ih =>
    intro row h
    obtain ⟨m, rfl, hh⟩ := sh_struct Tryz.underlying131 h
    simp only [ShF] at hh
    obtain ⟨a0, r0, rfl, h0, a1, r1, rfl, h1, rfl⟩ := hh
    obtain ⟨h0m, h0w, h0e, rfl, h0l, h0r⟩ := sh_slice (show Tryz.prog.underlying 129 = some (.slice 134) by kernel_rfl) (show Tryz.prog.cellsOf 134 = 2 by kernel_rfl) h0
    obtain ⟨x0, rfl, o01⟩ := choose_list (f := TTick.cs) (p := fun y => TTick.ok B y) (rows := h0w) (fun r hr => TTick.sh _ _ (h0r r hr))
    have o0 : (x0.length ≤ B ∧ ∀ y ∈ x0, TTick.ok B y) := ⟨by simpa using h0l, o01⟩
    obtain ⟨⟨⟨x1⟩⟩, rfl, o1⟩ := sh_str (show Tryz.prog.underlying 9 = some (.string) by kernel_rfl) h1
    replace o1 : x1.length ≤ B := o1
    exact ⟨⟨x0, x1⟩, by first | rfl | simp [TEntry.cs, TTick.rows_map], ⟨o0, o1⟩⟩
mutual
def TValue.ok (B : Nat) : TValue → Prop
  | ⟨vN, vNames, vParts, vEntries⟩ => (Lit.int .i64 vN).wf = true ∧ (vNames.length ≤ B ∧ ∀ y ∈ vNames, y.length ≤ B) ∧ (vParts.length ≤ B ∧ TValue.oks B vParts) ∧ (vEntries.length ≤ B ∧ ∀ y ∈ vEntries, TEntry.ok B y)
def TValue.oks (B : Nat) : List TValue → Prop
  | [] => True
  | x :: r => TValue.ok B x ∧ TValue.oks B r
end
theorem TValue.oks_of {B : Nat} : ∀ {l : List TValue}, (∀ x ∈ l, TValue.ok B x) → TValue.oks B l
  | [], _ => trivial
  | x :: r, h => ⟨h x (by simp), TValue.oks_of fun y hy => h y (by simp [hy])⟩
theorem TValue.ok_iff {B : Nat} (x : TValue) : TValue.ok B x ↔ ((Lit.int .i64 x.N).wf = true ∧ (x.Names.length ≤ B ∧ ∀ y ∈ x.Names, y.length ≤ B) ∧ (x.Parts.length ≤ B ∧ TValue.oks B x.Parts) ∧ (x.Entries.length ≤ B ∧ ∀ y ∈ x.Entries, TEntry.ok B y)) := by cases x; first | rfl | simp only [TValue.ok]
set_option maxRecDepth 100000 in
theorem TValue.sh {B : Nat} : ∀ (n : Nat) (row : List AV), Sh Tryz.prog B n 51 row → ∃ x : TValue, row = TValue.cs x ∧ TValue.ok B x := by
  intro n
  induction n using Nat.strongRecOn with
  | _ n ih =>
    intro row h
    obtain ⟨m, rfl, hh⟩ := sh_struct Tryz.underlying51 h
    simp only [ShF] at hh
    obtain ⟨a0, r0, rfl, h0, a1, r1, rfl, h1, a2, r2, rfl, h2, a3, r3, rfl, h3, rfl⟩ := hh
    obtain ⟨x0, rfl, o0⟩ := sh_intW (show Tryz.prog.underlying 2 = some (.int .i64) by kernel_rfl) h0
    obtain ⟨h1m, h1w, h1e, rfl, h1l, h1r⟩ := sh_slice (show Tryz.prog.underlying 29 = some (.slice 9) by kernel_rfl) (show Tryz.prog.cellsOf 9 = 1 by kernel_rfl) h1
    obtain ⟨x1, rfl, o11⟩ := choose_list (f := (fun x : List UInt8 => [AV.v (.string ⟨⟨x⟩⟩)])) (p := fun y => y.length ≤ B) (rows := h1w) (fun r hr => by obtain ⟨⟨⟨b⟩⟩, e, e2⟩ := sh_str (show Tryz.prog.underlying 9 = some (.string) by kernel_rfl) (h1r r hr); exact ⟨b, e, e2⟩)
    have o1 : (x1.length ≤ B ∧ ∀ y ∈ x1, y.length ≤ B) := ⟨by simpa using h1l, o11⟩
    obtain ⟨h2m, h2w, h2e, rfl, h2l, h2r⟩ := sh_slice (show Tryz.prog.underlying 48 = some (.slice 51) by kernel_rfl) (show Tryz.prog.cellsOf 51 = 4 by kernel_rfl) h2
    obtain ⟨x2, rfl, o21⟩ := choose_list (f := TValue.cs) (p := fun y => TValue.ok B y) (rows := h2w) (fun r hr => ih h2m (by omega) r (h2r r hr))
    have o2 : (x2.length ≤ B ∧ TValue.oks B x2) := ⟨by simpa using h2l, TValue.oks_of o21⟩
    obtain ⟨h3m, h3w, h3e, rfl, h3l, h3r⟩ := sh_slice (show Tryz.prog.underlying 49 = some (.slice 131) by kernel_rfl) (show Tryz.prog.cellsOf 131 = 2 by kernel_rfl) h3
    obtain ⟨x3, rfl, o31⟩ := choose_list (f := TEntry.cs) (p := fun y => TEntry.ok B y) (rows := h3w) (fun r hr => TEntry.sh _ _ (h3r r hr))
    have o3 : (x3.length ≤ B ∧ ∀ y ∈ x3, TEntry.ok B y) := ⟨by simpa using h3l, o31⟩
    exact ⟨⟨x0, x1, x2, x3⟩, by first | rfl | simp [TValue.cs, rowsS, TValue.rows_map, TEntry.rows_map], (TValue.ok_iff _).2 ⟨o0, o1, o2, o3⟩⟩
def TFunction.ok (B : Nat) (x : TFunction) : Prop := x.Name.length ≤ B ∧ x.On.length ≤ B ∧ (x.Params.length ≤ B ∧ ∀ y ∈ x.Params, TParam.ok B y) ∧ (Lit.int .i64 x.Result).wf = true ∧ TExpr.ok B x.Body
set_option maxRecDepth 100000 in
theorem TFunction.sh {B : Nat} : ∀ (n : Nat) (row : List AV), Sh Tryz.prog B n 53 row → ∃ x : TFunction, row = TFunction.cs x ∧ TFunction.ok B x := by
  intro n
  induction n using Nat.strongRecOn with
  | _ n ih =>
    intro row h
    obtain ⟨m, rfl, hh⟩ := sh_struct Tryz.underlying53 h
    simp only [ShF] at hh
    obtain ⟨a0, r0, rfl, h0, a1, r1, rfl, h1, a2, r2, rfl, h2, a3, r3, rfl, h3, a4, r4, rfl, h4, rfl⟩ := hh
    obtain ⟨⟨⟨x0⟩⟩, rfl, o0⟩ := sh_str (show Tryz.prog.underlying 9 = some (.string) by kernel_rfl) h0
    replace o0 : x0.length ≤ B := o0
    obtain ⟨⟨⟨x1⟩⟩, rfl, o1⟩ := sh_str (show Tryz.prog.underlying 9 = some (.string) by kernel_rfl) h1
    replace o1 : x1.length ≤ B := o1
    obtain ⟨h2m, h2w, h2e, rfl, h2l, h2r⟩ := sh_slice (show Tryz.prog.underlying 22 = some (.slice 64) by kernel_rfl) (show Tryz.prog.cellsOf 64 = 2 by kernel_rfl) h2
    obtain ⟨x2, rfl, o21⟩ := choose_list (f := TParam.cs) (p := fun y => TParam.ok B y) (rows := h2w) (fun r hr => TParam.sh _ _ (h2r r hr))
    have o2 : (x2.length ≤ B ∧ ∀ y ∈ x2, TParam.ok B y) := ⟨by simpa using h2l, o21⟩
    obtain ⟨x3, rfl, o3⟩ := sh_intW (show Tryz.prog.underlying 3 = some (.int .i64) by kernel_rfl) h3
    obtain ⟨x4, rfl, o4⟩ := TExpr.sh _ _ h4
    exact ⟨⟨x0, x1, x2, x3, x4⟩, by first | rfl | simp [TFunction.cs, TParam.rows_map, TExpr.cs], ⟨o0, o1, o2, o3, o4⟩⟩
mutual
def TNode.ok (B : Nat) : TNode → Prop
  | ⟨vKind, vText, vN, vAt, vKids⟩ => (Lit.int .i64 vKind).wf = true ∧ vText.length ≤ B ∧ (Lit.int .i64 vN).wf = true ∧ (Lit.int .i64 vAt).wf = true ∧ (vKids.length ≤ B ∧ TNode.oks B vKids)
def TNode.oks (B : Nat) : List TNode → Prop
  | [] => True
  | x :: r => TNode.ok B x ∧ TNode.oks B r
end
theorem TNode.oks_of {B : Nat} : ∀ {l : List TNode}, (∀ x ∈ l, TNode.ok B x) → TNode.oks B l
  | [], _ => trivial
  | x :: r, h => ⟨h x (by simp), TNode.oks_of fun y hy => h y (by simp [hy])⟩
theorem TNode.ok_iff {B : Nat} (x : TNode) : TNode.ok B x ↔ ((Lit.int .i64 x.Kind).wf = true ∧ x.Text.length ≤ B ∧ (Lit.int .i64 x.N).wf = true ∧ (Lit.int .i64 x.At).wf = true ∧ (x.Kids.length ≤ B ∧ TNode.oks B x.Kids)) := by cases x; first | rfl | simp only [TNode.ok]
set_option maxRecDepth 100000 in
theorem TNode.sh {B : Nat} : ∀ (n : Nat) (row : List AV), Sh Tryz.prog B n 97 row → ∃ x : TNode, row = TNode.cs x ∧ TNode.ok B x := by
  intro n
  induction n using Nat.strongRecOn with
  | _ n ih =>
    intro row h
    obtain ⟨m, rfl, hh⟩ := sh_struct Tryz.underlying97 h
    simp only [ShF] at hh
    obtain ⟨a0, r0, rfl, h0, a1, r1, rfl, h1, a2, r2, rfl, h2, a3, r3, rfl, h3, a4, r4, rfl, h4, rfl⟩ := hh
    obtain ⟨x0, rfl, o0⟩ := sh_intW (show Tryz.prog.underlying 3 = some (.int .i64) by kernel_rfl) h0
    obtain ⟨⟨⟨x1⟩⟩, rfl, o1⟩ := sh_str (show Tryz.prog.underlying 9 = some (.string) by kernel_rfl) h1
    replace o1 : x1.length ≤ B := o1
    obtain ⟨x2, rfl, o2⟩ := sh_intW (show Tryz.prog.underlying 2 = some (.int .i64) by kernel_rfl) h2
    obtain ⟨x3, rfl, o3⟩ := sh_intW (show Tryz.prog.underlying 3 = some (.int .i64) by kernel_rfl) h3
    obtain ⟨h4m, h4w, h4e, rfl, h4l, h4r⟩ := sh_slice (show Tryz.prog.underlying 95 = some (.slice 97) by kernel_rfl) (show Tryz.prog.cellsOf 97 = 5 by kernel_rfl) h4
    obtain ⟨x4, rfl, o41⟩ := choose_list (f := TNode.cs) (p := fun y => TNode.ok B y) (rows := h4w) (fun r hr => ih h4m (by omega) r (h4r r hr))
    have o4 : (x4.length ≤ B ∧ TNode.oks B x4) := ⟨by simpa using h4l, TNode.oks_of o41⟩
    exact ⟨⟨x0, x1, x2, x3, x4⟩, by first | rfl | simp [TNode.cs, TNode.rows_map], (TNode.ok_iff _).2 ⟨o0, o1, o2, o3, o4⟩⟩
section
def shapesB (P : Program) (t : Nat) : Bool := match P.underlying t with
  | some (.struct fs) => contigB P 0 fs.toList (P.cellsOf t) && fs.toList.all fun f => Nat.blt f.type P.types.size
  | some (.slice e) => Nat.ble 1 (P.cellsOf e) && Nat.blt e P.types.size
  | _ => true
theorem shapes_all : (List.range Tryz.prog.types.size).all (shapesB Tryz.prog) = true := by kernel_rfl
theorem contig_all : ∀ t fs, t < Tryz.prog.types.size → Tryz.prog.underlying t = some (.struct fs) → contigB Tryz.prog 0 fs.toList (Tryz.prog.cellsOf t) = true ∧ (fs.toList.all fun f => Nat.blt f.type Tryz.prog.types.size) = true := by
  intro t fs ht h
  have := List.all_eq_true.1 shapes_all t (List.mem_range.2 ht)
  simpa only [shapesB, h, Bool.and_eq_true] using this
theorem slices_all : ∀ t e, t < Tryz.prog.types.size → Tryz.prog.underlying t = some (.slice e) → 1 ≤ Tryz.prog.cellsOf e ∧ e < Tryz.prog.types.size := by
  intro t e ht h
  have := List.all_eq_true.1 shapes_all t (List.mem_range.2 ht)
  simp only [shapesB, h, Bool.and_eq_true, Nat.blt_eq] at this
  exact ⟨Nat.le_of_ble_eq_true this.1, this.2⟩
end
end Go.Proofs.YtcngmkedekmkhaaGreat
