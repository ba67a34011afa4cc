/-
  Own work. The trees of layer 20's arguments: lattices, expressions, functions.
-/
import Derived.Test.YtcngmkedekmkhaaGreatRd
namespace Go.Proofs.YtcngmkedekmkhaaGreat
open Go Go.Bw

theorem choose_list {α β : Type} {f : α → β} {p : α → Prop} : ∀ {rows : List β}, (∀ r ∈ rows, ∃ x, r = f x ∧ p x) → ∃ xs : List α, rows = xs.map f ∧ ∀ x ∈ xs, p x
  | [], _ => ⟨[], rfl, by simp⟩
  | r :: rows, h => by
    obtain ⟨x, rfl, hx⟩ := h r (by simp)
    obtain ⟨xs, rfl, hxs⟩ := choose_list (rows := rows) (fun r hr => h r (by simp [hr]))
    exact ⟨x :: xs, rfl, by simpa using ⟨hx, hxs⟩⟩

section
variable {P : Program} {B n : Nat} {t : TypeId} {row : List AV}
theorem sh_int {k : IntKind} (hu : P.underlying t = some (.int k)) (h : Sh P B n t row) : ∃ z, row = [.v (.int k z)] := by
  cases n with
  | zero => exact h.elim
  | succ n => simp only [Sh, hu] at h; obtain ⟨z, h, _⟩ := h; exact ⟨z, h⟩
theorem sh_str (hu : P.underlying t = some .string) (h : Sh P B n t row) : ∃ s, row = [.v (.string s)] ∧ s.size ≤ B := by
  cases n with
  | zero => exact h.elim
  | succ n => simp only [Sh, hu] at h; exact h
theorem sh_bool (hu : P.underlying t = some .bool) (h : Sh P B n t row) : ∃ b, row = [.v (.bool b)] := by
  cases n with
  | zero => exact h.elim
  | succ n => simp only [Sh, hu] at h; exact h
theorem sh_slice {e k : Nat} (hu : P.underlying t = some (.slice e)) (hk : P.cellsOf e = k) (h : Sh P B n t row) : ∃ m rows, n = m + 1 ∧ row = [.sl k rows] ∧ rows.length ≤ B ∧ ∀ r ∈ rows, Sh P B m e r := by
  cases n with
  | zero => exact h.elim
  | succ n => simp only [Sh, hu] at h; subst hk; obtain ⟨rows, h1, h2, h3⟩ := h; exact ⟨n, rows, rfl, h1, h2, h3⟩
theorem sh_struct {fs : Array Field} (hu : P.underlying t = some (.struct fs)) (h : Sh P B n t row) : ∃ m, n = m + 1 ∧ ShF (Sh P B m) fs.toList row := by
  cases n with
  | zero => exact h.elim
  | succ n => simp only [Sh, hu] at h; exact ⟨n, rfl, h⟩
end

section
variable {B n : Nat} {row : List AV}
theorem cells9 : Tryz.prog.cellsOf 9 = 1 := by kernel_rfl
theorem cells33 : Tryz.prog.cellsOf 33 = 6 := by kernel_rfl
theorem cells273 : Tryz.prog.cellsOf 273 = 2 := by kernel_rfl
theorem cells38 : Tryz.prog.cellsOf 38 = 12 := by kernel_rfl
theorem cells64 : Tryz.prog.cellsOf 64 = 2 := by kernel_rfl

theorem sh_names (h : Sh Tryz.prog B n 29 row) : ∃ l : List ByteArray, row = [namesC l] := by
  obtain ⟨m, rows, rfl, rfl, _, h⟩ := sh_slice (show Tryz.prog.underlying 29 = some (.slice 9) by kernel_rfl) cells9 h
  obtain ⟨xs, rfl, _⟩ := choose_list (f := fun s => [strC s]) (p := fun _ => True) (rows := rows) (fun r hr => by obtain ⟨s, e, _⟩ := sh_str Tryz.underlying9 (h r hr); exact ⟨s, e, trivial⟩)
  exact ⟨xs, rfl⟩

theorem sh_rule (h : Sh Tryz.prog B n 273 row) : ∃ r : Ru, row = [namesC r.ifs, strC r.thn] := by
  obtain ⟨m, rfl, hh⟩ := sh_struct Tryz.underlying273 h
  simp only [ShF] at hh
  obtain ⟨a0, _, rfl, h0, a1, _, rfl, h1, rfl⟩ := hh
  obtain ⟨l, rfl⟩ := sh_names h0
  obtain ⟨s, rfl, _⟩ := sh_str Tryz.underlying9 h1
  exact ⟨⟨l, s⟩, rfl⟩

theorem sh_rules (h : Sh Tryz.prog B n 31 row) : ∃ l : List Ru, row = [rulesC l] := by
  obtain ⟨m, rows, rfl, rfl, _, h⟩ := sh_slice (show Tryz.prog.underlying 31 = some (.slice 273) by kernel_rfl) cells273 h
  obtain ⟨xs, rfl, _⟩ := choose_list (f := fun r : Ru => [namesC r.ifs, strC r.thn]) (p := fun _ => True) (rows := rows) (fun r hr => by obtain ⟨s, e⟩ := sh_rule (h r hr); exact ⟨s, e, trivial⟩)
  exact ⟨xs, rfl⟩

set_option maxRecDepth 100000 in
theorem sh_la : ∀ (n : Nat) (row : List AV), Sh Tryz.prog B n 33 row → ∃ l : La, row = La.row l := by
  intro n
  induction n using Nat.strongRecOn with
  | _ n ih =>
    intro row h
    obtain ⟨m, rfl, hh⟩ := sh_struct Tryz.underlying33 h
    simp only [ShF] at hh
    obtain ⟨a0, _, rfl, h0, a1, _, rfl, h1, a2, _, rfl, h2, a3, _, rfl, h3, a4, _, rfl, h4, a5, _, rfl, h5, rfl⟩ := hh
    obtain ⟨k, rfl⟩ := sh_int Tryz.underlying3 h0
    obtain ⟨lo, rfl⟩ := sh_int Tryz.underlying2 h1
    obtain ⟨hi, rfl⟩ := sh_int Tryz.underlying2 h2
    obtain ⟨ns, rfl⟩ := sh_names h3
    obtain ⟨m', rows, rfl, rfl, _, h4⟩ := sh_slice (show Tryz.prog.underlying 30 = some (.slice 33) by kernel_rfl) cells33 h4
    obtain ⟨ps, rfl, _⟩ := choose_list (f := La.row) (p := fun _ => True) (rows := rows) (fun r hr => by obtain ⟨s, e⟩ := ih m' (by omega) r (h4 r hr); exact ⟨s, e, trivial⟩)
    obtain ⟨rs, rfl⟩ := sh_rules h5
    exact ⟨.mk k lo hi ns ps rs, by simp [La.row, La.rows_eq]⟩

set_option maxRecDepth 100000 in
theorem sh_ex (hB : B ≤ 1099511627776) : ∀ (n : Nat) (row : List AV), Sh Tryz.prog B n 38 row → ∃ e : Ex, row = Ex.row e ∧ e.ok := by
  intro n
  induction n using Nat.strongRecOn with
  | _ n ih =>
    intro row h
    obtain ⟨m, rfl, hh⟩ := sh_struct Tryz.underlying38 h
    simp only [ShF] at hh
    obtain ⟨a0, _, rfl, h0, a1, _, rfl, h1, a2, _, rfl, h2, a3, _, rfl, h3, a4, _, rfl, h4, a5, _, rfl, h5, rfl⟩ := hh
    obtain ⟨op, rfl⟩ := sh_int Tryz.underlying3 h0
    obtain ⟨m2, rfl, hh1⟩ := sh_struct Tryz.underlying35 h1
    simp only [ShF] at hh1
    obtain ⟨b0, _, rfl, g0, b1, _, rfl, g1, rfl⟩ := hh1
    obtain ⟨so, rfl⟩ := sh_int Tryz.underlying3 g0
    obtain ⟨l, rfl⟩ := sh_la _ _ g1
    obtain ⟨nn, rfl⟩ := sh_int Tryz.underlying2 h2
    obtain ⟨t, rfl, _⟩ := sh_str Tryz.underlying9 h3
    obtain ⟨at_, rfl⟩ := sh_int Tryz.underlying3 h4
    obtain ⟨m', rows, hm', rfl, hlen, h5⟩ := sh_slice (show Tryz.prog.underlying 36 = some (.slice 38) by kernel_rfl) cells38 h5
    obtain ⟨ks, rfl, hks⟩ := choose_list (f := Ex.row) (p := Ex.ok) (rows := rows) (fun r hr => ih m' (by omega) r (h5 r hr))
    have hall : ∀ ks : List Ex, (∀ x ∈ ks, x.ok) → Ex.okL ks := by
      intro ks
      induction ks with
      | nil => intro _; trivial
      | cons x xs ih => intro h; exact ⟨h x (by simp), ih (fun y hy => h y (by simp [hy]))⟩
    refine ⟨.mk op so l nn t at_ ks, by simp [Ex.row, Ex.rows_eq], ?_⟩
    simp only [List.length_map] at hlen
    exact ⟨by omega, hall ks hks⟩

def shapesB (P : Program) (t : Nat) : Bool := match P.underlying t with
  | some (.struct fs) => contigB P 0 fs.toList (P.cellsOf t) && fs.toList.all fun f => Nat.blt f.type P.types.size
  | some (.slice e) => Nat.ble 1 (P.cellsOf e) && Nat.blt e P.types.size
  | _ => true
theorem shapes_all : (List.range Tryz.prog.types.size).all (shapesB Tryz.prog) = true := by kernel_rfl
theorem contig_all : ∀ t fs, t < Tryz.prog.types.size → Tryz.prog.underlying t = some (.struct fs) → contigB Tryz.prog 0 fs.toList (Tryz.prog.cellsOf t) = true ∧ (fs.toList.all fun f => Nat.blt f.type Tryz.prog.types.size) = true := by
  intro t fs ht h
  have := List.all_eq_true.1 shapes_all t (List.mem_range.2 ht)
  simpa only [shapesB, h, Bool.and_eq_true] using this
theorem slices_all : ∀ t e, t < Tryz.prog.types.size → Tryz.prog.underlying t = some (.slice e) → 1 ≤ Tryz.prog.cellsOf e ∧ e < Tryz.prog.types.size := by
  intro t e ht h
  have := List.all_eq_true.1 shapes_all t (List.mem_range.2 ht)
  simp only [shapesB, h, Bool.and_eq_true, Nat.blt_eq] at this
  exact ⟨Nat.le_of_ble_eq_true this.1, this.2⟩
end
end Go.Proofs.YtcngmkedekmkhaaGreat
