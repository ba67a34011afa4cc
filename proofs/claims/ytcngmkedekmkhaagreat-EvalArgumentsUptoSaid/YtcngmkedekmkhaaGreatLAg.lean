/-
  Own work. EvalArguments: for all argument trees.
-/
import Derived.Test.YtcngmkedekmkhaaGreatCd
import Derived.Test.YtcngmkedekmkhaaGreatEr
import Derived.Test.YtcngmkedekmkhaaGreatAg
namespace Go.Proofs.YtcngmkedekmkhaaGreat
open Go Go.Bw

theorem evalArguments_spec (ps : List Pa) (ds : List Da) (hd : ds.length ≤ 1099511627776) (ho : Da.okL ds) : Pure env.toCx 3 [paramsC ps, dataC ds] (.ret (boolC true)) := by
  have h0 := awake19
  have h1 := few_spec ds hd
  have h2 := args_spec ps ds hd ho
  have h3 := refArgs_spec ps ds hd ho
  generalize argsS ps ds = z at *
  generalize fewS ds = y at *
  refine Pure.walk (E := env) Tryz.func3 rfl (by kernel_rfl) (rs := _) rfl Tryz.ntmps3 rfl ?_
  refine dx_stuck mixed 400 rfl (by exact trivial) ?_
  refine DWP.pure h0 rfl rfl rfl ?_
  (repeat (first | refine dx_condT mixed 400 rfl (by exact trivial) ?_ | refine dx_condF mixed 400 rfl (by exact trivial) ?_))
  refine dx_stuck mixed 400 rfl (by exact trivial) ?_
  refine DWP.pure h1 rfl rfl rfl ?_
  repeat' (first | refine dx_condT mixed 400 rfl (by exact trivial) ?_ | refine dx_condF mixed 400 rfl (by exact trivial) ?_ | (refine dx_cond mixed 400 rfl (by exact trivial) ?_ ?_ <;> intro _))
  all_goals first | (refine dx_fin mixed 400 rfl (by exact trivial) ?_; exact RD.ret1 rfl rfl rfl) | skip
  all_goals (refine dx_stuck mixed 400 rfl (by exact trivial) ?_; refine DWP.pure h2 rfl rfl rfl ?_; refine dx_stuck mixed 400 rfl (by exact trivial) ?_; refine DWP.pure h3 rfl rfl rfl ?_; refine dx_fin mixed 400 rfl (by exact trivial) ?_; exact RD.ret1 rfl rfl (by simp))

section
variable {B n : Nat} {row : List AV}
theorem cells42 : Tryz.prog.cellsOf 42 = 4 := by kernel_rfl

theorem sh_namesB (h : Sh Tryz.prog B n 29 row) : ∃ l : List ByteArray, row = [namesC l] ∧ l.length ≤ B := by
  obtain ⟨m, rows, rfl, rfl, hB, h⟩ := sh_slice (show Tryz.prog.underlying 29 = some (.slice 9) by kernel_rfl) cells9 h
  obtain ⟨xs, rfl, _⟩ := choose_list (f := fun s => [strC s]) (p := fun _ => True) (rows := rows) (fun r hr => by obtain ⟨s, e, _⟩ := sh_str Tryz.underlying9 (h r hr); exact ⟨s, e, trivial⟩)
  exact ⟨xs, rfl, by simpa using hB⟩

theorem sh_da (h : Sh Tryz.prog B n 42 row) : ∃ d : Da, row = d.row ∧ d.names.length ≤ B := by
  obtain ⟨m, rfl, hh⟩ := sh_struct Tryz.underlying42 h
  simp only [ShF] at hh
  obtain ⟨a0, _, rfl, h0, a1, _, rfl, h1, a2, _, rfl, h2, a3, _, rfl, h3, rfl⟩ := hh
  obtain ⟨s, rfl⟩ := sh_int Tryz.underlying3 h0
  obtain ⟨nn, rfl⟩ := sh_int Tryz.underlying2 h1
  obtain ⟨nm, rfl, _⟩ := sh_str Tryz.underlying9 h2
  obtain ⟨ns, rfl, hB⟩ := sh_namesB h3
  exact ⟨⟨s, nn, nm, ns⟩, rfl, hB⟩

theorem sh_pa (h : Sh Tryz.prog B n 64 row) : ∃ p : Pa, row = p.row := by
  obtain ⟨m, rfl, hh⟩ := sh_struct Tryz.underlying64 h
  simp only [ShF] at hh
  obtain ⟨a0, _, rfl, h0, a1, _, rfl, h1, rfl⟩ := hh
  obtain ⟨nm, rfl, _⟩ := sh_str Tryz.underlying9 h0
  obtain ⟨s, rfl⟩ := sh_int Tryz.underlying3 h1
  exact ⟨⟨nm, s⟩, rfl⟩

theorem sh_params (h : Sh Tryz.prog B n 22 row) : ∃ l : List Pa, row = [paramsC l] ∧ l.length ≤ B := by
  obtain ⟨m, rows, rfl, rfl, hB, h⟩ := sh_slice (show Tryz.prog.underlying 22 = some (.slice 64) by kernel_rfl) cells64 h
  obtain ⟨xs, rfl, _⟩ := choose_list (f := Pa.row) (p := fun _ => True) (rows := rows) (fun r hr => by obtain ⟨s, e⟩ := sh_pa (h r hr); exact ⟨s, e, trivial⟩)
  exact ⟨xs, rfl, by simpa using hB⟩

theorem sh_data (h : Sh Tryz.prog B n 23 row) : ∃ l : List Da, row = [dataC l] ∧ l.length ≤ B ∧ ∀ d ∈ l, d.names.length ≤ B := by
  obtain ⟨m, rows, rfl, rfl, hB, h⟩ := sh_slice (show Tryz.prog.underlying 23 = some (.slice 42) by kernel_rfl) cells42 h
  obtain ⟨xs, rfl, hx⟩ := choose_list (f := Da.row) (p := fun d => d.names.length ≤ B) (rows := rows) (fun r hr => by obtain ⟨s, e, he⟩ := sh_da (h r hr); exact ⟨s, e, he⟩)
  exact ⟨xs, rfl, by simpa using hB, hx⟩
end

set_option maxRecDepth 100000 in
theorem law_EvalArguments (xs : List AV) (h : ArgShs Tryz.prog 1048576 Tryz.f3.params.toList xs) : Bw.Pure env.toCx 3 xs (.ret (boolC true)) := by
  rw [Tryz.params3] at h
  obtain ⟨x, r, rfl, hx, x2, r2, rfl, hx2, hr⟩ := h
  simp only [ArgShs] at hr
  subst hr
  simp only [ArgSh, show Tryz.prog.underlying 22 = some (.slice 64) by kernel_rfl] at hx
  simp only [ArgSh, show Tryz.prog.underlying 23 = some (.slice 42) by kernel_rfl] at hx2
  obtain ⟨n, hx⟩ := hx
  obtain ⟨n2, hx2⟩ := hx2
  obtain ⟨ps, e1, hp⟩ := sh_params hx
  obtain ⟨ds, e2, hd, ho⟩ := sh_data hx2
  simp only [List.cons.injEq, and_true] at e1 e2
  subst e1; subst e2
  exact evalArguments_spec ps ds (by omega) (fun d hd => by have := ho d hd; omega)
end Go.Proofs.YtcngmkedekmkhaaGreat
