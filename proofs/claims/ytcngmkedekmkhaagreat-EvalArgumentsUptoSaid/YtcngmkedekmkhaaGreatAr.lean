/-
  Own work. The test of one argument: the program's and the specification's.
-/
import Derived.Test.YtcngmkedekmkhaaGreatSo
namespace Go.Proofs.YtcngmkedekmkhaaGreat
open Go Go.Bw

structure Da where
  sort : Int
  n : Int
  name : ByteArray
  names : List ByteArray
def Da.row : Da → List AV
  | ⟨s, n, nm, ns⟩ => [intC s, intC n, strC nm, namesC ns]
structure Pa where
  name : ByteArray
  sort : Int
def Pa.row : Pa → List AV
  | ⟨nm, s⟩ => [strC nm, intC s]
def paramsC (l : List Pa) : AV := .sl 2 (l.map Pa.row)
def dataC (l : List Da) : AV := .sl 4 (l.map Da.row)

def argS (sort : Int) (d : Da) : Int :=
  if d.sort != sort then 4
  else if sort = 1 then if !(d.name.data.toList == []) || !d.names.isEmpty then 4 else if decide (d.n < -1000000000000000) || decide (d.n > 1000000000000000) then 5 else 0
  else if sort = 2 then if !(d.name.data.toList == []) || !d.names.isEmpty then 4 else if d.n != 0 && d.n != 1 then 5 else 0
  else if sort = 3 then if !d.names.isEmpty || d.n != 0 then 4 else if validS d.name then 0 else 3
  else if sort = 4 then if !(d.name.data.toList == []) || d.n != 0 then 4 else if sortedS d.names && d.names.all validS then 0 else 3
  else 4

theorem names_cons_pos {n : ByteArray} {l : List ByteArray} : decide ((((n :: l).map fun s => [strC s]).length : Int) > 0) = true := by simp


theorem arg1_nil (ds n : Int) (nm : ByteArray) : Pure env.toCx 29 [intC 1, .agg (Da.row ⟨ds, n, nm, []⟩)] (.ret (intC (argS 1 ⟨ds, n, nm, []⟩))) := by
  refine Pure.walk (E := env) Tryz.func29 rfl (by kernel_rfl) (rs := _) rfl Tryz.ntmps29 rfl ?_
  (repeat (first | refine dx_condT mixed 400 rfl (by exact trivial) ?_ | refine dx_condF mixed 400 rfl (by exact trivial) ?_))
  refine dx_cond mixed 400 rfl (by exact trivial) ?_ ?_ <;> intro h1
  · have h1 : (ds != 1) = true := h1
    (repeat (first | refine dx_condT mixed 400 rfl (by exact trivial) ?_ | refine dx_condF mixed 400 rfl (by exact trivial) ?_))
    refine dx_fin mixed 400 rfl (by exact trivial) ?_
    exact RD.ret1 rfl rfl (by simp only [argS, Bool.or_true, h1] <;> rfl)
  have h1 : (ds != 1) = false := h1
  (repeat (first | refine dx_condT mixed 400 rfl (by exact trivial) ?_ | refine dx_condF mixed 400 rfl (by exact trivial) ?_))
  refine dx_cond mixed 400 rfl (by exact trivial) ?_ ?_ <;> intro h2
  · have h2 : (!(nm.data.toList == [])) = true := h2
    (repeat (first | refine dx_condT mixed 400 rfl (by exact trivial) ?_ | refine dx_condF mixed 400 rfl (by exact trivial) ?_))
    refine dx_fin mixed 400 rfl (by exact trivial) ?_
    exact RD.ret1 rfl rfl (by simp only [argS, Bool.or_true, h1, h2] <;> rfl)
  have h2 : (!(nm.data.toList == [])) = false := h2
  (repeat (first | refine dx_condT mixed 400 rfl (by exact trivial) ?_ | refine dx_condF mixed 400 rfl (by exact trivial) ?_))
  refine dx_cond mixed 400 rfl (by exact trivial) ?_ ?_ <;> intro h4
  · have h4 : decide (n < -1000000000000000) = true := h4
    (repeat (first | refine dx_condT mixed 400 rfl (by exact trivial) ?_ | refine dx_condF mixed 400 rfl (by exact trivial) ?_))
    refine dx_fin mixed 400 rfl (by exact trivial) ?_
    exact RD.ret1 rfl rfl (by simp only [argS, Bool.or_true, h1, h2, h4] <;> rfl)
  have h4 : decide (n < -1000000000000000) = false := h4
  (repeat (first | refine dx_condT mixed 400 rfl (by exact trivial) ?_ | refine dx_condF mixed 400 rfl (by exact trivial) ?_))
  refine dx_cond mixed 400 rfl (by exact trivial) ?_ ?_ <;> intro h5
  · have h5 : decide (n > 1000000000000000) = true := h5
    (repeat (first | refine dx_condT mixed 400 rfl (by exact trivial) ?_ | refine dx_condF mixed 400 rfl (by exact trivial) ?_))
    refine dx_fin mixed 400 rfl (by exact trivial) ?_
    exact RD.ret1 rfl rfl (by simp only [argS, Bool.or_true, h1, h2, h4, h5] <;> rfl)
  have h5 : decide (n > 1000000000000000) = false := h5
  (repeat (first | refine dx_condT mixed 400 rfl (by exact trivial) ?_ | refine dx_condF mixed 400 rfl (by exact trivial) ?_))
  refine dx_fin mixed 400 rfl (by exact trivial) ?_
  exact RD.ret1 rfl rfl (by simp only [argS, Bool.or_true, h1, h2, h4, h5] <;> rfl)

theorem arg1_cons (ds n : Int) (nm : ByteArray) (a : ByteArray) (r : List ByteArray) : Pure env.toCx 29 [intC 1, .agg (Da.row ⟨ds, n, nm, a :: r⟩)] (.ret (intC (argS 1 ⟨ds, n, nm, a :: r⟩))) := by
  have hp := names_cons_pos (n := a) (l := r)
  refine Pure.walk (E := env) Tryz.func29 rfl (by kernel_rfl) (rs := _) rfl Tryz.ntmps29 rfl ?_
  (repeat (first | refine dx_condT mixed 400 rfl (by exact trivial) ?_ | refine dx_condF mixed 400 rfl (by exact trivial) ?_))
  refine dx_cond mixed 400 rfl (by exact trivial) ?_ ?_ <;> intro h1
  · (repeat (first | refine dx_condT mixed 400 rfl (by exact trivial) ?_ | refine dx_condF mixed 400 rfl (by exact trivial) ?_))
    refine dx_fin mixed 400 rfl (by exact trivial) ?_
    exact RD.ret1 rfl rfl (by simp only [argS, Bool.or_true, h1] <;> rfl)
  (repeat (first | refine dx_condT mixed 400 rfl (by exact trivial) ?_ | refine dx_condF mixed 400 rfl (by exact trivial) ?_))
  refine dx_cond mixed 400 rfl (by exact trivial) ?_ ?_ <;> intro h2
  · (repeat (first | refine dx_condT mixed 400 rfl (by exact trivial) ?_ | refine dx_condF mixed 400 rfl (by exact trivial) ?_))
    refine dx_fin mixed 400 rfl (by exact trivial) ?_
    exact RD.ret1 rfl rfl (by simp only [argS, Bool.or_true, h1, h2] <;> rfl)
  (repeat (first | refine dx_condT mixed 400 rfl (by exact trivial) ?_ | refine dx_condF mixed 400 rfl (by exact trivial) ?_))
  refine dx_cond mixed 400 rfl (by exact trivial) ?_ ?_ <;> intro h3
  · (repeat (first | refine dx_condT mixed 400 rfl (by exact trivial) ?_ | refine dx_condF mixed 400 rfl (by exact trivial) ?_))
    refine dx_fin mixed 400 rfl (by exact trivial) ?_
    exact RD.ret1 rfl rfl (by simp only [argS, Bool.or_true, h1, h2] <;> rfl)
  exfalso
  rw [hp] at h3
  cases h3

theorem arg2_nil (ds n : Int) (nm : ByteArray) : Pure env.toCx 29 [intC 2, .agg (Da.row ⟨ds, n, nm, []⟩)] (.ret (intC (argS 2 ⟨ds, n, nm, []⟩))) := by
  refine Pure.walk (E := env) Tryz.func29 rfl (by kernel_rfl) (rs := _) rfl Tryz.ntmps29 rfl ?_
  (repeat (first | refine dx_condT mixed 400 rfl (by exact trivial) ?_ | refine dx_condF mixed 400 rfl (by exact trivial) ?_))
  refine dx_cond mixed 400 rfl (by exact trivial) ?_ ?_ <;> intro h1
  · have h1 : (ds != 2) = true := h1
    (repeat (first | refine dx_condT mixed 400 rfl (by exact trivial) ?_ | refine dx_condF mixed 400 rfl (by exact trivial) ?_))
    refine dx_fin mixed 400 rfl (by exact trivial) ?_
    exact RD.ret1 rfl rfl (by simp only [argS, Bool.or_true, h1] <;> rfl)
  have h1 : (ds != 2) = false := h1
  (repeat (first | refine dx_condT mixed 400 rfl (by exact trivial) ?_ | refine dx_condF mixed 400 rfl (by exact trivial) ?_))
  refine dx_cond mixed 400 rfl (by exact trivial) ?_ ?_ <;> intro h2
  · have h2 : (!(nm.data.toList == [])) = true := h2
    (repeat (first | refine dx_condT mixed 400 rfl (by exact trivial) ?_ | refine dx_condF mixed 400 rfl (by exact trivial) ?_))
    refine dx_fin mixed 400 rfl (by exact trivial) ?_
    exact RD.ret1 rfl rfl (by simp only [argS, Bool.or_true, h1, h2] <;> rfl)
  have h2 : (!(nm.data.toList == [])) = false := h2
  (repeat (first | refine dx_condT mixed 400 rfl (by exact trivial) ?_ | refine dx_condF mixed 400 rfl (by exact trivial) ?_))
  refine dx_cond mixed 400 rfl (by exact trivial) ?_ ?_ <;> intro h4
  · have h4 : (n != 0) = true := h4
    (repeat (first | refine dx_condT mixed 400 rfl (by exact trivial) ?_ | refine dx_condF mixed 400 rfl (by exact trivial) ?_))
    refine dx_cond mixed 400 rfl (by exact trivial) ?_ ?_ <;> intro h5
    · have h5 : (n != 1) = true := h5
      (repeat (first | refine dx_condT mixed 400 rfl (by exact trivial) ?_ | refine dx_condF mixed 400 rfl (by exact trivial) ?_))
      refine dx_fin mixed 400 rfl (by exact trivial) ?_
      exact RD.ret1 rfl rfl (by simp only [argS, Bool.or_true, h1, h2, h4, h5] <;> rfl)
    have h5 : (n != 1) = false := h5
    (repeat (first | refine dx_condT mixed 400 rfl (by exact trivial) ?_ | refine dx_condF mixed 400 rfl (by exact trivial) ?_))
    refine dx_fin mixed 400 rfl (by exact trivial) ?_
    exact RD.ret1 rfl rfl (by simp only [argS, Bool.or_true, h1, h2, h4, h5] <;> rfl)
  have h4 : (n != 0) = false := h4
  (repeat (first | refine dx_condT mixed 400 rfl (by exact trivial) ?_ | refine dx_condF mixed 400 rfl (by exact trivial) ?_))
  refine dx_fin mixed 400 rfl (by exact trivial) ?_
  exact RD.ret1 rfl rfl (by simp only [argS, Bool.or_true, h1, h2, h4] <;> rfl)

theorem arg2_cons (ds n : Int) (nm : ByteArray) (a : ByteArray) (r : List ByteArray) : Pure env.toCx 29 [intC 2, .agg (Da.row ⟨ds, n, nm, a :: r⟩)] (.ret (intC (argS 2 ⟨ds, n, nm, a :: r⟩))) := by
  have hp := names_cons_pos (n := a) (l := r)
  refine Pure.walk (E := env) Tryz.func29 rfl (by kernel_rfl) (rs := _) rfl Tryz.ntmps29 rfl ?_
  (repeat (first | refine dx_condT mixed 400 rfl (by exact trivial) ?_ | refine dx_condF mixed 400 rfl (by exact trivial) ?_))
  refine dx_cond mixed 400 rfl (by exact trivial) ?_ ?_ <;> intro h1
  · (repeat (first | refine dx_condT mixed 400 rfl (by exact trivial) ?_ | refine dx_condF mixed 400 rfl (by exact trivial) ?_))
    refine dx_fin mixed 400 rfl (by exact trivial) ?_
    exact RD.ret1 rfl rfl (by simp only [argS, Bool.or_true, h1] <;> rfl)
  (repeat (first | refine dx_condT mixed 400 rfl (by exact trivial) ?_ | refine dx_condF mixed 400 rfl (by exact trivial) ?_))
  refine dx_cond mixed 400 rfl (by exact trivial) ?_ ?_ <;> intro h2
  · (repeat (first | refine dx_condT mixed 400 rfl (by exact trivial) ?_ | refine dx_condF mixed 400 rfl (by exact trivial) ?_))
    refine dx_fin mixed 400 rfl (by exact trivial) ?_
    exact RD.ret1 rfl rfl (by simp only [argS, Bool.or_true, h1, h2] <;> rfl)
  (repeat (first | refine dx_condT mixed 400 rfl (by exact trivial) ?_ | refine dx_condF mixed 400 rfl (by exact trivial) ?_))
  refine dx_cond mixed 400 rfl (by exact trivial) ?_ ?_ <;> intro h3
  · (repeat (first | refine dx_condT mixed 400 rfl (by exact trivial) ?_ | refine dx_condF mixed 400 rfl (by exact trivial) ?_))
    refine dx_fin mixed 400 rfl (by exact trivial) ?_
    exact RD.ret1 rfl rfl (by simp only [argS, Bool.or_true, h1, h2] <;> rfl)
  exfalso
  rw [hp] at h3
  cases h3

theorem arg3_nil (ds n : Int) (nm : ByteArray) : Pure env.toCx 29 [intC 3, .agg (Da.row ⟨ds, n, nm, []⟩)] (.ret (intC (argS 3 ⟨ds, n, nm, []⟩))) := by
  refine Pure.walk (E := env) Tryz.func29 rfl (by kernel_rfl) (rs := _) rfl Tryz.ntmps29 rfl ?_
  (repeat (first | refine dx_condT mixed 400 rfl (by exact trivial) ?_ | refine dx_condF mixed 400 rfl (by exact trivial) ?_))
  refine dx_cond mixed 400 rfl (by exact trivial) ?_ ?_ <;> intro h1
  · have h1 : (ds != 3) = true := h1
    (repeat (first | refine dx_condT mixed 400 rfl (by exact trivial) ?_ | refine dx_condF mixed 400 rfl (by exact trivial) ?_))
    refine dx_fin mixed 400 rfl (by exact trivial) ?_
    exact RD.ret1 rfl rfl (by simp only [argS, Bool.or_true, h1] <;> rfl)
  have h1 : (ds != 3) = false := h1
  (repeat (first | refine dx_condT mixed 400 rfl (by exact trivial) ?_ | refine dx_condF mixed 400 rfl (by exact trivial) ?_))
  refine dx_cond mixed 400 rfl (by exact trivial) ?_ ?_ <;> intro h4
  · have h4 : (n != 0) = true := h4
    (repeat (first | refine dx_condT mixed 400 rfl (by exact trivial) ?_ | refine dx_condF mixed 400 rfl (by exact trivial) ?_))
    refine dx_fin mixed 400 rfl (by exact trivial) ?_
    exact RD.ret1 rfl rfl (by simp only [argS, Bool.or_true, h1, h4] <;> rfl)
  have h4 : (n != 0) = false := h4
  (repeat (first | refine dx_condT mixed 400 rfl (by exact trivial) ?_ | refine dx_condF mixed 400 rfl (by exact trivial) ?_))
  refine dx_stuck mixed 400 rfl (by exact trivial) ?_
  refine DWP.pure (valid_spec nm) rfl rfl rfl ?_
  generalize hv : validS nm = v
  cases v
  · (repeat (first | refine dx_condT mixed 400 rfl (by exact trivial) ?_ | refine dx_condF mixed 400 rfl (by exact trivial) ?_))
    refine dx_fin mixed 400 rfl (by exact trivial) ?_
    exact RD.ret1 rfl rfl (by simp only [argS, Bool.or_true, h1, h4, hv] <;> rfl)
  · (repeat (first | refine dx_condT mixed 400 rfl (by exact trivial) ?_ | refine dx_condF mixed 400 rfl (by exact trivial) ?_))
    refine dx_fin mixed 400 rfl (by exact trivial) ?_
    exact RD.ret1 rfl rfl (by simp only [argS, Bool.or_true, h1, h4, hv] <;> rfl)

theorem arg3_cons (ds n : Int) (nm : ByteArray) (a : ByteArray) (r : List ByteArray) : Pure env.toCx 29 [intC 3, .agg (Da.row ⟨ds, n, nm, a :: r⟩)] (.ret (intC (argS 3 ⟨ds, n, nm, a :: r⟩))) := by
  have hp := names_cons_pos (n := a) (l := r)
  refine Pure.walk (E := env) Tryz.func29 rfl (by kernel_rfl) (rs := _) rfl Tryz.ntmps29 rfl ?_
  (repeat (first | refine dx_condT mixed 400 rfl (by exact trivial) ?_ | refine dx_condF mixed 400 rfl (by exact trivial) ?_))
  refine dx_cond mixed 400 rfl (by exact trivial) ?_ ?_ <;> intro h1
  · have h1 : (ds != 3) = true := h1
    (repeat (first | refine dx_condT mixed 400 rfl (by exact trivial) ?_ | refine dx_condF mixed 400 rfl (by exact trivial) ?_))
    refine dx_fin mixed 400 rfl (by exact trivial) ?_
    exact RD.ret1 rfl rfl (by simp only [argS, Bool.or_true, h1] <;> rfl)
  have h1 : (ds != 3) = false := h1
  (repeat (first | refine dx_condT mixed 400 rfl (by exact trivial) ?_ | refine dx_condF mixed 400 rfl (by exact trivial) ?_))
  refine dx_cond mixed 400 rfl (by exact trivial) ?_ ?_ <;> intro h3
  · (repeat (first | refine dx_condT mixed 400 rfl (by exact trivial) ?_ | refine dx_condF mixed 400 rfl (by exact trivial) ?_))
    refine dx_fin mixed 400 rfl (by exact trivial) ?_
    exact RD.ret1 rfl rfl (by simp only [argS, Bool.or_true, h1] <;> rfl)
  exfalso
  rw [hp] at h3
  cases h3

theorem arg4 (ds n : Int) (nm : ByteArray) (ns : List ByteArray) (hlen : ns.length ≤ 1099511627776) : Pure env.toCx 29 [intC 4, .agg (Da.row ⟨ds, n, nm, ns⟩)] (.ret (intC (argS 4 ⟨ds, n, nm, ns⟩))) := by
  have h2s := sorted_spec ns hlen
  have h3s := anyBad_spec ns hlen
  refine Pure.walk (E := env) Tryz.func29 rfl (by kernel_rfl) (rs := _) rfl Tryz.ntmps29 rfl ?_
  (repeat (first | refine dx_condT mixed 400 rfl (by exact trivial) ?_ | refine dx_condF mixed 400 rfl (by exact trivial) ?_))
  refine dx_cond mixed 400 rfl (by exact trivial) ?_ ?_ <;> intro h1
  · have h1 : (ds != 4) = true := h1
    (repeat (first | refine dx_condT mixed 400 rfl (by exact trivial) ?_ | refine dx_condF mixed 400 rfl (by exact trivial) ?_))
    refine dx_fin mixed 400 rfl (by exact trivial) ?_
    exact RD.ret1 rfl rfl (by simp only [argS, Bool.or_true, h1] <;> rfl)
  have h1 : (ds != 4) = false := h1
  (repeat (first | refine dx_condT mixed 400 rfl (by exact trivial) ?_ | refine dx_condF mixed 400 rfl (by exact trivial) ?_))
  refine dx_cond mixed 400 rfl (by exact trivial) ?_ ?_ <;> intro h2
  · have h2 : (!(nm.data.toList == [])) = true := h2
    (repeat (first | refine dx_condT mixed 400 rfl (by exact trivial) ?_ | refine dx_condF mixed 400 rfl (by exact trivial) ?_))
    refine dx_fin mixed 400 rfl (by exact trivial) ?_
    exact RD.ret1 rfl rfl (by simp only [argS, Bool.or_true, h1, h2] <;> rfl)
  have h2 : (!(nm.data.toList == [])) = false := h2
  (repeat (first | refine dx_condT mixed 400 rfl (by exact trivial) ?_ | refine dx_condF mixed 400 rfl (by exact trivial) ?_))
  refine dx_cond mixed 400 rfl (by exact trivial) ?_ ?_ <;> intro h4
  · have h4 : (n != 0) = true := h4
    (repeat (first | refine dx_condT mixed 400 rfl (by exact trivial) ?_ | refine dx_condF mixed 400 rfl (by exact trivial) ?_))
    refine dx_fin mixed 400 rfl (by exact trivial) ?_
    exact RD.ret1 rfl rfl (by simp only [argS, Bool.or_true, h1, h2, h4] <;> rfl)
  have h4 : (n != 0) = false := h4
  (repeat (first | refine dx_condT mixed 400 rfl (by exact trivial) ?_ | refine dx_condF mixed 400 rfl (by exact trivial) ?_))
  refine dx_stuck mixed 400 rfl (by exact trivial) ?_
  refine DWP.pure h2s rfl rfl rfl ?_
  generalize hv : sortedS ns = v
  cases v
  · (repeat (first | refine dx_condT mixed 400 rfl (by exact trivial) ?_ | refine dx_condF mixed 400 rfl (by exact trivial) ?_))
    refine dx_fin mixed 400 rfl (by exact trivial) ?_
    exact RD.ret1 rfl rfl (by simp only [argS, Bool.or_true, h1, h2, h4, hv] <;> rfl)
  · (repeat (first | refine dx_condT mixed 400 rfl (by exact trivial) ?_ | refine dx_condF mixed 400 rfl (by exact trivial) ?_))
    refine dx_stuck mixed 400 rfl (by exact trivial) ?_
    refine DWP.pure h3s rfl rfl rfl ?_
    generalize hw : ns.all validS = w
    cases w
    · (repeat (first | refine dx_condT mixed 400 rfl (by exact trivial) ?_ | refine dx_condF mixed 400 rfl (by exact trivial) ?_))
      refine dx_fin mixed 400 rfl (by exact trivial) ?_
      exact RD.ret1 rfl rfl (by simp only [argS, Bool.or_true, h1, h2, h4, hv, hw] <;> rfl)
    · (repeat (first | refine dx_condT mixed 400 rfl (by exact trivial) ?_ | refine dx_condF mixed 400 rfl (by exact trivial) ?_))
      refine dx_fin mixed 400 rfl (by exact trivial) ?_
      exact RD.ret1 rfl rfl (by simp only [argS, Bool.or_true, h1, h2, h4, hv, hw] <;> rfl)

theorem arg_spec (sort : Int) (d : Da) (hlen : d.names.length ≤ 1099511627776) : Pure env.toCx 29 [intC sort, .agg d.row] (.ret (intC (argS sort d))) := by
  obtain ⟨ds, n, nm, ns⟩ := d
  by_cases e1 : sort = 1
  · subst e1
    cases ns with
    | nil => exact arg1_nil ds n nm
    | cons a r => exact arg1_cons ds n nm a r
  by_cases e2 : sort = 2
  · subst e2
    cases ns with
    | nil => exact arg2_nil ds n nm
    | cons a r => exact arg2_cons ds n nm a r
  by_cases e3 : sort = 3
  · subst e3
    cases ns with
    | nil => exact arg3_nil ds n nm
    | cons a r => exact arg3_cons ds n nm a r
  by_cases e4 : sort = 4
  · subst e4
    exact arg4 ds n nm ns hlen
  have hres : argS sort ⟨ds, n, nm, ns⟩ = 4 := by simp [argS, e1, e2, e3, e4]
  rw [hres]
  clear hres
  refine Pure.walk (E := env) Tryz.func29 rfl (by kernel_rfl) (rs := _) rfl Tryz.ntmps29 rfl ?_
  (repeat (first | refine dx_condT mixed 400 rfl (by exact trivial) ?_ | refine dx_condF mixed 400 rfl (by exact trivial) ?_))
  refine dx_cond mixed 400 rfl (by exact trivial) ?_ ?_ <;> intro h1
  · (repeat (first | refine dx_condT mixed 400 rfl (by exact trivial) ?_ | refine dx_condF mixed 400 rfl (by exact trivial) ?_))
    refine dx_fin mixed 400 rfl (by exact trivial) ?_
    exact RD.ret1 rfl rfl rfl
  (repeat (first | refine dx_condT mixed 400 rfl (by exact trivial) ?_ | refine dx_condF mixed 400 rfl (by exact trivial) ?_))
  refine dx_cond mixed 400 rfl (by exact trivial) ?_ ?_ <;> intro h2
  · (repeat (first | refine dx_condT mixed 400 rfl (by exact trivial) ?_ | refine dx_condF mixed 400 rfl (by exact trivial) ?_))
    refine dx_fin mixed 400 rfl (by exact trivial) ?_
    exact RD.ret1 rfl rfl rfl
  (repeat (first | refine dx_condT mixed 400 rfl (by exact trivial) ?_ | refine dx_condF mixed 400 rfl (by exact trivial) ?_))
  refine dx_cond mixed 400 rfl (by exact trivial) ?_ ?_ <;> intro h3
  · (repeat (first | refine dx_condT mixed 400 rfl (by exact trivial) ?_ | refine dx_condF mixed 400 rfl (by exact trivial) ?_))
    refine dx_fin mixed 400 rfl (by exact trivial) ?_
    exact RD.ret1 rfl rfl rfl
  exfalso
  have a1 := of_decide_eq_false h2
  have a2 := of_decide_eq_false h3
  omega

theorem refArg1_nil (ds n : Int) (nm : ByteArray) : Pure env.toCx 30 [intC 1, .agg (Da.row ⟨ds, n, nm, []⟩)] (.ret (intC (argS 1 ⟨ds, n, nm, []⟩))) := by
  refine Pure.walk (E := env) Tryz.func30 rfl (by kernel_rfl) (rs := _) rfl Tryz.ntmps30 rfl ?_
  (repeat (first | refine dx_condT mixed 400 rfl (by exact trivial) ?_ | refine dx_condF mixed 400 rfl (by exact trivial) ?_))
  refine dx_cond mixed 400 rfl (by exact trivial) ?_ ?_ <;> intro h1
  · have h1 : (ds != 1) = true := h1
    (repeat (first | refine dx_condT mixed 400 rfl (by exact trivial) ?_ | refine dx_condF mixed 400 rfl (by exact trivial) ?_))
    refine dx_fin mixed 400 rfl (by exact trivial) ?_
    exact RD.ret1 rfl rfl (by simp only [argS, Bool.or_true, h1] <;> rfl)
  have h1 : (ds != 1) = false := h1
  (repeat (first | refine dx_condT mixed 400 rfl (by exact trivial) ?_ | refine dx_condF mixed 400 rfl (by exact trivial) ?_))
  refine dx_cond mixed 400 rfl (by exact trivial) ?_ ?_ <;> intro h2
  · have h2 : (!(nm.data.toList == [])) = true := h2
    (repeat (first | refine dx_condT mixed 400 rfl (by exact trivial) ?_ | refine dx_condF mixed 400 rfl (by exact trivial) ?_))
    refine dx_fin mixed 400 rfl (by exact trivial) ?_
    exact RD.ret1 rfl rfl (by simp only [argS, Bool.or_true, h1, h2] <;> rfl)
  have h2 : (!(nm.data.toList == [])) = false := h2
  (repeat (first | refine dx_condT mixed 400 rfl (by exact trivial) ?_ | refine dx_condF mixed 400 rfl (by exact trivial) ?_))
  refine dx_cond mixed 400 rfl (by exact trivial) ?_ ?_ <;> intro h4
  · have h4 : decide (n < -1000000000000000) = true := h4
    (repeat (first | refine dx_condT mixed 400 rfl (by exact trivial) ?_ | refine dx_condF mixed 400 rfl (by exact trivial) ?_))
    refine dx_fin mixed 400 rfl (by exact trivial) ?_
    exact RD.ret1 rfl rfl (by simp only [argS, Bool.or_true, h1, h2, h4] <;> rfl)
  have h4 : decide (n < -1000000000000000) = false := h4
  (repeat (first | refine dx_condT mixed 400 rfl (by exact trivial) ?_ | refine dx_condF mixed 400 rfl (by exact trivial) ?_))
  refine dx_cond mixed 400 rfl (by exact trivial) ?_ ?_ <;> intro h5
  · have h5 : decide (n > 1000000000000000) = true := h5
    (repeat (first | refine dx_condT mixed 400 rfl (by exact trivial) ?_ | refine dx_condF mixed 400 rfl (by exact trivial) ?_))
    refine dx_fin mixed 400 rfl (by exact trivial) ?_
    exact RD.ret1 rfl rfl (by simp only [argS, Bool.or_true, h1, h2, h4, h5] <;> rfl)
  have h5 : decide (n > 1000000000000000) = false := h5
  (repeat (first | refine dx_condT mixed 400 rfl (by exact trivial) ?_ | refine dx_condF mixed 400 rfl (by exact trivial) ?_))
  refine dx_stuck mixed 400 rfl (by exact trivial) ?_
  refine DWP.loop [3, 6] 1 (fun q l' es => l' = [(3, .own 0 0), (6, .d (intC 0))] ∧ es = [.box ((Da.row ⟨ds, n, nm, []⟩).map .d)]) 0 (by omega) (by exact Nat.le_refl _) rfl rfl ⟨rfl, rfl⟩ ?_
  rintro q l' es ⟨rfl, rfl⟩
  (repeat (first | refine dx_condT mixed 400 rfl (by exact trivial) ?_ | refine dx_condF mixed 400 rfl (by exact trivial) ?_))
  refine dx_fin mixed 400 rfl (by exact trivial) ?_
  exact RD.ret1 rfl rfl (by simp only [argS, Bool.or_true, h1, h2, h4, h5] <;> rfl)

theorem refArg1_cons (ds n : Int) (nm : ByteArray) (a : ByteArray) (r : List ByteArray) : Pure env.toCx 30 [intC 1, .agg (Da.row ⟨ds, n, nm, a :: r⟩)] (.ret (intC (argS 1 ⟨ds, n, nm, a :: r⟩))) := by
  refine Pure.walk (E := env) Tryz.func30 rfl (by kernel_rfl) (rs := _) rfl Tryz.ntmps30 rfl ?_
  (repeat (first | refine dx_condT mixed 400 rfl (by exact trivial) ?_ | refine dx_condF mixed 400 rfl (by exact trivial) ?_))
  refine dx_cond mixed 400 rfl (by exact trivial) ?_ ?_ <;> intro h1
  · (repeat (first | refine dx_condT mixed 400 rfl (by exact trivial) ?_ | refine dx_condF mixed 400 rfl (by exact trivial) ?_))
    refine dx_fin mixed 400 rfl (by exact trivial) ?_
    exact RD.ret1 rfl rfl (by simp only [argS, Bool.or_true, h1] <;> rfl)
  (repeat (first | refine dx_condT mixed 400 rfl (by exact trivial) ?_ | refine dx_condF mixed 400 rfl (by exact trivial) ?_))
  refine dx_cond mixed 400 rfl (by exact trivial) ?_ ?_ <;> intro h2
  · (repeat (first | refine dx_condT mixed 400 rfl (by exact trivial) ?_ | refine dx_condF mixed 400 rfl (by exact trivial) ?_))
    refine dx_fin mixed 400 rfl (by exact trivial) ?_
    exact RD.ret1 rfl rfl (by simp only [argS, Bool.or_true, h1, h2] <;> rfl)
  (repeat (first | refine dx_condT mixed 400 rfl (by exact trivial) ?_ | refine dx_condF mixed 400 rfl (by exact trivial) ?_))
  refine dx_fin mixed 400 rfl (by exact trivial) ?_
  exact RD.ret1 rfl rfl (by simp only [argS, Bool.or_true, h1, h2] <;> rfl)

theorem refArg2_nil (ds n : Int) (nm : ByteArray) : Pure env.toCx 30 [intC 2, .agg (Da.row ⟨ds, n, nm, []⟩)] (.ret (intC (argS 2 ⟨ds, n, nm, []⟩))) := by
  refine Pure.walk (E := env) Tryz.func30 rfl (by kernel_rfl) (rs := _) rfl Tryz.ntmps30 rfl ?_
  (repeat (first | refine dx_condT mixed 400 rfl (by exact trivial) ?_ | refine dx_condF mixed 400 rfl (by exact trivial) ?_))
  refine dx_cond mixed 400 rfl (by exact trivial) ?_ ?_ <;> intro h1
  · have h1 : (ds != 2) = true := h1
    (repeat (first | refine dx_condT mixed 400 rfl (by exact trivial) ?_ | refine dx_condF mixed 400 rfl (by exact trivial) ?_))
    refine dx_fin mixed 400 rfl (by exact trivial) ?_
    exact RD.ret1 rfl rfl (by simp only [argS, Bool.or_true, h1] <;> rfl)
  have h1 : (ds != 2) = false := h1
  (repeat (first | refine dx_condT mixed 400 rfl (by exact trivial) ?_ | refine dx_condF mixed 400 rfl (by exact trivial) ?_))
  refine dx_cond mixed 400 rfl (by exact trivial) ?_ ?_ <;> intro h2
  · have h2 : (!(nm.data.toList == [])) = true := h2
    (repeat (first | refine dx_condT mixed 400 rfl (by exact trivial) ?_ | refine dx_condF mixed 400 rfl (by exact trivial) ?_))
    refine dx_fin mixed 400 rfl (by exact trivial) ?_
    exact RD.ret1 rfl rfl (by simp only [argS, Bool.or_true, h1, h2] <;> rfl)
  have h2 : (!(nm.data.toList == [])) = false := h2
  (repeat (first | refine dx_condT mixed 400 rfl (by exact trivial) ?_ | refine dx_condF mixed 400 rfl (by exact trivial) ?_))
  refine dx_cond mixed 400 rfl (by exact trivial) ?_ ?_ <;> intro h4
  · have h4 : (n != 0) = true := h4
    (repeat (first | refine dx_condT mixed 400 rfl (by exact trivial) ?_ | refine dx_condF mixed 400 rfl (by exact trivial) ?_))
    refine dx_cond mixed 400 rfl (by exact trivial) ?_ ?_ <;> intro h5
    · have h5 : (n != 1) = true := h5
      (repeat (first | refine dx_condT mixed 400 rfl (by exact trivial) ?_ | refine dx_condF mixed 400 rfl (by exact trivial) ?_))
      refine dx_fin mixed 400 rfl (by exact trivial) ?_
      exact RD.ret1 rfl rfl (by simp only [argS, Bool.or_true, h1, h2, h4, h5] <;> rfl)
    have h5 : (n != 1) = false := h5
    (repeat (first | refine dx_condT mixed 400 rfl (by exact trivial) ?_ | refine dx_condF mixed 400 rfl (by exact trivial) ?_))
    refine dx_stuck mixed 400 rfl (by exact trivial) ?_
    refine DWP.loop [3, 6] 1 (fun q l' es => l' = [(3, .own 0 0), (6, .d (intC 0))] ∧ es = [.box ((Da.row ⟨ds, n, nm, []⟩).map .d)]) 0 (by omega) (by exact Nat.le_refl _) rfl rfl ⟨rfl, rfl⟩ ?_
    rintro q l' es ⟨rfl, rfl⟩
    (repeat (first | refine dx_condT mixed 400 rfl (by exact trivial) ?_ | refine dx_condF mixed 400 rfl (by exact trivial) ?_))
    refine dx_fin mixed 400 rfl (by exact trivial) ?_
    exact RD.ret1 rfl rfl (by simp only [argS, Bool.or_true, h1, h2, h4, h5] <;> rfl)
  have h4 : (n != 0) = false := h4
  (repeat (first | refine dx_condT mixed 400 rfl (by exact trivial) ?_ | refine dx_condF mixed 400 rfl (by exact trivial) ?_))
  refine dx_stuck mixed 400 rfl (by exact trivial) ?_
  refine DWP.loop [3, 6] 1 (fun q l' es => l' = [(3, .own 0 0), (6, .d (intC 0))] ∧ es = [.box ((Da.row ⟨ds, n, nm, []⟩).map .d)]) 0 (by omega) (by exact Nat.le_refl _) rfl rfl ⟨rfl, rfl⟩ ?_
  rintro q l' es ⟨rfl, rfl⟩
  (repeat (first | refine dx_condT mixed 400 rfl (by exact trivial) ?_ | refine dx_condF mixed 400 rfl (by exact trivial) ?_))
  refine dx_fin mixed 400 rfl (by exact trivial) ?_
  exact RD.ret1 rfl rfl (by simp only [argS, Bool.or_true, h1, h2, h4] <;> rfl)

theorem refArg2_cons (ds n : Int) (nm : ByteArray) (a : ByteArray) (r : List ByteArray) : Pure env.toCx 30 [intC 2, .agg (Da.row ⟨ds, n, nm, a :: r⟩)] (.ret (intC (argS 2 ⟨ds, n, nm, a :: r⟩))) := by
  refine Pure.walk (E := env) Tryz.func30 rfl (by kernel_rfl) (rs := _) rfl Tryz.ntmps30 rfl ?_
  (repeat (first | refine dx_condT mixed 400 rfl (by exact trivial) ?_ | refine dx_condF mixed 400 rfl (by exact trivial) ?_))
  refine dx_cond mixed 400 rfl (by exact trivial) ?_ ?_ <;> intro h1
  · (repeat (first | refine dx_condT mixed 400 rfl (by exact trivial) ?_ | refine dx_condF mixed 400 rfl (by exact trivial) ?_))
    refine dx_fin mixed 400 rfl (by exact trivial) ?_
    exact RD.ret1 rfl rfl (by simp only [argS, Bool.or_true, h1] <;> rfl)
  (repeat (first | refine dx_condT mixed 400 rfl (by exact trivial) ?_ | refine dx_condF mixed 400 rfl (by exact trivial) ?_))
  refine dx_cond mixed 400 rfl (by exact trivial) ?_ ?_ <;> intro h2
  · (repeat (first | refine dx_condT mixed 400 rfl (by exact trivial) ?_ | refine dx_condF mixed 400 rfl (by exact trivial) ?_))
    refine dx_fin mixed 400 rfl (by exact trivial) ?_
    exact RD.ret1 rfl rfl (by simp only [argS, Bool.or_true, h1, h2] <;> rfl)
  (repeat (first | refine dx_condT mixed 400 rfl (by exact trivial) ?_ | refine dx_condF mixed 400 rfl (by exact trivial) ?_))
  refine dx_fin mixed 400 rfl (by exact trivial) ?_
  exact RD.ret1 rfl rfl (by simp only [argS, Bool.or_true, h1, h2] <;> rfl)

theorem refArg3_nil (ds n : Int) (nm : ByteArray) : Pure env.toCx 30 [intC 3, .agg (Da.row ⟨ds, n, nm, []⟩)] (.ret (intC (argS 3 ⟨ds, n, nm, []⟩))) := by
  refine Pure.walk (E := env) Tryz.func30 rfl (by kernel_rfl) (rs := _) rfl Tryz.ntmps30 rfl ?_
  (repeat (first | refine dx_condT mixed 400 rfl (by exact trivial) ?_ | refine dx_condF mixed 400 rfl (by exact trivial) ?_))
  refine dx_cond mixed 400 rfl (by exact trivial) ?_ ?_ <;> intro h1
  · have h1 : (ds != 3) = true := h1
    (repeat (first | refine dx_condT mixed 400 rfl (by exact trivial) ?_ | refine dx_condF mixed 400 rfl (by exact trivial) ?_))
    refine dx_fin mixed 400 rfl (by exact trivial) ?_
    exact RD.ret1 rfl rfl (by simp only [argS, Bool.or_true, h1] <;> rfl)
  have h1 : (ds != 3) = false := h1
  (repeat (first | refine dx_condT mixed 400 rfl (by exact trivial) ?_ | refine dx_condF mixed 400 rfl (by exact trivial) ?_))
  refine dx_cond mixed 400 rfl (by exact trivial) ?_ ?_ <;> intro h4
  · have h4 : (n != 0) = true := h4
    (repeat (first | refine dx_condT mixed 400 rfl (by exact trivial) ?_ | refine dx_condF mixed 400 rfl (by exact trivial) ?_))
    refine dx_fin mixed 400 rfl (by exact trivial) ?_
    exact RD.ret1 rfl rfl (by simp only [argS, Bool.or_true, h1, h4] <;> rfl)
  have h4 : (n != 0) = false := h4
  (repeat (first | refine dx_condT mixed 400 rfl (by exact trivial) ?_ | refine dx_condF mixed 400 rfl (by exact trivial) ?_))
  refine dx_stuck mixed 400 rfl (by exact trivial) ?_
  refine DWP.pure (refValid_spec nm) rfl rfl rfl ?_
  generalize hv : validS nm = v
  cases v
  · (repeat (first | refine dx_condT mixed 400 rfl (by exact trivial) ?_ | refine dx_condF mixed 400 rfl (by exact trivial) ?_))
    refine dx_fin mixed 400 rfl (by exact trivial) ?_
    exact RD.ret1 rfl rfl (by simp only [argS, Bool.or_true, h1, h4, hv] <;> rfl)
  · (repeat (first | refine dx_condT mixed 400 rfl (by exact trivial) ?_ | refine dx_condF mixed 400 rfl (by exact trivial) ?_))
    refine dx_stuck mixed 400 rfl (by exact trivial) ?_
    refine DWP.loop [3, 6] 1 (fun q l' es => l' = [(3, .own 0 0), (6, .d (intC 0))] ∧ es = [.box ((Da.row ⟨ds, n, nm, []⟩).map .d)]) 0 (by omega) (by exact Nat.le_refl _) rfl rfl ⟨rfl, rfl⟩ ?_
    rintro q l' es ⟨rfl, rfl⟩
    (repeat (first | refine dx_condT mixed 400 rfl (by exact trivial) ?_ | refine dx_condF mixed 400 rfl (by exact trivial) ?_))
    refine dx_fin mixed 400 rfl (by exact trivial) ?_
    exact RD.ret1 rfl rfl (by simp only [argS, Bool.or_true, h1, h4, hv] <;> rfl)

theorem refArg3_cons (ds n : Int) (nm : ByteArray) (a : ByteArray) (r : List ByteArray) : Pure env.toCx 30 [intC 3, .agg (Da.row ⟨ds, n, nm, a :: r⟩)] (.ret (intC (argS 3 ⟨ds, n, nm, a :: r⟩))) := by
  refine Pure.walk (E := env) Tryz.func30 rfl (by kernel_rfl) (rs := _) rfl Tryz.ntmps30 rfl ?_
  (repeat (first | refine dx_condT mixed 400 rfl (by exact trivial) ?_ | refine dx_condF mixed 400 rfl (by exact trivial) ?_))
  refine dx_cond mixed 400 rfl (by exact trivial) ?_ ?_ <;> intro h1
  · have h1 : (ds != 3) = true := h1
    (repeat (first | refine dx_condT mixed 400 rfl (by exact trivial) ?_ | refine dx_condF mixed 400 rfl (by exact trivial) ?_))
    refine dx_fin mixed 400 rfl (by exact trivial) ?_
    exact RD.ret1 rfl rfl (by simp only [argS, Bool.or_true, h1] <;> rfl)
  have h1 : (ds != 3) = false := h1
  (repeat (first | refine dx_condT mixed 400 rfl (by exact trivial) ?_ | refine dx_condF mixed 400 rfl (by exact trivial) ?_))
  refine dx_cond mixed 400 rfl (by exact trivial) ?_ ?_ <;> intro h4
  · have h4 : (n != 0) = true := h4
    (repeat (first | refine dx_condT mixed 400 rfl (by exact trivial) ?_ | refine dx_condF mixed 400 rfl (by exact trivial) ?_))
    refine dx_fin mixed 400 rfl (by exact trivial) ?_
    exact RD.ret1 rfl rfl (by simp only [argS, Bool.or_true, h1, h4] <;> rfl)
  have h4 : (n != 0) = false := h4
  (repeat (first | refine dx_condT mixed 400 rfl (by exact trivial) ?_ | refine dx_condF mixed 400 rfl (by exact trivial) ?_))
  refine dx_fin mixed 400 rfl (by exact trivial) ?_
  exact RD.ret1 rfl rfl (by simp only [argS, Bool.or_true, h1, h4] <;> rfl)

theorem refArg4 (ds n : Int) (nm : ByteArray) (ns : List ByteArray) (hlen : ns.length ≤ 1099511627776) : Pure env.toCx 30 [intC 4, .agg (Da.row ⟨ds, n, nm, ns⟩)] (.ret (intC (argS 4 ⟨ds, n, nm, ns⟩))) := by
  have h2s := refSorted_spec ns hlen
  refine Pure.walk (E := env) Tryz.func30 rfl (by kernel_rfl) (rs := _) rfl Tryz.ntmps30 rfl ?_
  (repeat (first | refine dx_condT mixed 400 rfl (by exact trivial) ?_ | refine dx_condF mixed 400 rfl (by exact trivial) ?_))
  refine dx_cond mixed 400 rfl (by exact trivial) ?_ ?_ <;> intro h1
  · have h1 : (ds != 4) = true := h1
    (repeat (first | refine dx_condT mixed 400 rfl (by exact trivial) ?_ | refine dx_condF mixed 400 rfl (by exact trivial) ?_))
    refine dx_fin mixed 400 rfl (by exact trivial) ?_
    exact RD.ret1 rfl rfl (by simp only [argS, Bool.or_true, h1] <;> rfl)
  have h1 : (ds != 4) = false := h1
  (repeat (first | refine dx_condT mixed 400 rfl (by exact trivial) ?_ | refine dx_condF mixed 400 rfl (by exact trivial) ?_))
  refine dx_cond mixed 400 rfl (by exact trivial) ?_ ?_ <;> intro h4
  · have h4 : (n != 0) = true := h4
    (repeat (first | refine dx_condT mixed 400 rfl (by exact trivial) ?_ | refine dx_condF mixed 400 rfl (by exact trivial) ?_))
    refine dx_fin mixed 400 rfl (by exact trivial) ?_
    exact RD.ret1 rfl rfl (by simp only [argS, Bool.or_true, h1, h4] <;> rfl)
  have h4 : (n != 0) = false := h4
  (repeat (first | refine dx_condT mixed 400 rfl (by exact trivial) ?_ | refine dx_condF mixed 400 rfl (by exact trivial) ?_))
  refine dx_cond mixed 400 rfl (by exact trivial) ?_ ?_ <;> intro h2
  · have h2 : (!(nm.data.toList == [])) = true := h2
    (repeat (first | refine dx_condT mixed 400 rfl (by exact trivial) ?_ | refine dx_condF mixed 400 rfl (by exact trivial) ?_))
    refine dx_fin mixed 400 rfl (by exact trivial) ?_
    exact RD.ret1 rfl rfl (by simp only [argS, Bool.or_true, h1, h2] <;> rfl)
  have h2 : (!(nm.data.toList == [])) = false := h2
  (repeat (first | refine dx_condT mixed 400 rfl (by exact trivial) ?_ | refine dx_condF mixed 400 rfl (by exact trivial) ?_))
  refine dx_stuck mixed 400 rfl (by exact trivial) ?_
  refine DWP.pure h2s rfl rfl rfl ?_
  generalize hv : sortedS ns = v
  cases v
  · (repeat (first | refine dx_condT mixed 400 rfl (by exact trivial) ?_ | refine dx_condF mixed 400 rfl (by exact trivial) ?_))
    refine dx_fin mixed 400 rfl (by exact trivial) ?_
    exact RD.ret1 rfl rfl (by simp only [argS, Bool.or_true, h1, h2, h4, hv] <;> rfl)
  · have hlr : (ns.map fun s => [strC s]).length = ns.length := by rw [List.length_map]
    have hget : ∀ {i : Nat} {s : ByteArray}, ns[i]? = some s → (ns.map fun s => [strC s])[i]? = some [strC s] := by intro i s h; rw [List.getElem?_map, h]; rfl
    have hres : argS 4 ⟨ds, n, nm, ns⟩ = if ns.all validS then 0 else 3 := by simp only [argS, h1, h2, h4, hv] <;> rfl
    rw [hres]
    (repeat (first | refine dx_condT mixed 400 rfl (by exact trivial) ?_ | refine dx_condF mixed 400 rfl (by exact trivial) ?_))
    refine dx_stuck mixed 400 rfl (by exact trivial) ?_
    refine DWP.loop [3, 6] 1 (fun q l' es => ∃ i : Nat, i ≤ ns.length ∧ q = ns.length - i ∧ l' = [(3, .own 0 0), (6, .d (intC i))] ∧ es = [.box ((Da.row ⟨ds, n, nm, ns⟩).map .d)] ∧ ns.all validS = (ns.drop i).all validS) ns.length (by omega) (by exact Nat.le_refl _) rfl rfl ⟨0, by omega, by omega, rfl, rfl, by simp⟩ ?_
    rintro q l' es ⟨i, hi', rfl, rfl, rfl, hr⟩
    refine dx_cond mixed 400 rfl (by exact trivial) ?_ ?_ <;> intro hc
    · have hlt : i < ns.length := by have := of_decide_eq_true hc; rw [hlr] at this; omega
      have hk : ns[i]? = some ns[i] := by simp [hlt]
      have hv2 := refValid_spec ns[i]
      rw [all_drop hk] at hr
      generalize ns[i] = kk at *
      generalize validS kk = y at *
      refine dx_stuck mixed 400 rfl (by exact trivial) ?_
      refine DWP.idx i rfl rfl rfl rfl (hget hk) rfl ?_
      refine dx_stuck mixed 400 rfl (by exact trivial) ?_
      refine DWP.pure hv2 rfl rfl rfl ?_
      refine dx_cond mixed 400 rfl (by exact trivial) ?_ ?_ <;> intro hc3
      · refine dx_fin mixed 400 rfl (by exact trivial) ?_
        exact RD.ret1 rfl rfl (by rw [hr]; cases y <;> first | rfl | cases hc3)
      · refine dx_stuck mixed 400 rfl (by exact trivial) ?_
        refine DWP.lp ⟨ns.length - (i + 1), by omega, _, _, by exact Nat.le_add_left 1 0, rfl, rfl, i + 1, by omega, rfl, ?_, rfl, ?_⟩
        · rw [← wrap_nat (by omega)]
        · rw [hr]; cases y <;> first | rfl | cases hc3
    · have hge : ns.drop i = [] := by
        have := of_decide_eq_false hc
        rw [hlr] at this
        exact List.drop_eq_nil_of_le (by omega)
      refine dx_fin mixed 400 rfl (by exact trivial) ?_
      exact RD.ret1 rfl rfl (by rw [hr, hge]; rfl)

theorem refArg_spec (sort : Int) (d : Da) (hlen : d.names.length ≤ 1099511627776) : Pure env.toCx 30 [intC sort, .agg d.row] (.ret (intC (argS sort d))) := by
  obtain ⟨ds, n, nm, ns⟩ := d
  by_cases e1 : sort = 1
  · subst e1
    cases ns with
    | nil => exact refArg1_nil ds n nm
    | cons a r => exact refArg1_cons ds n nm a r
  by_cases e2 : sort = 2
  · subst e2
    cases ns with
    | nil => exact refArg2_nil ds n nm
    | cons a r => exact refArg2_cons ds n nm a r
  by_cases e3 : sort = 3
  · subst e3
    cases ns with
    | nil => exact refArg3_nil ds n nm
    | cons a r => exact refArg3_cons ds n nm a r
  by_cases e4 : sort = 4
  · subst e4
    exact refArg4 ds n nm ns hlen
  have hres : argS sort ⟨ds, n, nm, ns⟩ = 4 := by simp [argS, e1, e2, e3, e4]
  rw [hres]
  clear hres
  refine Pure.walk (E := env) Tryz.func30 rfl (by kernel_rfl) (rs := _) rfl Tryz.ntmps30 rfl ?_
  (repeat (first | refine dx_condT mixed 400 rfl (by exact trivial) ?_ | refine dx_condF mixed 400 rfl (by exact trivial) ?_))
  refine dx_cond mixed 400 rfl (by exact trivial) ?_ ?_ <;> intro h1
  · (repeat (first | refine dx_condT mixed 400 rfl (by exact trivial) ?_ | refine dx_condF mixed 400 rfl (by exact trivial) ?_))
    refine dx_fin mixed 400 rfl (by exact trivial) ?_
    exact RD.ret1 rfl rfl rfl
  (repeat (first | refine dx_condT mixed 400 rfl (by exact trivial) ?_ | refine dx_condF mixed 400 rfl (by exact trivial) ?_))
  refine dx_cond mixed 400 rfl (by exact trivial) ?_ ?_ <;> intro h2
  · (repeat (first | refine dx_condT mixed 400 rfl (by exact trivial) ?_ | refine dx_condF mixed 400 rfl (by exact trivial) ?_))
    refine dx_fin mixed 400 rfl (by exact trivial) ?_
    exact RD.ret1 rfl rfl rfl
  (repeat (first | refine dx_condT mixed 400 rfl (by exact trivial) ?_ | refine dx_condF mixed 400 rfl (by exact trivial) ?_))
  refine dx_cond mixed 400 rfl (by exact trivial) ?_ ?_ <;> intro h3
  · (repeat (first | refine dx_condT mixed 400 rfl (by exact trivial) ?_ | refine dx_condF mixed 400 rfl (by exact trivial) ?_))
    refine dx_fin mixed 400 rfl (by exact trivial) ?_
    exact RD.ret1 rfl rfl rfl
  exfalso
  have a1 := of_decide_eq_false h2
  have a2 := of_decide_eq_false h3
  omega

end Go.Proofs.YtcngmkedekmkhaaGreat
