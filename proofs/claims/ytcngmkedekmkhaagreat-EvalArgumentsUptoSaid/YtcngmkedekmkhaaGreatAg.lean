/-
  Own work. The test of all arguments; the law EvalArguments, of trees.
-/
import Derived.Test.YtcngmkedekmkhaaGreatAr
namespace Go.Proofs.YtcngmkedekmkhaaGreat
open Go Go.Bw

def argsL : List Pa → List Da → Int
  | p :: ps, d :: ds => if argS p.sort d != 0 then argS p.sort d else argsL ps ds
  | _, _ => 0
def argsS (ps : List Pa) (ds : List Da) : Int := if ((ps.length : Int) != (ds.length : Int)) then 1 else argsL ps ds

theorem argsL_drop : ∀ {ps : List Pa} {ds : List Da} {i : Nat} {p : Pa} {d : Da}, ps[i]? = some p → ds[i]? = some d → argsL (ps.drop i) (ds.drop i) = if argS p.sort d != 0 then argS p.sort d else argsL (ps.drop (i + 1)) (ds.drop (i + 1))
  | p' :: ps, d' :: ds, 0, p, d, h, g => by
    simp only [List.getElem?_cons_zero, Option.some.injEq] at h g; subst h; subst g; rfl
  | p' :: ps, d' :: ds, i + 1, p, d, h, g => by simpa using argsL_drop (ps := ps) (ds := ds) (by simpa using h) (by simpa using g)
theorem argsL_end {ps : List Pa} : argsL ps [] = 0 := by cases ps <;> rfl

def Da.okL (l : List Da) : Prop := ∀ d ∈ l, d.names.length ≤ 1099511627776

def fewS (l : List Da) : Bool := !decide ((l.length : Int) > 12) && l.all fun d => !decide ((d.names.length : Int) > 12)

theorem few_spec (l : List Da) (hlen : l.length ≤ 1099511627776) : Pure env.toCx 8 [dataC l] (.ret (boolC (fewS l))) := by
  have hlr : (l.map Da.row).length = l.length := by rw [List.length_map]
  have hget : ∀ {i : Nat} {s : Da}, l[i]? = some s → (l.map Da.row)[i]? = some s.row := by intro i s h; rw [List.getElem?_map, h]; rfl
  refine Pure.walk (E := env) Tryz.func8 rfl (by kernel_rfl) (rs := _) rfl Tryz.ntmps8 rfl ?_
  refine dx_cond mixed 400 rfl (by exact trivial) ?_ ?_ <;> intro h1
  · (repeat (first | refine dx_condT mixed 400 rfl (by exact trivial) ?_ | refine dx_condF mixed 400 rfl (by exact trivial) ?_))
    refine dx_fin mixed 400 rfl (by exact trivial) ?_
    rw [hlr] at h1
    exact RD.ret1 rfl rfl (by simp only [fewS, h1]; rfl)
  have hres : fewS l = l.all fun d => !decide ((d.names.length : Int) > 12) := by rw [hlr] at h1; simp only [fewS, h1]; rfl
  rw [hres]
  refine dx_stuck mixed 400 rfl (by exact trivial) ?_
  refine DWP.loop [0, 3] 0 (fun q l' es => ∃ i : Nat, i ≤ l.length ∧ q = l.length - i ∧ l' = [(0, .d (dataC l)), (3, .d (intC i))] ∧ es = [] ∧ (l.all fun d => !decide ((d.names.length : Int) > 12)) = ((l.drop i).all fun d => !decide ((d.names.length : Int) > 12))) l.length (by omega) (by exact Nat.le_refl _) rfl rfl ⟨0, by omega, by omega, rfl, rfl, by simp⟩ ?_
  rintro q l' es ⟨i, hi', rfl, rfl, rfl, hr⟩
  refine dx_cond mixed 400 rfl (by exact trivial) ?_ ?_ <;> intro hc
  · have hlt : i < l.length := by have := of_decide_eq_true hc; rw [hlr] at this; omega
    have hk : l[i]? = some l[i] := by simp [hlt]
    rw [all_drop hk] at hr
    generalize l[i] = kk at *
    obtain ⟨s', n', nm', ns'⟩ := kk
    have hln : (ns'.map fun s => [strC s]).length = ns'.length := by rw [List.length_map]
    refine dx_stuck mixed 400 rfl (by exact trivial) ?_
    refine DWP.idx i rfl rfl rfl rfl (hget hk) rfl ?_
    refine dx_cond mixed 400 rfl (by exact trivial) ?_ ?_ <;> intro hc3
    · refine dx_fin mixed 400 rfl (by exact trivial) ?_
      rw [hln] at hc3
      exact RD.ret1 rfl rfl (by rw [hr]; simp only [hc3]; rfl)
    · rw [hln] at hc3
      refine dx_stuck mixed 400 rfl (by exact trivial) ?_
      refine DWP.lp ⟨l.length - (i + 1), by omega, _, _, by exact Nat.zero_le _, rfl, rfl, i + 1, by omega, rfl, ?_, rfl, ?_⟩
      · rw [← wrap_nat (by omega)]
      · rw [hr]; simp only [hc3]; rfl
  · have hge : l.drop i = [] := by
      have := of_decide_eq_false hc
      rw [hlr] at this
      exact List.drop_eq_nil_of_le (by omega)
    refine dx_fin mixed 400 rfl (by exact trivial) ?_
    exact RD.ret1 rfl rfl (by rw [hr, hge]; rfl)

theorem args_spec (ps : List Pa) (ds : List Da) (hd : ds.length ≤ 1099511627776) (ho : Da.okL ds) : Pure env.toCx 9 [paramsC ps, dataC ds] (.ret (intC (argsS ps ds))) := by
  have hpr : (ps.map Pa.row).length = ps.length := by rw [List.length_map]
  have hdr : (ds.map Da.row).length = ds.length := by rw [List.length_map]
  have hgp : ∀ {i : Nat} {s : Pa}, ps[i]? = some s → (ps.map Pa.row)[i]? = some s.row := by intro i s h; rw [List.getElem?_map, h]; rfl
  have hgd : ∀ {i : Nat} {s : Da}, ds[i]? = some s → (ds.map Da.row)[i]? = some s.row := by intro i s h; rw [List.getElem?_map, h]; rfl
  refine Pure.walk (E := env) Tryz.func9 rfl (by kernel_rfl) (rs := _) rfl Tryz.ntmps9 rfl ?_
  refine dx_cond mixed 400 rfl (by exact trivial) ?_ ?_ <;> intro h1
  · (repeat (first | refine dx_condT mixed 400 rfl (by exact trivial) ?_ | refine dx_condF mixed 400 rfl (by exact trivial) ?_))
    refine dx_fin mixed 400 rfl (by exact trivial) ?_
    rw [hpr, hdr] at h1
    exact RD.ret1 rfl rfl (by simp only [argsS, h1]; rfl)
  rw [hpr, hdr] at h1
  have hres : argsS ps ds = argsL ps ds := by simp only [argsS, h1]; rfl
  rw [hres]
  have heq : ps.length = ds.length := by
    have : ((ps.length : Int) == (ds.length : Int)) = true := by simpa [bne] using h1
    have := eq_of_beq this
    omega
  refine dx_stuck mixed 400 rfl (by exact trivial) ?_
  refine DWP.loop [1, 13, 14, 15] 0 (fun q l' es => ∃ i : Nat, i ≤ ps.length ∧ q = ps.length - i ∧ l' = [(1, .d (dataC ds)), (13, .d (paramsC ps)), (14, .d (intC (ps.map Pa.row).length)), (15, .d (intC i))] ∧ es = [] ∧ argsL ps ds = argsL (ps.drop i) (ds.drop i)) ps.length (by omega) (by exact Nat.le_refl _) rfl rfl ⟨0, by omega, by omega, rfl, rfl, by simp⟩ ?_
  rintro q l' es ⟨i, hi', rfl, rfl, rfl, hr⟩
  refine dx_cond mixed 400 rfl (by exact trivial) ?_ ?_ <;> intro hc
  · have hlt : i < ps.length := by have := of_decide_eq_true hc; rw [hpr] at this; omega
    have hkp : ps[i]? = some ps[i] := by simp [hlt]
    have hkd : ds[i]? = some (ds[i]'(by omega)) := by simp [show i < ds.length by omega]
    have ha := arg_spec ps[i].sort (ds[i]'(by omega)) (ho _ (List.getElem_mem _))
    rw [argsL_drop hkp hkd] at hr
    generalize ps[i] = kp at *
    generalize ds[i]'(by omega) = kd at *
    obtain ⟨pn, pso⟩ := kp
    obtain ⟨s', n', nm', ns'⟩ := kd
    generalize argS _ _ = z at *
    refine dx_stuck mixed 400 rfl (by exact trivial) ?_
    refine DWP.idx i rfl rfl rfl rfl (hgp hkp) rfl ?_
    refine dx_stuck mixed 6 rfl (by exact trivial) ?_
    refine DWP.openR [0, 1, 2, 3, 4, 5, 6, 7] [] [] [] mixed rfl (by kernel_rfl) (by kernel_rfl) ?_
    refine dx_stuck mixed 400 rfl (by exact trivial) ?_
    refine DWP.lexVal rfl rfl rfl (DOpP.idx i rfl rfl rfl rfl rfl (hgd hkd)) ?_
    refine dx_stuck mixed 400 rfl (by exact trivial) ?_
    refine DWP.lexVal rfl rfl rfl (DOpP.call ha rfl rfl) ?_
    refine dx_cond mixed 400 rfl (by exact trivial) ?_ ?_ <;> intro hc3
    · refine dx_fin mixed 400 rfl (by exact trivial) ?_
      exact RD.ret1 rfl rfl (by rw [hr]; simp only [hc3]; rfl)
    · refine dx_stuck mixed 400 rfl (by exact trivial) ?_
      refine DWP.lp ⟨ps.length - (i + 1), by omega, _, _, by exact Nat.zero_le _, rfl, rfl, i + 1, by omega, rfl, ?_, rfl, ?_⟩
      · rw [← wrap_nat (by omega)]
      · rw [hr]; simp only [hc3]; rfl
  · have hge : ds.drop i = [] := by
      have := of_decide_eq_false hc
      rw [hpr] at this
      exact List.drop_eq_nil_of_le (by omega)
    refine dx_fin mixed 400 rfl (by exact trivial) ?_
    exact RD.ret1 rfl rfl (by rw [hr, hge, argsL_end])

theorem refArgs_spec (ps : List Pa) (ds : List Da) (hd : ds.length ≤ 1099511627776) (ho : Da.okL ds) : Pure env.toCx 10 [paramsC ps, dataC ds] (.ret (intC (argsS ps ds))) := by
  have hpr : (ps.map Pa.row).length = ps.length := by rw [List.length_map]
  have hdr : (ds.map Da.row).length = ds.length := by rw [List.length_map]
  have hgp : ∀ {i : Nat} {s : Pa}, ps[i]? = some s → (ps.map Pa.row)[i]? = some s.row := by intro i s h; rw [List.getElem?_map, h]; rfl
  have hgd : ∀ {i : Nat} {s : Da}, ds[i]? = some s → (ds.map Da.row)[i]? = some s.row := by intro i s h; rw [List.getElem?_map, h]; rfl
  refine Pure.walk (E := env) Tryz.func10 rfl (by kernel_rfl) (rs := _) rfl Tryz.ntmps10 rfl ?_
  refine dx_cond mixed 400 rfl (by exact trivial) ?_ ?_ <;> intro h1
  · (repeat (first | refine dx_condT mixed 400 rfl (by exact trivial) ?_ | refine dx_condF mixed 400 rfl (by exact trivial) ?_))
    refine dx_fin mixed 400 rfl (by exact trivial) ?_
    rw [hpr, hdr] at h1
    exact RD.ret1 rfl rfl (by simp only [argsS, h1]; rfl)
  rw [hpr, hdr] at h1
  have hres : argsS ps ds = argsL ps ds := by simp only [argsS, h1]; rfl
  rw [hres]
  have heq : ps.length = ds.length := by
    have : ((ps.length : Int) == (ds.length : Int)) = true := by simpa [bne] using h1
    have := eq_of_beq this
    omega
  refine dx_stuck mixed 400 rfl (by exact trivial) ?_
  refine DWP.loop [0, 1, 5] 0 (fun q l' es => ∃ i : Nat, i ≤ ps.length ∧ q = ps.length - i ∧ l' = [(0, .d (paramsC ps)), (1, .d (dataC ds)), (5, .d (intC i))] ∧ es = [] ∧ argsL ps ds = argsL (ps.drop i) (ds.drop i)) ps.length (by omega) (by exact Nat.le_refl _) rfl rfl ⟨0, by omega, by omega, rfl, rfl, by simp⟩ ?_
  rintro q l' es ⟨i, hi', rfl, rfl, rfl, hr⟩
  refine dx_cond mixed 400 rfl (by exact trivial) ?_ ?_ <;> intro hc
  · have hlt : i < ps.length := by have := of_decide_eq_true hc; rw [hdr] at this; omega
    have hkp : ps[i]? = some ps[i] := by simp [hlt]
    have hkd : ds[i]? = some (ds[i]'(by omega)) := by simp [show i < ds.length by omega]
    have ha := refArg_spec ps[i].sort (ds[i]'(by omega)) (ho _ (List.getElem_mem _))
    rw [argsL_drop hkp hkd] at hr
    generalize ps[i] = kp at *
    generalize ds[i]'(by omega) = kd at *
    obtain ⟨pn, pso⟩ := kp
    obtain ⟨s', n', nm', ns'⟩ := kd
    generalize argS _ _ = z at *
    refine dx_stuck mixed 4 rfl (by exact trivial) ?_
    refine DWP.openR [0, 1, 2, 3, 4, 5, 6, 7, 8, 9, 10] [] [] [] mixed rfl (by kernel_rfl) (by kernel_rfl) ?_
    refine dx_stuck mixed 400 rfl (by exact trivial) ?_
    refine DWP.lexVal rfl rfl rfl (DOpP.idx i rfl rfl rfl rfl rfl (hgp hkp)) ?_
    refine dx_stuck mixed 400 rfl (by exact trivial) ?_
    refine DWP.lexVal rfl rfl rfl (DOpP.idx i rfl rfl rfl rfl rfl (hgd hkd)) ?_
    refine dx_stuck mixed 400 rfl (by exact trivial) ?_
    refine DWP.lexVal rfl rfl rfl (DOpP.call ha rfl rfl) ?_
    refine dx_cond mixed 400 rfl (by exact trivial) ?_ ?_ <;> intro hc3
    · refine dx_fin mixed 400 rfl (by exact trivial) ?_
      exact RD.ret1 rfl rfl (by rw [hr]; simp only [hc3]; rfl)
    · refine dx_stuck mixed 400 rfl (by exact trivial) ?_
      refine DWP.lp ⟨ps.length - (i + 1), by omega, _, _, by exact Nat.zero_le _, rfl, rfl, i + 1, by omega, rfl, ?_, rfl, ?_⟩
      · rw [← wrap_nat (by omega)]
      · rw [hr]; simp only [hc3]; rfl
  · have hge : ds.drop i = [] := by
      have := of_decide_eq_false hc
      rw [hdr] at this
      exact List.drop_eq_nil_of_le (by omega)
    refine dx_fin mixed 400 rfl (by exact trivial) ?_
    exact RD.ret1 rfl rfl (by rw [hr, hge, argsL_end])
end Go.Proofs.YtcngmkedekmkhaaGreat
