/-
  Own work. The program's reading of a state in an expression; the law EvalReads of trees.
-/
import Derived.Test.YtcngmkedekmkhaaGreatRo
namespace Go.Proofs.YtcngmkedekmkhaaGreat
open Go Go.Bw

def firstL : List Ex → Nat → Int
  | [], _ => -1
  | k :: ks, i => if readsS k then (i : Int) else firstL ks (i + 1)

theorem firstL_drop : ∀ {ks : List Ex} {i j : Nat} {k : Ex}, ks[i]? = some k → firstL (ks.drop i) j = if readsS k then (j : Int) else firstL (ks.drop (i + 1)) (j + 1)
  | k' :: ks, 0, j, k, h => by simp only [List.getElem?_cons_zero, Option.some.injEq] at h; subst h; simp [firstL]
  | k' :: ks, i + 1, j, k, h => by simpa using firstL_drop (ks := ks) (by simpa using h)

theorem firstL_reads : ∀ (ks : List Ex) (j : Nat), decide (firstL ks j ≥ 0) = readsL ks
  | [], j => by simp [firstL, readsL]
  | k :: ks, j => by
    rw [firstL, readsL]
    cases readsS k with
    | true => simp
    | false => simpa using firstL_reads ks (j + 1)

abbrev readsF : AV := .v (.func (.func 12) #[] #[])

theorem index_spec (ks : List Ex) (hlen : ks.length ≤ 1099511627776) (ih : ∀ k ∈ ks, Pure env.toCx 12 [.agg k.row] (.ret (boolC (readsS k)))) : Pure env.toCx 59 [.sl 12 (Ex.rows ks), readsF] (.ret (intC (firstL ks 0))) := by
  have hlr : (Ex.rows ks).length = ks.length := by rw [Ex.rows_eq, List.length_map]
  refine Pure.walk (E := env) Tryz.func59 rfl (by kernel_rfl) (rs := _) rfl Tryz.ntmps59 rfl ?_
  refine dx_stuck mixed 400 rfl (by exact trivial) ?_
  refine DWP.loop [0, 1, 7, 8] 0 (fun q l es => ∃ i : Nat, i ≤ ks.length ∧ q = ks.length - i ∧ l = [(0, .d (.sl 12 (Ex.rows ks))), (1, .d readsF), (7, .d (intC (Ex.rows ks).length)), (8, .d (intC i))] ∧ es = [] ∧ firstL ks 0 = firstL (ks.drop i) i) ks.length (by omega) (by exact Nat.le_refl _) rfl rfl ⟨0, by omega, by omega, rfl, rfl, by simp⟩ ?_
  rintro q l es ⟨i, hi', rfl, rfl, rfl, hr⟩
  refine dx_cond mixed 400 rfl (by exact trivial) ?_ ?_ <;> intro hc
  · have hlt : i < ks.length := by have := of_decide_eq_true hc; rw [hlr] at this; omega
    have hk : ks[i]? = some ks[i] := by simp [hlt]
    have hrow : (Ex.rows ks)[i]? = some (ks[i].row) := by rw [Ex.rows_eq, List.getElem?_map, hk]; rfl
    have hih := ih ks[i] (List.getElem_mem _)
    rw [firstL_drop hk] at hr
    generalize ks[i] = kk at *
    refine dx_stuck mixed 400 rfl (by exact trivial) ?_
    refine DWP.idx i rfl rfl rfl rfl hrow rfl ?_
    obtain ⟨op', s', ⟨k', lo', hi2, ns', ps', rs'⟩, n', t', a', ks'⟩ := kk
    refine dx_stuck mixed 400 rfl (by exact trivial) ?_
    refine DWP.pure hih rfl rfl rfl ?_
    refine dx_cond mixed 400 rfl (by exact trivial) ?_ ?_ <;> intro hc3
    · refine dx_fin mixed 400 rfl (by exact trivial) ?_
      exact RD.ret1 rfl rfl (by rw [hr, hc3]; rfl)
    · refine dx_stuck mixed 400 rfl (by exact trivial) ?_
      refine DWP.lp ⟨ks.length - (i + 1), by omega, _, _, by exact Nat.zero_le _, rfl, rfl, i + 1, by omega, rfl, ?_, rfl, ?_⟩
      · rw [← wrap_nat (by omega)]
      · rw [hr, hc3]; rfl
  · have hge : ks.drop i = [] := by
      have := of_decide_eq_false hc
      rw [hlr] at this
      exact List.drop_eq_nil_of_le (by omega)
    refine dx_fin mixed 400 rfl (by exact trivial) ?_
    exact RD.ret1 rfl rfl (by rw [hr, hge]; rfl)

theorem contains_spec (ks : List Ex) (hlen : ks.length ≤ 1099511627776) (ih : ∀ k ∈ ks, Pure env.toCx 12 [.agg k.row] (.ret (boolC (readsS k)))) : Pure env.toCx 32 [.sl 12 (Ex.rows ks), readsF] (.ret (boolC (readsL ks))) := by
  have h := index_spec ks hlen ih
  have hr := firstL_reads ks 0
  generalize firstL ks 0 = z at *
  refine Pure.walk (E := env) Tryz.func32 rfl (by kernel_rfl) (rs := _) rfl Tryz.ntmps32 rfl ?_
  refine dx_stuck mixed 400 rfl (by exact trivial) ?_
  refine DWP.pure h rfl rfl rfl ?_
  refine dx_fin mixed 400 rfl (by exact trivial) ?_
  exact RD.ret1 rfl rfl (by rw [← hr])

theorem reads_spec (e : Ex) : e.ok → Pure env.toCx 12 [.agg e.row] (.ret (boolC (readsS e))) := by
  refine Ex.ind (P := fun e => e.ok → Pure env.toCx 12 [.agg e.row] (.ret (boolC (readsS e)))) ?_ e
  intro op s l n t a ks ih hok
  obtain ⟨hlen, hoks⟩ := hok
  have h := contains_spec ks hlen fun k hk => ih k hk (Ex.okL_mem hoks hk)
  obtain ⟨k, lo, hi, ns, ps, rs⟩ := l
  rw [readsS]
  generalize readsL ks = z at *
  refine Pure.walk (E := env) Tryz.func12 rfl (by kernel_rfl) (rs := _) rfl Tryz.ntmps12 rfl ?_
  refine dx_cond mixed 400 rfl (by exact trivial) ?_ ?_ <;> intro hc
  · (repeat (first | refine dx_condT mixed 400 rfl (by exact trivial) ?_ | refine dx_condF mixed 400 rfl (by exact trivial) ?_))
    refine dx_fin mixed 400 rfl (by exact trivial) ?_
    exact RD.ret1 rfl rfl (by rw [hc]; rfl)
  · (repeat (first | refine dx_condT mixed 400 rfl (by exact trivial) ?_ | refine dx_condF mixed 400 rfl (by exact trivial) ?_))
    refine dx_stuck mixed 400 rfl (by exact trivial) ?_
    refine DWP.pure h rfl rfl rfl ?_
    refine dx_fin mixed 400 rfl (by exact trivial) ?_
    exact RD.ret1 rfl rfl (by rw [hc]; rfl)
end Go.Proofs.YtcngmkedekmkhaaGreat
