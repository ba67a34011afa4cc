/-
  Own work. What the reading of a state in an expression comes to.
-/
import Derived.Test.YtcngmkedekmkhaaGreatLa
import Derived.Test.YtcngmkedekmkhaaGreatD9
namespace Go.Proofs.YtcngmkedekmkhaaGreat
open Go Go.Bw

theorem Ex.ind {P : Ex → Prop} (h : ∀ op s l n t a ks, (∀ k ∈ ks, P k) → P (.mk op s l n t a ks)) : ∀ e, P e := by
  intro e
  refine Ex.rec (motive_1 := P) (motive_2 := fun ks => ∀ k ∈ ks, P k) ?_ ?_ ?_ e
  · intro op s l n t a ks ih; exact h op s l n t a ks ih
  · intro k hk; cases hk
  · intro k ks h1 h2 x hx
    rcases List.mem_cons.1 hx with rfl | hx
    · exact h1
    · exact h2 x hx

mutual
def readsS : Ex → Bool
  | .mk op _ _ _ _ _ ks => op == 5 || readsL ks
def readsL : List Ex → Bool
  | [] => false
  | k :: ks => readsS k || readsL ks
end

theorem readsL_drop : ∀ {ks : List Ex} {i : Nat} {k : Ex}, ks[i]? = some k → readsL (ks.drop i) = (readsS k || readsL (ks.drop (i + 1)))
  | k' :: ks, 0, k, h => by simp only [List.getElem?_cons_zero, Option.some.injEq] at h; subst h; simp [readsL]
  | k' :: ks, i + 1, k, h => by simpa using readsL_drop (ks := ks) (by simpa using h)

mutual
def Ex.ok : Ex → Prop
  | .mk _ _ _ _ _ _ ks => ks.length ≤ 1099511627776 ∧ Ex.okL ks
def Ex.okL : List Ex → Prop
  | [] => True
  | k :: ks => Ex.ok k ∧ Ex.okL ks
end
theorem Ex.okL_mem : ∀ {ks : List Ex} {k : Ex}, Ex.okL ks → k ∈ ks → k.ok
  | x :: ks, k, h, hk => by
    rcases List.mem_cons.1 hk with rfl | hk
    · exact h.1
    · exact Ex.okL_mem h.2 hk

theorem refReads_spec (e : Ex) : e.ok → Pure env.toCx 13 [.agg e.row] (.ret (boolC (readsS e))) := by
  refine Ex.ind (P := fun e => e.ok → Pure env.toCx 13 [.agg e.row] (.ret (boolC (readsS e)))) ?_ e
  intro op s l n t a ks ih hok
  obtain ⟨hlen, hoks⟩ := hok
  obtain ⟨k, lo, hi, ns, ps, rs⟩ := l
  refine Pure.walk (E := env) Tryz.func13 rfl (by kernel_rfl) (rs := _) rfl Tryz.ntmps13 rfl ?_
  refine dx_cond mixed 400 rfl (by exact trivial) ?_ ?_ <;> intro hc
  · refine dx_fin mixed 400 rfl (by exact trivial) ?_
    exact RD.ret1 rfl rfl (by simp [readsS, hc])
  · refine dx_stuck mixed 400 rfl (by exact trivial) ?_
    refine DWP.loop [1, 3] 1 (fun q l es => ∃ i : Nat, i ≤ ks.length ∧ q = ks.length - i ∧ l = [(1, .own 0 0), (3, .d (intC i))] ∧ es = [.box ((Ex.row (.mk op s (.mk k lo hi ns ps rs) n t a ks)).map .d)] ∧ readsL ks = readsL (ks.drop i)) ks.length (by omega) (by exact Nat.le_refl _) rfl rfl ⟨0, by omega, by omega, rfl, rfl, by simp⟩ ?_
    rintro q l es ⟨i, hi', rfl, rfl, rfl, hr⟩
    refine dx_cond mixed 400 rfl (by exact trivial) ?_ ?_ <;> intro hc2
    · have hlt : i < ks.length := by have := of_decide_eq_true hc2; simp [Ex.rows_eq] at this; omega
      have hk : ks[i]? = some ks[i] := by simp [hlt]
      have hrow : (Ex.rows ks)[i]? = some (ks[i].row) := by rw [Ex.rows_eq, List.getElem?_map, hk]; rfl
      have hih := ih ks[i] (List.getElem_mem _) (Ex.okL_mem hoks (List.getElem_mem _))
      rw [readsL_drop hk] at hr
      generalize ks[i] = kk at *
      refine dx_stuck mixed 400 rfl (by exact trivial) ?_
      refine DWP.idx i rfl rfl rfl rfl hrow rfl ?_
      obtain ⟨op', s', ⟨k', lo', hi2, ns', ps', rs'⟩, n', t', a', ks'⟩ := kk
      refine dx_stuck mixed 400 rfl (by exact trivial) ?_
      refine DWP.pure hih rfl rfl rfl ?_
      refine dx_cond mixed 400 rfl (by exact trivial) ?_ ?_ <;> intro hc3
      · refine dx_fin mixed 400 rfl (by exact trivial) ?_
        exact RD.ret1 rfl rfl (by rw [readsS, hr, hc3]; simp)
      · refine dx_stuck mixed 400 rfl (by exact trivial) ?_
        refine DWP.lp ⟨ks.length - (i + 1), by omega, _, _, by exact Nat.le_add_left 1 0, rfl, rfl, i + 1, by omega, rfl, ?_, rfl, ?_⟩
        · rw [← wrap_nat (by omega)]
        · rw [hr, hc3]; rfl
    · have hge : ks.drop i = [] := by
        have := of_decide_eq_false hc2
        simp [Ex.rows_eq] at this
        exact List.drop_eq_nil_of_le (by omega)
      refine dx_fin mixed 400 rfl (by exact trivial) ?_
      exact RD.ret1 rfl rfl (by rw [readsS, hc, hr, hge]; rfl)
end Go.Proofs.YtcngmkedekmkhaaGreat
