/-
  Own work. Whether an expression has at most so many nodes: what the specification's function computes.
-/
import Derived.Test.YtcngmkedekmkhaaGreatRe
namespace Go.Proofs.YtcngmkedekmkhaaGreat
open Go Go.Bw

mutual
def roomS : Ex → Int → Int
  | .mk _ _ _ _ _ _ ks, m => if decide (m < 1) || decide ((ks.length : Int) > m) then -1 else roomL ks (IntKind.i64.wrap (m - 1))
def roomL : List Ex → Int → Int
  | [], m => m
  | k :: ks, m => if decide (m ≥ 0) then roomL ks (roomS k m) else m
end

theorem roomL_drop : ∀ {ks : List Ex} {i : Nat} {k : Ex} {m : Int}, ks[i]? = some k → decide (m ≥ 0) = true → roomL (ks.drop i) m = roomL (ks.drop (i + 1)) (roomS k m)
  | k' :: ks, 0, k, m, h, hm => by simp only [List.getElem?_cons_zero, Option.some.injEq] at h; subst h; simp only [List.drop_zero, roomL, hm, if_true, List.drop_succ_cons]
  | k' :: ks, i + 1, k, m, h, hm => by simpa using roomL_drop (ks := ks) (by simpa using h) hm

theorem roomL_neg : ∀ {ks : List Ex} {m : Int}, decide (m ≥ 0) = false → roomL ks m = m
  | [], m, _ => rfl
  | k :: ks, m, h => by simp only [roomL, h]; rfl

theorem room_spec (e : Ex) : e.ok → ∀ m, Pure env.toCx 31 [.agg e.row, intC m] (.ret (intC (roomS e m))) := by
  refine Ex.ind (P := fun e => e.ok → ∀ m, Pure env.toCx 31 [.agg e.row, intC m] (.ret (intC (roomS e m)))) ?_ e
  intro op s l n t a ks ih hok m
  obtain ⟨hlen, hoks⟩ := hok
  obtain ⟨k, lo, hi, ns, ps, rs⟩ := l
  have hlr : (Ex.rows ks).length = ks.length := by rw [Ex.rows_eq, List.length_map]
  refine Pure.walk (E := env) Tryz.func31 rfl (by kernel_rfl) (rs := _) rfl Tryz.ntmps31 rfl ?_
  refine dx_cond mixed 400 rfl (by exact trivial) ?_ ?_ <;> intro hc
  · (repeat (first | refine dx_condT mixed 400 rfl (by exact trivial) ?_ | refine dx_condF mixed 400 rfl (by exact trivial) ?_))
    refine dx_fin mixed 400 rfl (by exact trivial) ?_
    exact RD.ret1 rfl rfl (by simp [roomS, hc])
  · (repeat (first | refine dx_condT mixed 400 rfl (by exact trivial) ?_ | refine dx_condF mixed 400 rfl (by exact trivial) ?_))
    refine dx_cond mixed 400 rfl (by exact trivial) ?_ ?_ <;> intro hc2
    · refine dx_fin mixed 400 rfl (by exact trivial) ?_
      exact RD.ret1 rfl rfl (by rw [hlr] at hc2; simp only [roomS, hc, hc2, Bool.or_true, if_true])
    · have hres : roomS (.mk op s (.mk k lo hi ns ps rs) n t a ks) m = roomL ks (IntKind.i64.wrap (m - 1)) := by
        rw [hlr] at hc2
        rw [roomS, hc, hc2]; rfl
      refine dx_stuck mixed 400 rfl (by exact trivial) ?_
      refine DWP.loop [1, 2, 5] 1 (fun q l es => ∃ (i : Nat) (z : Int), i ≤ ks.length ∧ q = ks.length - i ∧ l = [(1, .d (intC z)), (2, .own 0 0), (5, .d (intC i))] ∧ es = [.box ((Ex.row (.mk op s (.mk k lo hi ns ps rs) n t a ks)).map .d)] ∧ roomL ks (IntKind.i64.wrap (m - 1)) = roomL (ks.drop i) z) ks.length (by omega) (by exact Nat.le_refl _) rfl rfl ⟨0, _, by omega, by omega, rfl, rfl, by simp⟩ ?_
      rintro q l es ⟨i, z, hi', rfl, rfl, rfl, hr⟩
      refine dx_cond mixed 400 rfl (by exact trivial) ?_ ?_ <;> intro hc3
      · have hlt : i < ks.length := by have := of_decide_eq_true hc3; rw [hlr] at this; omega
        have hk : ks[i]? = some ks[i] := by simp [hlt]
        have hrow : (Ex.rows ks)[i]? = some (ks[i].row) := by rw [Ex.rows_eq, List.getElem?_map, hk]; rfl
        have hih := ih ks[i] (List.getElem_mem _) (Ex.okL_mem hoks (List.getElem_mem _)) z
        (repeat (first | refine dx_condT mixed 400 rfl (by exact trivial) ?_ | refine dx_condF mixed 400 rfl (by exact trivial) ?_))
        refine dx_cond mixed 400 rfl (by exact trivial) ?_ ?_ <;> intro hc4
        · rw [roomL_drop hk hc4] at hr
          generalize ks[i] = kk at *
          refine dx_stuck mixed 400 rfl (by exact trivial) ?_
          refine DWP.idx i rfl rfl rfl rfl hrow rfl ?_
          obtain ⟨op', s', ⟨k', lo', hi2, ns', ps', rs'⟩, n', t', a', ks'⟩ := kk
          refine dx_stuck mixed 400 rfl (by exact trivial) ?_
          refine DWP.pure hih rfl rfl rfl ?_
          refine dx_stuck mixed 400 rfl (by exact trivial) ?_
          refine DWP.lp ⟨ks.length - (i + 1), by omega, _, _, by exact Nat.le_add_left 1 0, rfl, rfl, i + 1, _, by omega, rfl, ?_, rfl, hr⟩
          rw [← wrap_nat (by omega)]
        · refine dx_fin mixed 400 rfl (by exact trivial) ?_
          exact RD.ret1 rfl rfl (by rw [hres, hr, roomL_neg hc4])
      · have hge : ks.drop i = [] := by
          have := of_decide_eq_false hc3
          rw [hlr] at this
          exact List.drop_eq_nil_of_le (by omega)
        (repeat (first | refine dx_condT mixed 400 rfl (by exact trivial) ?_ | refine dx_condF mixed 400 rfl (by exact trivial) ?_))
        refine dx_fin mixed 400 rfl (by exact trivial) ?_
        exact RD.ret1 rfl rfl (by rw [hres, hr, hge]; rfl)

def smallS (e : Ex) (m : Int) : Bool := decide (roomS e m ≥ 0)

theorem small_spec (e : Ex) (he : e.ok) (m : Int) : Pure env.toCx 11 [.agg e.row, intC m] (.ret (boolC (smallS e m))) := by
  have h := room_spec e he m
  obtain ⟨op, s, ⟨k, lo, hi, ns, ps, rs⟩, n, t, a, ks⟩ := e
  unfold smallS
  generalize roomS _ _ = z at *
  refine Pure.walk (E := env) Tryz.func11 rfl (by kernel_rfl) (rs := _) rfl Tryz.ntmps11 rfl ?_
  refine dx_stuck mixed 400 rfl (by exact trivial) ?_
  refine DWP.pure h rfl rfl rfl ?_
  refine dx_fin mixed 400 rfl (by exact trivial) ?_
  exact RD.ret1 rfl rfl rfl
end Go.Proofs.YtcngmkedekmkhaaGreat
