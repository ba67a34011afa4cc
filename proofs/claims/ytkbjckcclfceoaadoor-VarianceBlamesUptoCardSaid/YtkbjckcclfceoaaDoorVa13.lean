/-
  Own work. The statement VarianceComposes: what its function computes.
-/
import Derived.Test.YtkbjckcclfceoaaDoorVa12
import Derived.Test.YtkbjckcclfceoaaDoorAw12
namespace Go.Proofs.YtkbjckcclfceoaaDoor
open Go Go.Aw
attribute [local irreducible] AWP AOps AQO ALx

theorem bin_ok (op : Int) {x y : Ex} (hx : x.ok) (hy : y.ok) : (bin op x y).ok := by simp [bin, Ex.ok, Ex.okL, hx, hy]
theorem un_ok (op : Int) {x : Ex} (hx : x.ok) : (un op x).ok := by simp [un, Ex.ok, Ex.okL, hx]

def litE (op : Int) (ks : List (List AV)) : List AV := [intC op, intC 0, intC 0, intC 0, intC 0, .v (.slice none 0 0), .v (.slice none 0 0), .v (.slice none 0 0), intC 0, strC ByteArray.empty, intC 0, .sl 12 ks]
theorem imp_un (op : Int) (x : Ex) : Imp (.agg (litE op [x.row])) (.agg (Ex.row (un op x))) := by
  refine Imp.agg ?_
  repeat' (first | exact ImpL.nil | refine ImpL.cons ?_ ?_ | exact Imp.refl _ | exact Imp.nil _)
theorem imp_bin (op : Int) (x y : Ex) : Imp (.agg (litE op [x.row, y.row])) (.agg (Ex.row (bin op x y))) := by
  refine Imp.agg ?_
  repeat' (first | exact ImpL.nil | refine ImpL.cons ?_ ?_ | exact Imp.refl _ | exact Imp.nil _)

set_option maxHeartbeats 8000000 in
theorem composes_spec (x y : Ex) (hx : x.ok) (hy : y.ok) : Pure env.toCx 5 [.agg x.row, .agg y.row] (boolC true) := by
  have hsx := small_spec x hx 150 (by omega) (by omega)
  have hsy := small_spec y hy 150 (by omega) (by omega)
  have hox := of_spec x hx
  have hoy := of_spec y hy
  have hn := of_spec _ (un_ok 10 hx)
  have hb := fun op => of_spec _ (bin_ok op hx hy)
  unfold OfOk at *
  have e1 := of_not x
  have e2 := fun op h => of_bin op h x y
  have e3 := of_minus x y
  have e4 := of_leq x y
  have i1 := imp_un 10 x
  have i2 := fun op => imp_bin op x y
  unfold litE at i1 i2
  rw [e1] at hn
  generalize roomS x _ = z1 at *
  generalize roomS y _ = z2 at *
  generalize ofS x = a at *
  generalize ofS y = b at *
  obtain ⟨op, s, ⟨k, lo, hi, ns, ps, rs⟩, n, t, at_, ks⟩ := x
  obtain ⟨op', s', ⟨k', lo', hi', ns', ps', rs'⟩, n', t', at', ks'⟩ := y
  refine Pure.enter (E := env) Tryd.func5 rfl (by kernel_rfl) _ rfl _ Tryd.ntmps5 rfl ?_
  refine CWP.one ?_
  repeat' (refine CWP.id ?_; first | refine sx_condT (E := env) 400 rfl ?_ | refine sx_condF (E := env) 400 rfl ?_ | (refine sx_cond (E := env) 400 rfl ?_ ?_ <;> intro hc) | refine sx_fin (E := env) 400 rfl ?_ | (refine sx_stuck (E := env) 400 rfl ?_; refine CWP.ops ?_; (first | refine AOps.pure awake_spec rfl rfl ?_ | refine AOps.pure hsx rfl rfl ?_ | refine AOps.pure hsy rfl rfl ?_ | refine AOps.pure hox rfl rfl ?_ | refine AOps.pure hoy rfl rfl ?_ | refine AOps.pure (flip_spec _) rfl rfl ?_ | refine AOps.pure (both_spec _ _) rfl rfl ?_ | (refine AOps.lit (E := env) rfl rfl rfl rfl rfl rfl ?_; intro _; refine AOps.freeze 0 26 rfl rfl ?_) | (refine AOps.lit (E := env) rfl rfl rfl rfl rfl rfl ?_; intro _; refine AOps.freeze 0 28 rfl rfl ?_) | (refine AOps.lit (E := env) rfl rfl rfl rfl rfl rfl ?_; intro _; refine AOps.freeze 0 34 rfl rfl ?_) | (refine AOps.conv (t := 29) _ rfl i1 ?_; refine AOps.pure hn rfl rfl ?_) | (refine AOps.conv (t := 42) _ rfl (i2 _) ?_; refine AOps.pure (hb _) rfl rfl ?_) | (refine AOps.conv (t := 50) _ rfl (i2 _) ?_; refine AOps.pure (hb _) rfl rfl ?_) | (refine AOps.conv (t := 59) _ rfl (i2 _) ?_; refine AOps.pure (hb _) rfl rfl ?_) | (refine AOps.box (E := env) rfl rfl ?_; intro _; refine AOps.freezeBox 0 2 rfl rfl ?_) | (refine AOps.box (E := env) rfl rfl ?_; intro _; refine AOps.freezeBox 0 3 rfl rfl ?_)); refine CWP.of_ops ?_))
  all_goals (try (refine BQ.ret1 (.tmp rfl) ?_; simp_all; done))
  refine sx_stuck (E := env) 400 rfl ?_
  refine CWP.loop [5, 6, 7, 34, 35, 36] 0 (fun q σ η => ∃ (i : Nat), i ≤ 4 ∧ q = 4 - i ∧
    σ = [(5, intC a), (6, intC b), (7, .sl 12 [Ex.row (.mk op s (.mk k lo hi ns ps rs) n t at_ ks), Ex.row (.mk op' s' (.mk k' lo' hi' ns' ps' rs') n' t' at' ks')]), (34, .sl 1 [[intC 9], [intC 8], [intC 17], [intC 16]]), (35, intC 4), (36, intC i)] ∧ η = []) 4
    ⟨_, rfl, 0, by omega, rfl, rfl, rfl⟩ ?_
  rintro q σ η ⟨i, hi4, hm, rfl, rfl⟩
  refine sx_cond (E := env) 400 rfl ?_ ?_ <;> intro hc
  · have hlt : i < 4 := by have := of_decide_eq_true hc; omega
    obtain ⟨o, hrow, ho⟩ : ∃ o : Int, ([[intC 9], [intC 8], [intC 17], [intC 16]] : List (List AV))[i]? = some [intC o] ∧ (o = 9 ∨ o = 8 ∨ o = 17 ∨ o = 16) := by
      match i, hlt with
      | 0, _ => exact ⟨9, rfl, by omega⟩
      | 1, _ => exact ⟨8, rfl, by omega⟩
      | 2, _ => exact ⟨17, rfl, by omega⟩
      | 3, _ => exact ⟨16, rfl, by omega⟩
    have he2 := e2 o ho
    refine sx_stuck (E := env) 400 rfl ?_
    refine CWP.ops ?_
    refine AOps.idx (E := env) i hrow rfl rfl rfl rfl rfl ?_
    refine CWP.of_ops ?_
    repeat' (refine CWP.id ?_; first | refine sx_condT (E := env) 400 rfl ?_ | refine sx_condF (E := env) 400 rfl ?_ | (refine sx_cond (E := env) 400 rfl ?_ ?_ <;> intro hc) | refine sx_fin (E := env) 400 rfl ?_ | (refine sx_stuck (E := env) 400 rfl ?_; refine CWP.ops ?_; (first | refine AOps.pure awake_spec rfl rfl ?_ | refine AOps.pure hsx rfl rfl ?_ | refine AOps.pure hsy rfl rfl ?_ | refine AOps.pure hox rfl rfl ?_ | refine AOps.pure hoy rfl rfl ?_ | refine AOps.pure (flip_spec _) rfl rfl ?_ | refine AOps.pure (both_spec _ _) rfl rfl ?_ | (refine AOps.lit (E := env) rfl rfl rfl rfl rfl rfl ?_; intro _; refine AOps.freeze 0 26 rfl rfl ?_) | (refine AOps.lit (E := env) rfl rfl rfl rfl rfl rfl ?_; intro _; refine AOps.freeze 0 28 rfl rfl ?_) | (refine AOps.lit (E := env) rfl rfl rfl rfl rfl rfl ?_; intro _; refine AOps.freeze 0 34 rfl rfl ?_) | (refine AOps.conv (t := 29) _ rfl i1 ?_; refine AOps.pure hn rfl rfl ?_) | (refine AOps.conv (t := 42) _ rfl (i2 _) ?_; refine AOps.pure (hb _) rfl rfl ?_) | (refine AOps.conv (t := 50) _ rfl (i2 _) ?_; refine AOps.pure (hb _) rfl rfl ?_) | (refine AOps.conv (t := 59) _ rfl (i2 _) ?_; refine AOps.pure (hb _) rfl rfl ?_) | (refine AOps.box (E := env) rfl rfl ?_; intro _; refine AOps.freezeBox 0 2 rfl rfl ?_) | (refine AOps.box (E := env) rfl rfl ?_; intro _; refine AOps.freezeBox 0 3 rfl rfl ?_)); refine CWP.of_ops ?_))
    all_goals first
      | (refine BQ.ret1 (.tmp rfl) ?_; simp_all; done)
      | (refine sx_stuck (E := env) 400 rfl ?_; refine CWP.lp ?_; refine ⟨4 - (i + 1), by omega, _, rfl, i + 1, by omega, rfl, ?_, rfl⟩; rw [← wrap_nat (by omega)])
  · repeat' (refine CWP.id ?_; first | refine sx_condT (E := env) 400 rfl ?_ | refine sx_condF (E := env) 400 rfl ?_ | (refine sx_cond (E := env) 400 rfl ?_ ?_ <;> intro hc) | refine sx_fin (E := env) 400 rfl ?_ | (refine sx_stuck (E := env) 400 rfl ?_; refine CWP.ops ?_; (first | refine AOps.pure awake_spec rfl rfl ?_ | refine AOps.pure hsx rfl rfl ?_ | refine AOps.pure hsy rfl rfl ?_ | refine AOps.pure hox rfl rfl ?_ | refine AOps.pure hoy rfl rfl ?_ | refine AOps.pure (flip_spec _) rfl rfl ?_ | refine AOps.pure (both_spec _ _) rfl rfl ?_ | (refine AOps.lit (E := env) rfl rfl rfl rfl rfl rfl ?_; intro _; refine AOps.freeze 0 26 rfl rfl ?_) | (refine AOps.lit (E := env) rfl rfl rfl rfl rfl rfl ?_; intro _; refine AOps.freeze 0 28 rfl rfl ?_) | (refine AOps.lit (E := env) rfl rfl rfl rfl rfl rfl ?_; intro _; refine AOps.freeze 0 34 rfl rfl ?_) | (refine AOps.conv (t := 29) _ rfl i1 ?_; refine AOps.pure hn rfl rfl ?_) | (refine AOps.conv (t := 42) _ rfl (i2 _) ?_; refine AOps.pure (hb _) rfl rfl ?_) | (refine AOps.conv (t := 50) _ rfl (i2 _) ?_; refine AOps.pure (hb _) rfl rfl ?_) | (refine AOps.conv (t := 59) _ rfl (i2 _) ?_; refine AOps.pure (hb _) rfl rfl ?_) | (refine AOps.box (E := env) rfl rfl ?_; intro _; refine AOps.freezeBox 0 2 rfl rfl ?_) | (refine AOps.box (E := env) rfl rfl ?_; intro _; refine AOps.freezeBox 0 3 rfl rfl ?_)); refine CWP.of_ops ?_))
    all_goals (refine BQ.ret1 (.tmp rfl) ?_; simp_all; done)
end Go.Proofs.YtkbjckcclfceoaaDoor
