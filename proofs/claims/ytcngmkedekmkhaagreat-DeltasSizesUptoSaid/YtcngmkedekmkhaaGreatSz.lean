/-
  Own work. The number of nodes of an expression: the program's and the specification's; the law DeltasSizes, of trees.
-/
import Derived.Test.YtcngmkedekmkhaaGreatRx
import Derived.Test.YtcngmkedekmkhaaGreatD11
namespace Go.Proofs.YtcngmkedekmkhaaGreat
open Go Go.Bw

mutual
def sizeS : Ex → Int
  | .mk _ _ _ _ _ _ ks => sizeL ks 1
def sizeL : List Ex → Int → Int
  | [], m => m
  | k :: ks, m => sizeL ks (IntKind.i64.wrap (m + sizeS k))
end

theorem exRows_len (ks : List Ex) : (Ex.rows ks).length = ks.length := by rw [Ex.rows_eq, List.length_map]
theorem exRows_get {ks : List Ex} {i : Nat} {k : Ex} (h : ks[i]? = some k) : (Ex.rows ks)[i]? = some k.row := by rw [Ex.rows_eq]; exact get_map h

theorem size_spec (e : Ex) : e.ok → Pure env.toCx 21 [.agg e.row] (.ret (intC (sizeS e))) := by
  refine Ex.ind (P := fun e => e.ok → Pure env.toCx 21 [.agg e.row] (.ret (intC (sizeS e)))) ?_ e
  intro op s l n t a ks ih ⟨hlen, hoks⟩
  obtain ⟨k, lo, hi, ns, ps, rs⟩ := l
  refine Pure.walk (E := env) Tryz.func21 rfl (by kernel_rfl) (rs := _) rfl Tryz.ntmps21 rfl ?_
  refine dx_stuck mixed 400 rfl (by exact trivial) ?_
  refine DWP.each [3, 7, 8, 9] 0 ks.length (fun i (z : Int) => [(3, .d (intC z)), (7, .d (.sl 12 (Ex.rows ks))), (8, .d (intC (Ex.rows ks).length)), (9, .d (intC i))]) (fun _ _ => []) (fun i z => sizeL ks 1 = sizeL (ks.drop i) z) 1 rfl rfl rfl rfl rfl ?_
  intro i z hi hr
  refine dx_cond mixed 400 rfl (by exact trivial) ?_ ?_ <;> intro hc
  · have hlt := lt_dec hc (by rw [exRows_len])
    have hk : ks[i]? = some ks[i] := by simp [hlt]
    have hih := ih ks[i] (List.getElem_mem _) (Ex.okL_mem hoks (List.getElem_mem _))
    rw [drop_cons hk, sizeL] at hr
    generalize ks[i] = kk at *
    refine dx_stuck mixed 400 rfl (by exact trivial) ?_
    refine DWP.idx i rfl rfl rfl rfl (exRows_get hk) rfl ?_
    obtain ⟨op', s', ⟨k', lo', hi2, ns', ps', rs'⟩, n', t', a', ks'⟩ := kk
    (refine dx_stuck mixed 400 rfl (by exact trivial) ?_; refine DWP.pure hih rfl rfl rfl ?_)
    refine dx_stuck mixed 400 rfl (by exact trivial) ?_
    exact DWP.next _ hlt (by omega) rfl rfl rfl hr
  · rw [drop_end (ge_dec hc (by rw [exRows_len]))] at hr
    (refine dx_fin mixed 400 rfl (by exact trivial) ?_; exact RD.ret1 rfl rfl (by rw [sizeS, hr]; rfl))

theorem refSize_spec (e : Ex) : e.ok → Pure env.toCx 22 [.agg e.row] (.ret (intC (sizeS e))) := by
  refine Ex.ind (P := fun e => e.ok → Pure env.toCx 22 [.agg e.row] (.ret (intC (sizeS e)))) ?_ e
  intro op s l n t a ks ih ⟨hlen, hoks⟩
  obtain ⟨k, lo, hi, ns, ps, rs⟩ := l
  refine Pure.walk (E := env) Tryz.func22 rfl (by kernel_rfl) (rs := _) rfl Tryz.ntmps22 rfl ?_
  refine dx_stuck mixed 400 rfl (by exact trivial) ?_
  refine DWP.each [1, 3, 4] 1 ks.length (fun i (z : Int) => [(1, .own 0 0), (3, .d (intC z)), (4, .d (intC i))]) (fun _ _ => [.box ((Ex.row (.mk op s (.mk k lo hi ns ps rs) n t a ks)).map .d)]) (fun i z => sizeL ks 1 = sizeL (ks.drop i) z) 1 rfl rfl rfl rfl rfl ?_
  intro i z hi hr
  refine dx_cond mixed 400 rfl (by exact trivial) ?_ ?_ <;> intro hc
  · have hlt := lt_dec hc (by rw [exRows_len])
    have hk : ks[i]? = some ks[i] := by simp [hlt]
    have hih := ih ks[i] (List.getElem_mem _) (Ex.okL_mem hoks (List.getElem_mem _))
    rw [drop_cons hk, sizeL] at hr
    generalize ks[i] = kk at *
    refine dx_stuck mixed 400 rfl (by exact trivial) ?_
    refine DWP.idx i rfl rfl rfl rfl (exRows_get hk) rfl ?_
    obtain ⟨op', s', ⟨k', lo', hi2, ns', ps', rs'⟩, n', t', a', ks'⟩ := kk
    (refine dx_stuck mixed 400 rfl (by exact trivial) ?_; refine DWP.pure hih rfl rfl rfl ?_)
    refine dx_stuck mixed 400 rfl (by exact trivial) ?_
    exact DWP.next _ hlt (by omega) rfl rfl rfl hr
  · rw [drop_end (ge_dec hc (by rw [exRows_len]))] at hr
    (refine dx_fin mixed 400 rfl (by exact trivial) ?_; exact RD.ret1 rfl rfl (by rw [sizeS, hr]; rfl))
end Go.Proofs.YtcngmkedekmkhaaGreat
