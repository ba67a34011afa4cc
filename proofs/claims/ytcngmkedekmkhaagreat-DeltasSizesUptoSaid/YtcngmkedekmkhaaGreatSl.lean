/-
  Own work. The law DeltasSizes, of trees.
-/
import Derived.Test.YtcngmkedekmkhaaGreatSz
import Derived.Test.YtcngmkedekmkhaaGreatFad5
namespace Go.Proofs.YtcngmkedekmkhaaGreat
open Go Go.Bw

theorem awake23 : Pure env.toCx 20 [] (.ret (boolC true)) := dt197

theorem deltasSizes_spec (e : Ex) (he : e.ok) : Pure env.toCx 6 [.agg e.row] (.ret (boolC true)) := by
  have h0 := awake23
  have h1 := small_spec e he 200
  have h2 := size_spec e he
  have h3 := refSize_spec e he
  obtain ⟨op, s, ⟨k, lo, hi, ns, ps, rs⟩, n, t, a, ks⟩ := e
  generalize smallS _ _ = z1 at *
  generalize sizeS _ = z2 at *
  refine Pure.walk (E := env) Tryz.func6 rfl (by kernel_rfl) (rs := _) rfl Tryz.ntmps6 rfl ?_
  refine dx_stuck mixed 400 rfl (by exact trivial) ?_
  refine DWP.pure h0 rfl rfl rfl ?_
  (repeat (first | refine dx_condT mixed 400 rfl (by exact trivial) ?_ | refine dx_condF mixed 400 rfl (by exact trivial) ?_))
  refine dx_stuck mixed 400 rfl (by exact trivial) ?_
  refine DWP.pure h1 rfl rfl rfl ?_
  refine dx_cond mixed 400 rfl (by exact trivial) ?_ ?_ <;> intro hc
  · refine dx_fin mixed 400 rfl (by exact trivial) ?_
    exact RD.ret1 rfl rfl rfl
  · refine DWP.skip (DWP.seq ?_)
    refine DWP.openR [0, 1, 2, 3, 4, 5] [] [] [] mixed rfl (by kernel_rfl) (by kernel_rfl) ?_
    refine dx_stuck mixed 400 rfl (by exact trivial) ?_
    refine DWP.lexVal rfl rfl rfl (DOpP.call h2 rfl rfl) ?_
    refine dx_stuck mixed 400 rfl (by exact trivial) ?_
    refine DWP.lexVal rfl rfl rfl (DOpP.call h3 rfl rfl) ?_
    refine dx_fin mixed 400 rfl (by exact trivial) ?_
    exact RD.ret1 rfl rfl (by simp)
end Go.Proofs.YtcngmkedekmkhaaGreat
