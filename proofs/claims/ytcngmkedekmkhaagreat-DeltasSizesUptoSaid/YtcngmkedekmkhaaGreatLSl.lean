/-
  Own work. DeltasSizes: for all argument trees.
-/
import Derived.Test.YtcngmkedekmkhaaGreatCd
import Derived.Test.YtcngmkedekmkhaaGreatSl
namespace Go.Proofs.YtcngmkedekmkhaaGreat
open Go Go.Bw

set_option maxRecDepth 100000 in
theorem law_DeltasSizes (xs : List AV) (h : ArgShs Tryz.prog 1048576 Tryz.f6.params.toList xs) : Bw.Pure env.toCx 6 xs (.ret (boolC true)) := by
  rw [Tryz.params6] at h
  obtain ⟨x, r, rfl, hx, hr⟩ := h
  simp only [ArgShs] at hr
  subst hr
  simp only [ArgSh, Tryz.underlying38] at hx
  obtain ⟨n, row, hx, rfl⟩ := hx
  obtain ⟨e, rfl, hok⟩ := sh_ex (by omega) _ _ hx
  exact deltasSizes_spec e hok
end Go.Proofs.YtcngmkedekmkhaaGreat
