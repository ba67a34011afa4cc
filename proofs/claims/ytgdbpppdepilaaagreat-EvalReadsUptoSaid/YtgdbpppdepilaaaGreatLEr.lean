/-
  Own work. EvalReads: for all argument trees.
-/
import Derived.Test.YtgdbpppdepilaaaGreatCd
import Derived.Test.YtgdbpppdepilaaaGreatEr
namespace Go.Proofs.YtgdbpppdepilaaaGreat
open Go Go.Bw

set_option maxRecDepth 100000 in
theorem law_EvalReads (xs : List AV) (h : ArgShs Tryz.prog 1048576 Tryz.f4.params.toList xs) : Bw.Pure env.toCx 4 xs (.ret (boolC true)) := by
  rw [Tryz.params4] at h
  obtain ⟨x, r, rfl, hx, hr⟩ := h
  simp only [ArgShs] at hr
  subst hr
  simp only [ArgSh, Tryz.underlying38] at hx
  obtain ⟨n, row, hx, rfl⟩ := hx
  obtain ⟨e, rfl, hok⟩ := sh_ex (by omega) _ _ hx
  exact evalReads_spec e hok
end Go.Proofs.YtgdbpppdepilaaaGreat
