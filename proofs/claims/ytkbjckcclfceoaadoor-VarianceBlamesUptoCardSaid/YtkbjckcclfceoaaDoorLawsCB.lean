/-
  Own work. VarianceComposes and VarianceBlames: for all argument trees.
-/
import Derived.Test.YtkbjckcclfceoaaDoorCd
import Derived.Test.YtkbjckcclfceoaaDoorVa13
namespace Go.Proofs.YtkbjckcclfceoaaDoor
open Go Go.Aw

theorem law_VarianceBlames (xs : List AV) (h : ArgShs Tryd.prog 1048576 Tryd.f6.params.toList xs) : Pure env.toCx 6 xs (boolC true) := by
  rw [Tryd.params6] at h
  obtain ⟨x, r, rfl, hx, hr⟩ := h
  simp only [ArgShs] at hr
  subst hr
  simp only [ArgSh, Tryd.underlying43] at hx
  obtain ⟨n, row, hx, rfl⟩ := hx
  obtain ⟨f, rfl, hok⟩ := sh_fu (by omega) hx
  exact blames_spec f hok

theorem law_VarianceComposes (xs : List AV) (h : ArgShs Tryd.prog 1048576 Tryd.f5.params.toList xs) : Pure env.toCx 5 xs (boolC true) := by
  rw [Tryd.params5] at h
  obtain ⟨x, r, rfl, hx, y, r', rfl, hy, hr⟩ := h
  simp only [ArgShs] at hr
  subst hr
  simp only [ArgSh, Tryd.underlying36] at hx hy
  obtain ⟨n, row, hx, rfl⟩ := hx
  obtain ⟨m, row', hy, rfl⟩ := hy
  obtain ⟨e, rfl, hok⟩ := sh_ex (by omega) _ _ hx
  obtain ⟨f, rfl, hok'⟩ := sh_ex (by omega) _ _ hy
  exact composes_spec e f hok hok'
end Go.Proofs.YtkbjckcclfceoaaDoor
