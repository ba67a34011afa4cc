/-
  Own work. DecideBelow: for all argument trees.
-/
import Derived.Test.YtcngmkedekmkhaaGreatCd
import Derived.Test.YtcngmkedekmkhaaGreatKBl
namespace Go.Proofs.YtcngmkedekmkhaaGreat
open Go Go.Bw
set_option maxRecDepth 100000 in
theorem law_DecideBelow (xs : List AV) (h : ArgShs Tryz.prog 1048576 Tryz.f5.params.toList xs) : Bw.Pure env.toCx 5 xs (.ret (boolC true)) := by
  rw [Tryz.params5] at h
  obtain ⟨x, r, rfl, hx, x2, r2, rfl, hx2, x3, r3, rfl, hx3, hr⟩ := h
  simp only [ArgShs] at hr
  subst hr
  simp only [ArgSh, Tryz.underlying42] at hx hx2 hx3
  obtain ⟨n, row, hx, rfl⟩ := hx
  obtain ⟨n2, row2, hx2, rfl⟩ := hx2
  obtain ⟨n3, row3, hx3, rfl⟩ := hx3
  obtain ⟨a, rfl, ha⟩ := TDatum.sh _ _ hx
  obtain ⟨b, rfl, hb⟩ := TDatum.sh _ _ hx2
  obtain ⟨c, rfl, hc⟩ := TDatum.sh _ _ hx3
  exact P5_ok (decideBelow_plain ha.2.2.2.1 hb.2.2.2.1 hc.2.2.2.1)
end Go.Proofs.YtcngmkedekmkhaaGreat
