/-
  DecideBelow is proved as it is given in its second form: the law returns true for every input whose bulk is within the given bound. No condition of its own.
-/
import Derived.Test.YtcngmkedekmkhaaGreatCBe
namespace Go.Proofs.YtcngmkedekmkhaaGreat.decideBelow
open Go Go.Bw Go.ChangeShapes Go.WideShapes Go.ChangeAt Go.RowKit
theorem facts : joinedFacts Tryz.pinned.checked.prog 5 Tryz.f5 (Rows.OpenSpec.upto Rows.decideBelowSpec).bare Rows.decideBelowUptoRow = true := by kernel_rfl
theorem said : Rows.DecideBelowUptoSaid :=
  OpenClaim.holds_of_cond 5 Tryz.f5 rfl rfl rfl rfl rfl rfl rfl ⟨rfl, rfl, rfl, rfl, rfl⟩ rfl rfl rfl rfl rfl (by kernel_rfl) Tryz.func5 facts
    (of_decide_eq_true (by kernel_rfl)) (by unfold Func.isWrapper; first | (rw [if_pos (by decide +kernel)]; kernel_rfl) | (rw [if_neg (by decide +kernel)]; exact ⟨rfl, rfl⟩))
    (fun os started H enc _ F => by rw [OpenClaim.pre_eq_preRow]; exact lifted os started H enc F)
end Go.Proofs.YtcngmkedekmkhaaGreat.decideBelow
