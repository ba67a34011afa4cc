/-
  Own work. From the rows' worlds to the walks: what a call leaves.
-/
import Derived.Test.YtcngmkedekmkhaaGreatRx
import Derived.Test.YtcngmkedekmkhaaGreatChecked
import Derived.ProofKit
import Derived.OpenShut
import Derived.Deep.DeepHandedRow
import Derived.SevenTiedAt
namespace Go.Proofs.YtcngmkedekmkhaaGreat
open Go Go.Bw Go.ChangeShapes Go.WideShapes Go.ChangeAt Go.RowKit

theorem own : ownKnob Tryz.prog.godebug = none := by kernel_rfl

theorem gok_none {W : World} {A : Nat → Prop} : GOk env.toCx.G W A := fun p hp => by cases hp

theorem kept_of_ext {W W' : World} (h : Ext [] W [] W') (may : MemPlace → Prop) : W.keptBut W' may := by
  refine ⟨h.os, h.output, fun i hi => ?_⟩
  rw [h.block i hi (by simp [ids])]
  cases W.heap[i]? with
  | none => rfl
  | some o => cases o <;> simp
end Go.Proofs.YtcngmkedekmkhaaGreat
