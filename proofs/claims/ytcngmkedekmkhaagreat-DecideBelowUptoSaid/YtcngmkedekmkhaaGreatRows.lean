/-
  NARROWER THAN 'FOR EVERY INPUT', by the rows' own cells (each row's printed sentence says how): EvalReads: loops · DeltasSizes: loops.
  DERIVED. THE GIVEN ROWS OF THIS SEAT. 4 by the template 'for every input the law returns true; each argument reads behind the call as it read before'; 0 by the template 'total and deterministic' (their statements: YtcngmkedekmkhaaGreatTotals.lean).
  GIVEN WITH THE SEED: the statements are not yours to turn. If you find one false, say at which input.
  Laid BY PROGRAM, IN A SANDBOX (cutbox-rows.mjs): the forced cells as the released guide's own fill.sh prints them over the translation c72f5e5706529537… (all of the seat's roots in one cut). By AI agents, Wed Nov 11 2026. No macro, syntax, notation, axiom, sorry.
-/
import Derived.Test.YtcngmkedekmkhaaGreatChecked
import GoSem.Claim
import GoSem.ClaimJoined
import GoSem.ClaimMapViews
import Derived.JoinedTies
import Derived.KernelRfl
namespace Go.Proofs.YtcngmkedekmkhaaGreat
/- THE CELL 'sum', in the pinned program and in every row, IS THE sha256 OF THE DUMP (.gsa) THAT YtcngmkedekmkhaaGreatProg.lean LOADS. Nothing in Lean hashes anything: it is a label: what it is worth is what the hold of that sum in a sandbox is worth. -/
noncomputable def Tryz.pinned : Pinned := { name := "ytcngmkedekmkhaagreat", sum := "c72f5e570652953718188e0a2f839c86da0adc8ba276fb4cd74e46d1e2d088b4", checked := Tryz.checked }
namespace Rows
def none {H : Type} : Left H := { results := [], args := [] }

/-- 'plexuslaw19.EvalArguments': WHATEVER THE INPUT: true; the input reads as it did. -/
def evalArgumentsSpec : ChangeSpec := { name := "evalArguments", fn := fun _ => fun
  | [d1, d2] => { results := [.lit (.bool true)], args := [d1, d2] }
  | _ => none }
def evalArgumentsRow : OpenClaim := { program := "ytcngmkedekmkhaagreat", sum := "c72f5e570652953718188e0a2f839c86da0adc8ba276fb4cd74e46d1e2d088b4", func := "plexus/plexuslaw19.EvalArguments", spec := "evalArguments", inPlace := ["internal/bytealg.abigen_runtime_cmpstring"], unfollowed := true, recurses := true, apart := false }
def EvalArgumentsSaid : Prop := evalArgumentsRow.holds Tryz.pinned (OpenSpec.ofChange evalArgumentsSpec)

/-- ITS FALSE NEIGHBOUR: 'it returns false'. Refute it at one input. -/
def evalArgumentsWrong : ChangeSpec := { name := "evalArguments", fn := fun _ => fun
  | [d1, d2] => { results := [.lit (.bool false)], args := [d1, d2] }
  | _ => none }
def EvalArgumentsWrongFalsely : Prop := evalArgumentsRow.holds Tryz.pinned (OpenSpec.ofChange evalArgumentsWrong)

/-- 'plexuslaw19.EvalReads': WHATEVER THE INPUT: true; the input reads as it did. -/
def evalReadsSpec : ChangeSpec := { name := "evalReads", fn := fun _ => fun
  | [d] => { results := [.lit (.bool true)], args := [d] }
  | _ => none }
def evalReadsRow : OpenClaim := { program := "ytcngmkedekmkhaagreat", sum := "c72f5e570652953718188e0a2f839c86da0adc8ba276fb4cd74e46d1e2d088b4", func := "plexus/plexuslaw19.EvalReads", spec := "evalReads", inPlace := ["internal/bytealg.abigen_runtime_cmpstring"], unfollowed := true, recurses := true, loops := true, apart := false }
def EvalReadsSaid : Prop := evalReadsRow.holds Tryz.pinned (OpenSpec.ofChange evalReadsSpec)

/-- ITS FALSE NEIGHBOUR: 'it returns false'. Refute it at one input. -/
def evalReadsWrong : ChangeSpec := { name := "evalReads", fn := fun _ => fun
  | [d] => { results := [.lit (.bool false)], args := [d] }
  | _ => none }
def EvalReadsWrongFalsely : Prop := evalReadsRow.holds Tryz.pinned (OpenSpec.ofChange evalReadsWrong)

/-- 'plexuslaw22.DecideBelow': WHATEVER THE INPUT: true; the input reads as it did. -/
def decideBelowSpec : ChangeSpec := { name := "decideBelow", fn := fun _ => fun
  | [d1, d2, d3] => { results := [.lit (.bool true)], args := [d1, d2, d3] }
  | _ => none }
def decideBelowRow : OpenClaim := { program := "ytcngmkedekmkhaagreat", sum := "c72f5e570652953718188e0a2f839c86da0adc8ba276fb4cd74e46d1e2d088b4", func := "plexus/plexuslaw22.DecideBelow", spec := "decideBelow", inPlace := ["internal/bytealg.abigen_runtime_cmpstring"], unfollowed := true, recurses := true, apart := false }
def DecideBelowSaid : Prop := decideBelowRow.holds Tryz.pinned (OpenSpec.ofChange decideBelowSpec)

/-- ITS FALSE NEIGHBOUR: 'it returns false'. Refute it at one input. -/
def decideBelowWrong : ChangeSpec := { name := "decideBelow", fn := fun _ => fun
  | [d1, d2, d3] => { results := [.lit (.bool false)], args := [d1, d2, d3] }
  | _ => none }
def DecideBelowWrongFalsely : Prop := decideBelowRow.holds Tryz.pinned (OpenSpec.ofChange decideBelowWrong)

/-- 'plexuslaw23.DeltasSizes': WHATEVER THE INPUT: true; the input reads as it did. -/
def deltasSizesSpec : ChangeSpec := { name := "deltasSizes", fn := fun _ => fun
  | [d] => { results := [.lit (.bool true)], args := [d] }
  | _ => none }
def deltasSizesRow : OpenClaim := { program := "ytcngmkedekmkhaagreat", sum := "c72f5e570652953718188e0a2f839c86da0adc8ba276fb4cd74e46d1e2d088b4", func := "plexus/plexuslaw23.DeltasSizes", spec := "deltasSizes", inPlace := ["internal/bytealg.abigen_runtime_cmpstring"], unfollowed := true, recurses := true, loops := true, apart := false }
def DeltasSizesSaid : Prop := deltasSizesRow.holds Tryz.pinned (OpenSpec.ofChange deltasSizesSpec)

/-- ITS FALSE NEIGHBOUR: 'it returns false'. Refute it at one input. -/
def deltasSizesWrong : ChangeSpec := { name := "deltasSizes", fn := fun _ => fun
  | [d] => { results := [.lit (.bool false)], args := [d] }
  | _ => none }
def DeltasSizesWrongFalsely : Prop := deltasSizesRow.holds Tryz.pinned (OpenSpec.ofChange deltasSizesWrong)

/- THE SECOND FORM. 'bulk': how many values and letters a reading holds, each counted each time it is reached (what is shared counts as often as it is met; a slice's spare places count too). A statement '..UptoSaid' is the law's where the arguments, and the package variables that the reading takes, are together of bulk at most 1048576: NARROWER than '..Said'. Prove '..Said' where nothing that the law and all that it calls make is longer than what came in: it says more and counts as full. Else prove '..UptoSaid'. A law counts once. -/
mutual
def uptoBulk {H : Type} : DataW H → Nat
  | .lit (.string bytes) => bytes.length + 1
  | .lit _ => 1
  | .nil => 1
  | .ptr d => uptoBulk d + 1
  | .slice elems spare => uptoBulkAll elems + uptoBulkAll spare + 1
  | .agg parts => uptoBulkAll parts + 1
  | .iface _ d => uptoBulk d + 1
  | .map entries => uptoBulkEntries entries + 1
  | .held _ => 1
def uptoBulkAll {H : Type} : List (DataW H) → Nat
  | [] => 0
  | d :: r => uptoBulk d + uptoBulkAll r
def uptoBulkEntries {H : Type} : List (Lit × DataW H) → Nat
  | [] => 0
  | x :: r => uptoBulkEntry x + uptoBulkEntries r
def uptoBulkEntry {H : Type} : Lit × DataW H → Nat
  | (.string bytes, d) => bytes.length + uptoBulk d + 1
  | (_, d) => uptoBulk d + 1
 end
def uptoSmall : (H : Type) → List (DataW H) → Bool := fun _ ds => decide (uptoBulkAll ds ≤ 1048576)
def OpenSpec.upto (s : _root_.Go.ChangeSpec) : _root_.Go.OpenSpec := { _root_.Go.OpenSpec.ofChange s with cond := some uptoSmall }

/-- 'plexuslaw19.EvalArguments', WHERE WHAT IT READS IS OF BULK AT MOST 1048576: true; the input reads as it did. -/
def evalArgumentsUptoRow : OpenClaim := { program := "ytcngmkedekmkhaagreat", sum := "c72f5e570652953718188e0a2f839c86da0adc8ba276fb4cd74e46d1e2d088b4", func := "plexus/plexuslaw19.EvalArguments", spec := "evalArguments", inPlace := ["internal/bytealg.abigen_runtime_cmpstring"], unfollowed := true, recurses := true, apart := false, narrowed := true }
def EvalArgumentsUptoSaid : Prop := evalArgumentsUptoRow.holds Tryz.pinned (OpenSpec.upto evalArgumentsSpec)

/-- 'plexuslaw19.EvalReads', WHERE WHAT IT READS IS OF BULK AT MOST 1048576: true; the input reads as it did. -/
def evalReadsUptoRow : OpenClaim := { program := "ytcngmkedekmkhaagreat", sum := "c72f5e570652953718188e0a2f839c86da0adc8ba276fb4cd74e46d1e2d088b4", func := "plexus/plexuslaw19.EvalReads", spec := "evalReads", inPlace := ["internal/bytealg.abigen_runtime_cmpstring"], unfollowed := true, recurses := true, loops := true, apart := false, narrowed := true }
def EvalReadsUptoSaid : Prop := evalReadsUptoRow.holds Tryz.pinned (OpenSpec.upto evalReadsSpec)

/-- 'plexuslaw22.DecideBelow', WHERE WHAT IT READS IS OF BULK AT MOST 1048576: true; the input reads as it did. -/
def decideBelowUptoRow : OpenClaim := { program := "ytcngmkedekmkhaagreat", sum := "c72f5e570652953718188e0a2f839c86da0adc8ba276fb4cd74e46d1e2d088b4", func := "plexus/plexuslaw22.DecideBelow", spec := "decideBelow", inPlace := ["internal/bytealg.abigen_runtime_cmpstring"], unfollowed := true, recurses := true, apart := false, narrowed := true }
def DecideBelowUptoSaid : Prop := decideBelowUptoRow.holds Tryz.pinned (OpenSpec.upto decideBelowSpec)

/-- 'plexuslaw23.DeltasSizes', WHERE WHAT IT READS IS OF BULK AT MOST 1048576: true; the input reads as it did. -/
def deltasSizesUptoRow : OpenClaim := { program := "ytcngmkedekmkhaagreat", sum := "c72f5e570652953718188e0a2f839c86da0adc8ba276fb4cd74e46d1e2d088b4", func := "plexus/plexuslaw23.DeltasSizes", spec := "deltasSizes", inPlace := ["internal/bytealg.abigen_runtime_cmpstring"], unfollowed := true, recurses := true, loops := true, apart := false, narrowed := true }
def DeltasSizesUptoSaid : Prop := deltasSizesUptoRow.holds Tryz.pinned (OpenSpec.upto deltasSizesSpec)

end Rows
end Go.Proofs.YtcngmkedekmkhaaGreat
