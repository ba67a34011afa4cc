/-
  NARROWER THAN 'FOR EVERY INPUT', by the rows' own cells (each row's printed sentence says how): InflationJoins: loops · InflationState: loops · InflationOffsets: loops.
  DERIVED. THE GIVEN ROWS OF THIS SEAT. 3 by the template 'for every input the law returns true; each argument reads behind the call as it read before'; 0 by the template 'total and deterministic' (their statements: YthlcjaanmbjcaaaGreatTotals.lean).
  GIVEN WITH THE SEED: the statements are not yours to turn. If you find one false, say at which input.
  Laid BY PROGRAM, IN A SANDBOX (cutbox-rows.mjs): the forced cells as the released guide's own fill.sh prints them over the translation 909ba3ba1ec0bc1f… (all of the seat's roots in one cut). By AI agents, Wed Nov 11 2026. No macro, syntax, notation, axiom, sorry.
-/
import Derived.Test.YthlcjaanmbjcaaaGreatChecked
import GoSem.Claim
import GoSem.ClaimJoined
import GoSem.ClaimMapViews
import Derived.JoinedTies
import Derived.KernelRfl
namespace Go.Proofs.YthlcjaanmbjcaaaGreat
/- THE CELL 'sum', in the pinned program and in every row, IS THE sha256 OF THE DUMP (.gsa) THAT YthlcjaanmbjcaaaGreatProg.lean LOADS. Nothing in Lean hashes anything: it is a label: what it is worth is what the hold of that sum in a sandbox is worth. -/
noncomputable def Tryz.pinned : Pinned := { name := "ythlcjaanmbjcaaagreat", sum := "909ba3ba1ec0bc1f0044645d1c7654868c579e10785aa82d97bf50710dfc4217", checked := Tryz.checked }
namespace Rows
def none {H : Type} : Left H := { results := [], args := [] }

/-- 'plexuslaw21.InflationJoins': WHATEVER THE INPUT: true; the input reads as it did. -/
def inflationJoinsSpec : ChangeSpec := { name := "inflationJoins", fn := fun _ => fun
  | [d1, d2, d3, d4] => { results := [.lit (.bool true)], args := [d1, d2, d3, d4] }
  | _ => none }
def inflationJoinsRow : OpenClaim := { program := "ythlcjaanmbjcaaagreat", sum := "909ba3ba1ec0bc1f0044645d1c7654868c579e10785aa82d97bf50710dfc4217", func := "plexus/plexuslaw21.InflationJoins", spec := "inflationJoins", unfollowed := true, recurses := true, loops := true, apart := false }
def InflationJoinsSaid : Prop := inflationJoinsRow.holds Tryz.pinned (OpenSpec.ofChange inflationJoinsSpec)

/-- ITS FALSE NEIGHBOUR: 'it returns false'. Refute it at one input. -/
def inflationJoinsWrong : ChangeSpec := { name := "inflationJoins", fn := fun _ => fun
  | [d1, d2, d3, d4] => { results := [.lit (.bool false)], args := [d1, d2, d3, d4] }
  | _ => none }
def InflationJoinsWrongFalsely : Prop := inflationJoinsRow.holds Tryz.pinned (OpenSpec.ofChange inflationJoinsWrong)

/-- 'plexuslaw21.InflationState': WHATEVER THE INPUT: true; the input reads as it did. -/
def inflationStateSpec : ChangeSpec := { name := "inflationState", fn := fun _ => fun
  | [d1, d2] => { results := [.lit (.bool true)], args := [d1, d2] }
  | _ => none }
def inflationStateRow : OpenClaim := { program := "ythlcjaanmbjcaaagreat", sum := "909ba3ba1ec0bc1f0044645d1c7654868c579e10785aa82d97bf50710dfc4217", func := "plexus/plexuslaw21.InflationState", spec := "inflationState", unfollowed := true, recurses := true, loops := true, apart := false }
def InflationStateSaid : Prop := inflationStateRow.holds Tryz.pinned (OpenSpec.ofChange inflationStateSpec)

/-- ITS FALSE NEIGHBOUR: 'it returns false'. Refute it at one input. -/
def inflationStateWrong : ChangeSpec := { name := "inflationState", fn := fun _ => fun
  | [d1, d2] => { results := [.lit (.bool false)], args := [d1, d2] }
  | _ => none }
def InflationStateWrongFalsely : Prop := inflationStateRow.holds Tryz.pinned (OpenSpec.ofChange inflationStateWrong)

/-- 'plexuslaw21.InflationOffsets': WHATEVER THE INPUT: true; the input reads as it did. -/
def inflationOffsetsSpec : ChangeSpec := { name := "inflationOffsets", fn := fun _ => fun
  | [d1, d2] => { results := [.lit (.bool true)], args := [d1, d2] }
  | _ => none }
def inflationOffsetsRow : OpenClaim := { program := "ythlcjaanmbjcaaagreat", sum := "909ba3ba1ec0bc1f0044645d1c7654868c579e10785aa82d97bf50710dfc4217", func := "plexus/plexuslaw21.InflationOffsets", spec := "inflationOffsets", unfollowed := true, recurses := true, loops := true, apart := false }
def InflationOffsetsSaid : Prop := inflationOffsetsRow.holds Tryz.pinned (OpenSpec.ofChange inflationOffsetsSpec)

/-- ITS FALSE NEIGHBOUR: 'it returns false'. Refute it at one input. -/
def inflationOffsetsWrong : ChangeSpec := { name := "inflationOffsets", fn := fun _ => fun
  | [d1, d2] => { results := [.lit (.bool false)], args := [d1, d2] }
  | _ => none }
def InflationOffsetsWrongFalsely : Prop := inflationOffsetsRow.holds Tryz.pinned (OpenSpec.ofChange inflationOffsetsWrong)

/- THE SECOND FORM. 'bulk': how many values and letters a reading holds, each counted each time it is reached (what is shared counts as often as it is met; a slice's spare places count too). A statement '..UptoSaid' is the law's where the arguments, and the package variables that the reading takes, are together of bulk at most 1048576: NARROWER than '..Said'. Prove '..Said' where nothing that the law and all that it calls make is longer than what came in: it says more and counts as full. Else prove '..UptoSaid'. A law counts once. -/
mutual
def uptoBulk {H : Type} : DataW H → Nat
  | .lit (.string bytes) => bytes.length + 1
  | .lit _ => 1
  | .nil => 1
  | .ptr d => uptoBulk d + 1
  | .slice elems spare => uptoBulkAll elems + uptoBulkAll spare + 1
  | .agg parts => uptoBulkAll parts + 1
  | .iface _ d => uptoBulk d + 1
  | .map entries => uptoBulkEntries entries + 1
  | .held _ => 1
def uptoBulkAll {H : Type} : List (DataW H) → Nat
  | [] => 0
  | d :: r => uptoBulk d + uptoBulkAll r
def uptoBulkEntries {H : Type} : List (Lit × DataW H) → Nat
  | [] => 0
  | x :: r => uptoBulkEntry x + uptoBulkEntries r
def uptoBulkEntry {H : Type} : Lit × DataW H → Nat
  | (.string bytes, d) => bytes.length + uptoBulk d + 1
  | (_, d) => uptoBulk d + 1
 end
def uptoSmall : (H : Type) → List (DataW H) → Bool := fun _ ds => decide (uptoBulkAll ds ≤ 1048576)
def OpenSpec.upto (s : _root_.Go.ChangeSpec) : _root_.Go.OpenSpec := { _root_.Go.OpenSpec.ofChange s with cond := some uptoSmall }

/-- 'plexuslaw21.InflationJoins', WHERE WHAT IT READS IS OF BULK AT MOST 1048576: true; the input reads as it did. -/
def inflationJoinsUptoRow : OpenClaim := { program := "ythlcjaanmbjcaaagreat", sum := "909ba3ba1ec0bc1f0044645d1c7654868c579e10785aa82d97bf50710dfc4217", func := "plexus/plexuslaw21.InflationJoins", spec := "inflationJoins", unfollowed := true, recurses := true, loops := true, apart := false, narrowed := true }
def InflationJoinsUptoSaid : Prop := inflationJoinsUptoRow.holds Tryz.pinned (OpenSpec.upto inflationJoinsSpec)

/-- 'plexuslaw21.InflationState', WHERE WHAT IT READS IS OF BULK AT MOST 1048576: true; the input reads as it did. -/
def inflationStateUptoRow : OpenClaim := { program := "ythlcjaanmbjcaaagreat", sum := "909ba3ba1ec0bc1f0044645d1c7654868c579e10785aa82d97bf50710dfc4217", func := "plexus/plexuslaw21.InflationState", spec := "inflationState", unfollowed := true, recurses := true, loops := true, apart := false, narrowed := true }
def InflationStateUptoSaid : Prop := inflationStateUptoRow.holds Tryz.pinned (OpenSpec.upto inflationStateSpec)

/-- 'plexuslaw21.InflationOffsets', WHERE WHAT IT READS IS OF BULK AT MOST 1048576: true; the input reads as it did. -/
def inflationOffsetsUptoRow : OpenClaim := { program := "ythlcjaanmbjcaaagreat", sum := "909ba3ba1ec0bc1f0044645d1c7654868c579e10785aa82d97bf50710dfc4217", func := "plexus/plexuslaw21.InflationOffsets", spec := "inflationOffsets", unfollowed := true, recurses := true, loops := true, apart := false, narrowed := true }
def InflationOffsetsUptoSaid : Prop := inflationOffsetsUptoRow.holds Tryz.pinned (OpenSpec.upto inflationOffsetsSpec)

end Rows
end Go.Proofs.YthlcjaanmbjcaaaGreat
