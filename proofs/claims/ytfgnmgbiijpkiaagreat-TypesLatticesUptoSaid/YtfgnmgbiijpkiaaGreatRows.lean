/-
  NARROWER THAN 'FOR EVERY INPUT', by the rows' own cells (each row's printed sentence says how): TypesExpressions: loops · TypesPrograms: loops · TypesLattices: loops · TypesTree: loops.
  DERIVED. THE GIVEN ROWS OF THIS SEAT. 6 by the template 'for every input the law returns true; each argument reads behind the call as it read before'; 0 by the template 'total and deterministic' (their statements: YtfgnmgbiijpkiaaGreatTotals.lean).
  GIVEN WITH THE SEED: the statements are not yours to turn. If you find one false, say at which input.
  Laid BY PROGRAM, IN A SANDBOX (cutbox-rows.mjs): the forced cells as the released guide's own fill.sh prints them over the translation 9261a6b10485824f… (all of the seat's roots in one cut). By AI agents, Wed Nov 11 2026. No macro, syntax, notation, axiom, sorry.
-/
import Derived.Test.YtfgnmgbiijpkiaaGreatChecked
import GoSem.Claim
import GoSem.ClaimJoined
import GoSem.ClaimMapViews
import Derived.JoinedTies
import Derived.KernelRfl
namespace Go.Proofs.YtfgnmgbiijpkiaaGreat
/- THE CELL 'sum', in the pinned program and in every row, IS THE sha256 OF THE DUMP (.gsa) THAT YtfgnmgbiijpkiaaGreatProg.lean LOADS. Nothing in Lean hashes anything: it is a label: what it is worth is what the hold of that sum in a sandbox is worth. -/
noncomputable def Tryz.pinned : Pinned := { name := "ytfgnmgbiijpkiaagreat", sum := "9261a6b10485824fbe77449e16bf36cc4515af5d71994f84cc3db3d71fa8af7e", checked := Tryz.checked }
namespace Rows
def none {H : Type} : Left H := { results := [], args := [] }

/-- 'plexuslaw18.TypesChecks': WHATEVER THE INPUT: true; the input reads as it did. -/
def typesChecksSpec : ChangeSpec := { name := "typesChecks", fn := fun _ => fun
  | [d] => { results := [.lit (.bool true)], args := [d] }
  | _ => none }
def typesChecksRow : OpenClaim := { program := "ytfgnmgbiijpkiaagreat", sum := "9261a6b10485824fbe77449e16bf36cc4515af5d71994f84cc3db3d71fa8af7e", func := "plexus/plexuslaw18.TypesChecks", spec := "typesChecks", inPlace := ["internal/bytealg.abigen_runtime_cmpstring"], unfollowed := true, recurses := true, apart := false }
def TypesChecksSaid : Prop := typesChecksRow.holds Tryz.pinned (OpenSpec.ofChange typesChecksSpec)

/-- ITS FALSE NEIGHBOUR: 'it returns false'. Refute it at one input. -/
def typesChecksWrong : ChangeSpec := { name := "typesChecks", fn := fun _ => fun
  | [d] => { results := [.lit (.bool false)], args := [d] }
  | _ => none }
def TypesChecksWrongFalsely : Prop := typesChecksRow.holds Tryz.pinned (OpenSpec.ofChange typesChecksWrong)

/-- 'plexuslaw18.TypesExpressions': WHATEVER THE INPUT: true; the input reads as it did. -/
def typesExpressionsSpec : ChangeSpec := { name := "typesExpressions", fn := fun _ => fun
  | [d1, d2, d3, d4] => { results := [.lit (.bool true)], args := [d1, d2, d3, d4] }
  | _ => none }
def typesExpressionsRow : OpenClaim := { program := "ytfgnmgbiijpkiaagreat", sum := "9261a6b10485824fbe77449e16bf36cc4515af5d71994f84cc3db3d71fa8af7e", func := "plexus/plexuslaw18.TypesExpressions", spec := "typesExpressions", inPlace := ["internal/bytealg.abigen_runtime_cmpstring"], unfollowed := true, recurses := true, loops := true, apart := false }
def TypesExpressionsSaid : Prop := typesExpressionsRow.holds Tryz.pinned (OpenSpec.ofChange typesExpressionsSpec)

/-- ITS FALSE NEIGHBOUR: 'it returns false'. Refute it at one input. -/
def typesExpressionsWrong : ChangeSpec := { name := "typesExpressions", fn := fun _ => fun
  | [d1, d2, d3, d4] => { results := [.lit (.bool false)], args := [d1, d2, d3, d4] }
  | _ => none }
def TypesExpressionsWrongFalsely : Prop := typesExpressionsRow.holds Tryz.pinned (OpenSpec.ofChange typesExpressionsWrong)

/-- 'plexuslaw18.TypesPrograms': WHATEVER THE INPUT: true; the input reads as it did. -/
def typesProgramsSpec : ChangeSpec := { name := "typesPrograms", fn := fun _ => fun
  | [d] => { results := [.lit (.bool true)], args := [d] }
  | _ => none }
def typesProgramsRow : OpenClaim := { program := "ytfgnmgbiijpkiaagreat", sum := "9261a6b10485824fbe77449e16bf36cc4515af5d71994f84cc3db3d71fa8af7e", func := "plexus/plexuslaw18.TypesPrograms", spec := "typesPrograms", inPlace := ["internal/bytealg.abigen_runtime_cmpstring"], unfollowed := true, recurses := true, loops := true, apart := false }
def TypesProgramsSaid : Prop := typesProgramsRow.holds Tryz.pinned (OpenSpec.ofChange typesProgramsSpec)

/-- ITS FALSE NEIGHBOUR: 'it returns false'. Refute it at one input. -/
def typesProgramsWrong : ChangeSpec := { name := "typesPrograms", fn := fun _ => fun
  | [d] => { results := [.lit (.bool false)], args := [d] }
  | _ => none }
def TypesProgramsWrongFalsely : Prop := typesProgramsRow.holds Tryz.pinned (OpenSpec.ofChange typesProgramsWrong)

/-- 'plexuslaw18.TypesSound': WHATEVER THE INPUT: true; the input reads as it did. -/
def typesSoundSpec : ChangeSpec := { name := "typesSound", fn := fun _ => fun
  | [d] => { results := [.lit (.bool true)], args := [d] }
  | _ => none }
def typesSoundRow : OpenClaim := { program := "ytfgnmgbiijpkiaagreat", sum := "9261a6b10485824fbe77449e16bf36cc4515af5d71994f84cc3db3d71fa8af7e", func := "plexus/plexuslaw18.TypesSound", spec := "typesSound", inPlace := ["internal/bytealg.abigen_runtime_cmpstring"], unfollowed := true, recurses := true, apart := false }
def TypesSoundSaid : Prop := typesSoundRow.holds Tryz.pinned (OpenSpec.ofChange typesSoundSpec)

/-- ITS FALSE NEIGHBOUR: 'it returns false'. Refute it at one input. -/
def typesSoundWrong : ChangeSpec := { name := "typesSound", fn := fun _ => fun
  | [d] => { results := [.lit (.bool false)], args := [d] }
  | _ => none }
def TypesSoundWrongFalsely : Prop := typesSoundRow.holds Tryz.pinned (OpenSpec.ofChange typesSoundWrong)

/-- 'plexuslaw18.TypesLattices': WHATEVER THE INPUT: true; the input reads as it did. -/
def typesLatticesSpec : ChangeSpec := { name := "typesLattices", fn := fun _ => fun
  | [d1, d2, d3] => { results := [.lit (.bool true)], args := [d1, d2, d3] }
  | _ => none }
def typesLatticesRow : OpenClaim := { program := "ytfgnmgbiijpkiaagreat", sum := "9261a6b10485824fbe77449e16bf36cc4515af5d71994f84cc3db3d71fa8af7e", func := "plexus/plexuslaw18.TypesLattices", spec := "typesLattices", inPlace := ["internal/bytealg.abigen_runtime_cmpstring"], unfollowed := true, recurses := true, loops := true, apart := false }
def TypesLatticesSaid : Prop := typesLatticesRow.holds Tryz.pinned (OpenSpec.ofChange typesLatticesSpec)

/-- ITS FALSE NEIGHBOUR: 'it returns false'. Refute it at one input. -/
def typesLatticesWrong : ChangeSpec := { name := "typesLattices", fn := fun _ => fun
  | [d1, d2, d3] => { results := [.lit (.bool false)], args := [d1, d2, d3] }
  | _ => none }
def TypesLatticesWrongFalsely : Prop := typesLatticesRow.holds Tryz.pinned (OpenSpec.ofChange typesLatticesWrong)

/-- 'plexuslaw18.TypesTree': WHATEVER THE INPUT: true; the input reads as it did. -/
def typesTreeSpec : ChangeSpec := { name := "typesTree", fn := fun _ => fun
  | [d] => { results := [.lit (.bool true)], args := [d] }
  | _ => none }
def typesTreeRow : OpenClaim := { program := "ytfgnmgbiijpkiaagreat", sum := "9261a6b10485824fbe77449e16bf36cc4515af5d71994f84cc3db3d71fa8af7e", func := "plexus/plexuslaw18.TypesTree", spec := "typesTree", inPlace := ["internal/bytealg.abigen_runtime_cmpstring"], unfollowed := true, recurses := true, loops := true, apart := false }
def TypesTreeSaid : Prop := typesTreeRow.holds Tryz.pinned (OpenSpec.ofChange typesTreeSpec)

/-- ITS FALSE NEIGHBOUR: 'it returns false'. Refute it at one input. -/
def typesTreeWrong : ChangeSpec := { name := "typesTree", fn := fun _ => fun
  | [d] => { results := [.lit (.bool false)], args := [d] }
  | _ => none }
def TypesTreeWrongFalsely : Prop := typesTreeRow.holds Tryz.pinned (OpenSpec.ofChange typesTreeWrong)

/- THE SECOND FORM. 'bulk': how many values and letters a reading holds, each counted each time it is reached (what is shared counts as often as it is met; a slice's spare places count too). A statement '..UptoSaid' is the law's where the arguments, and the package variables that the reading takes, are together of bulk at most 1048576: NARROWER than '..Said'. Prove '..Said' where nothing that the law and all that it calls make is longer than what came in: it says more and counts as full. Else prove '..UptoSaid'. A law counts once. -/
mutual
def uptoBulk {H : Type} : DataW H → Nat
  | .lit (.string bytes) => bytes.length + 1
  | .lit _ => 1
  | .nil => 1
  | .ptr d => uptoBulk d + 1
  | .slice elems spare => uptoBulkAll elems + uptoBulkAll spare + 1
  | .agg parts => uptoBulkAll parts + 1
  | .iface _ d => uptoBulk d + 1
  | .map entries => uptoBulkEntries entries + 1
  | .held _ => 1
def uptoBulkAll {H : Type} : List (DataW H) → Nat
  | [] => 0
  | d :: r => uptoBulk d + uptoBulkAll r
def uptoBulkEntries {H : Type} : List (Lit × DataW H) → Nat
  | [] => 0
  | x :: r => uptoBulkEntry x + uptoBulkEntries r
def uptoBulkEntry {H : Type} : Lit × DataW H → Nat
  | (.string bytes, d) => bytes.length + uptoBulk d + 1
  | (_, d) => uptoBulk d + 1
 end
def uptoSmall : (H : Type) → List (DataW H) → Bool := fun _ ds => decide (uptoBulkAll ds ≤ 1048576)
def OpenSpec.upto (s : _root_.Go.ChangeSpec) : _root_.Go.OpenSpec := { _root_.Go.OpenSpec.ofChange s with cond := some uptoSmall }

/-- 'plexuslaw18.TypesChecks', WHERE WHAT IT READS IS OF BULK AT MOST 1048576: true; the input reads as it did. -/
def typesChecksUptoRow : OpenClaim := { program := "ytfgnmgbiijpkiaagreat", sum := "9261a6b10485824fbe77449e16bf36cc4515af5d71994f84cc3db3d71fa8af7e", func := "plexus/plexuslaw18.TypesChecks", spec := "typesChecks", inPlace := ["internal/bytealg.abigen_runtime_cmpstring"], unfollowed := true, recurses := true, apart := false, narrowed := true }
def TypesChecksUptoSaid : Prop := typesChecksUptoRow.holds Tryz.pinned (OpenSpec.upto typesChecksSpec)

/-- 'plexuslaw18.TypesExpressions', WHERE WHAT IT READS IS OF BULK AT MOST 1048576: true; the input reads as it did. -/
def typesExpressionsUptoRow : OpenClaim := { program := "ytfgnmgbiijpkiaagreat", sum := "9261a6b10485824fbe77449e16bf36cc4515af5d71994f84cc3db3d71fa8af7e", func := "plexus/plexuslaw18.TypesExpressions", spec := "typesExpressions", inPlace := ["internal/bytealg.abigen_runtime_cmpstring"], unfollowed := true, recurses := true, loops := true, apart := false, narrowed := true }
def TypesExpressionsUptoSaid : Prop := typesExpressionsUptoRow.holds Tryz.pinned (OpenSpec.upto typesExpressionsSpec)

/-- 'plexuslaw18.TypesPrograms', WHERE WHAT IT READS IS OF BULK AT MOST 1048576: true; the input reads as it did. -/
def typesProgramsUptoRow : OpenClaim := { program := "ytfgnmgbiijpkiaagreat", sum := "9261a6b10485824fbe77449e16bf36cc4515af5d71994f84cc3db3d71fa8af7e", func := "plexus/plexuslaw18.TypesPrograms", spec := "typesPrograms", inPlace := ["internal/bytealg.abigen_runtime_cmpstring"], unfollowed := true, recurses := true, loops := true, apart := false, narrowed := true }
def TypesProgramsUptoSaid : Prop := typesProgramsUptoRow.holds Tryz.pinned (OpenSpec.upto typesProgramsSpec)

/-- 'plexuslaw18.TypesSound', WHERE WHAT IT READS IS OF BULK AT MOST 1048576: true; the input reads as it did. -/
def typesSoundUptoRow : OpenClaim := { program := "ytfgnmgbiijpkiaagreat", sum := "9261a6b10485824fbe77449e16bf36cc4515af5d71994f84cc3db3d71fa8af7e", func := "plexus/plexuslaw18.TypesSound", spec := "typesSound", inPlace := ["internal/bytealg.abigen_runtime_cmpstring"], unfollowed := true, recurses := true, apart := false, narrowed := true }
def TypesSoundUptoSaid : Prop := typesSoundUptoRow.holds Tryz.pinned (OpenSpec.upto typesSoundSpec)

/-- 'plexuslaw18.TypesLattices', WHERE WHAT IT READS IS OF BULK AT MOST 1048576: true; the input reads as it did. -/
def typesLatticesUptoRow : OpenClaim := { program := "ytfgnmgbiijpkiaagreat", sum := "9261a6b10485824fbe77449e16bf36cc4515af5d71994f84cc3db3d71fa8af7e", func := "plexus/plexuslaw18.TypesLattices", spec := "typesLattices", inPlace := ["internal/bytealg.abigen_runtime_cmpstring"], unfollowed := true, recurses := true, loops := true, apart := false, narrowed := true }
def TypesLatticesUptoSaid : Prop := typesLatticesUptoRow.holds Tryz.pinned (OpenSpec.upto typesLatticesSpec)

/-- 'plexuslaw18.TypesTree', WHERE WHAT IT READS IS OF BULK AT MOST 1048576: true; the input reads as it did. -/
def typesTreeUptoRow : OpenClaim := { program := "ytfgnmgbiijpkiaagreat", sum := "9261a6b10485824fbe77449e16bf36cc4515af5d71994f84cc3db3d71fa8af7e", func := "plexus/plexuslaw18.TypesTree", spec := "typesTree", inPlace := ["internal/bytealg.abigen_runtime_cmpstring"], unfollowed := true, recurses := true, loops := true, apart := false, narrowed := true }
def TypesTreeUptoSaid : Prop := typesTreeUptoRow.holds Tryz.pinned (OpenSpec.upto typesTreeSpec)

end Rows
end Go.Proofs.YtfgnmgbiijpkiaaGreat
