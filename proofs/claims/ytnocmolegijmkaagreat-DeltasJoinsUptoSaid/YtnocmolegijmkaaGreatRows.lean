/-
  NARROWER THAN 'FOR EVERY INPUT', by the rows' own cells (each row's printed sentence says how): DeltasDerives: loops · DeltasValid: loops · DeltasJoins: loops · DeltasUnread: loops.
  DERIVED. THE GIVEN ROWS OF THIS SEAT. 4 by the template 'for every input the law returns true; each argument reads behind the call as it read before'; 0 by the template 'total and deterministic' (their statements: YtnocmolegijmkaaGreatTotals.lean).
  GIVEN WITH THE SEED: the statements are not yours to turn. If you find one false, say at which input.
  Laid BY PROGRAM, IN A SANDBOX (cutbox-rows.mjs): the forced cells as the released guide's own fill.sh prints them over the translation e6fc7c07a9d2a559… (all of the seat's roots in one cut). By AI agents, Wed Nov 11 2026. No macro, syntax, notation, axiom, sorry.
-/
import Derived.Test.YtnocmolegijmkaaGreatChecked
import GoSem.Claim
import GoSem.ClaimJoined
import GoSem.ClaimMapViews
import Derived.JoinedTies
import Derived.KernelRfl
namespace Go.Proofs.YtnocmolegijmkaaGreat
/- THE CELL 'sum', in the pinned program and in every row, IS THE sha256 OF THE DUMP (.gsa) THAT YtnocmolegijmkaaGreatProg.lean LOADS. Nothing in Lean hashes anything: it is a label: what it is worth is what the hold of that sum in a sandbox is worth. -/
noncomputable def Tryz.pinned : Pinned := { name := "ytnocmolegijmkaagreat", sum := "e6fc7c07a9d2a559ed921621a017470f9cda05ac259ec502ac6b00da93adf241", checked := Tryz.checked }
namespace Rows
def none {H : Type} : Left H := { results := [], args := [] }

/-- 'plexuslaw23.DeltasDerives': WHATEVER THE INPUT: true; the input reads as it did. -/
def deltasDerivesSpec : ChangeSpec := { name := "deltasDerives", fn := fun _ => fun
  | [d1, d2] => { results := [.lit (.bool true)], args := [d1, d2] }
  | _ => none }
def deltasDerivesRow : OpenClaim := { program := "ytnocmolegijmkaagreat", sum := "e6fc7c07a9d2a559ed921621a017470f9cda05ac259ec502ac6b00da93adf241", func := "plexus/plexuslaw23.DeltasDerives", spec := "deltasDerives", inPlace := ["internal/bytealg.abigen_runtime_cmpstring"], unfollowed := true, recurses := true, loops := true, apart := false }
def DeltasDerivesSaid : Prop := deltasDerivesRow.holds Tryz.pinned (OpenSpec.ofChange deltasDerivesSpec)

/-- ITS FALSE NEIGHBOUR: 'it returns false'. Refute it at one input. -/
def deltasDerivesWrong : ChangeSpec := { name := "deltasDerives", fn := fun _ => fun
  | [d1, d2] => { results := [.lit (.bool false)], args := [d1, d2] }
  | _ => none }
def DeltasDerivesWrongFalsely : Prop := deltasDerivesRow.holds Tryz.pinned (OpenSpec.ofChange deltasDerivesWrong)

/-- 'plexuslaw23.DeltasValid': WHATEVER THE INPUT: true; the input reads as it did. -/
def deltasValidSpec : ChangeSpec := { name := "deltasValid", fn := fun _ => fun
  | [d1, d2] => { results := [.lit (.bool true)], args := [d1, d2] }
  | _ => none }
def deltasValidRow : OpenClaim := { program := "ytnocmolegijmkaagreat", sum := "e6fc7c07a9d2a559ed921621a017470f9cda05ac259ec502ac6b00da93adf241", func := "plexus/plexuslaw23.DeltasValid", spec := "deltasValid", inPlace := ["internal/bytealg.abigen_runtime_cmpstring"], unfollowed := true, recurses := true, loops := true, apart := false }
def DeltasValidSaid : Prop := deltasValidRow.holds Tryz.pinned (OpenSpec.ofChange deltasValidSpec)

/-- ITS FALSE NEIGHBOUR: 'it returns false'. Refute it at one input. -/
def deltasValidWrong : ChangeSpec := { name := "deltasValid", fn := fun _ => fun
  | [d1, d2] => { results := [.lit (.bool false)], args := [d1, d2] }
  | _ => none }
def DeltasValidWrongFalsely : Prop := deltasValidRow.holds Tryz.pinned (OpenSpec.ofChange deltasValidWrong)

/-- 'plexuslaw23.DeltasJoins': WHATEVER THE INPUT: true; the input reads as it did. -/
def deltasJoinsSpec : ChangeSpec := { name := "deltasJoins", fn := fun _ => fun
  | [d1, d2, d3, d4] => { results := [.lit (.bool true)], args := [d1, d2, d3, d4] }
  | _ => none }
def deltasJoinsRow : OpenClaim := { program := "ytnocmolegijmkaagreat", sum := "e6fc7c07a9d2a559ed921621a017470f9cda05ac259ec502ac6b00da93adf241", func := "plexus/plexuslaw23.DeltasJoins", spec := "deltasJoins", inPlace := ["internal/bytealg.abigen_runtime_cmpstring"], unfollowed := true, recurses := true, loops := true, apart := false }
def DeltasJoinsSaid : Prop := deltasJoinsRow.holds Tryz.pinned (OpenSpec.ofChange deltasJoinsSpec)

/-- ITS FALSE NEIGHBOUR: 'it returns false'. Refute it at one input. -/
def deltasJoinsWrong : ChangeSpec := { name := "deltasJoins", fn := fun _ => fun
  | [d1, d2, d3, d4] => { results := [.lit (.bool false)], args := [d1, d2, d3, d4] }
  | _ => none }
def DeltasJoinsWrongFalsely : Prop := deltasJoinsRow.holds Tryz.pinned (OpenSpec.ofChange deltasJoinsWrong)

/-- 'plexuslaw23.DeltasUnread': WHATEVER THE INPUT: true; the input reads as it did. -/
def deltasUnreadSpec : ChangeSpec := { name := "deltasUnread", fn := fun _ => fun
  | [d1, d2, d3, d4] => { results := [.lit (.bool true)], args := [d1, d2, d3, d4] }
  | _ => none }
def deltasUnreadRow : OpenClaim := { program := "ytnocmolegijmkaagreat", sum := "e6fc7c07a9d2a559ed921621a017470f9cda05ac259ec502ac6b00da93adf241", func := "plexus/plexuslaw23.DeltasUnread", spec := "deltasUnread", inPlace := ["internal/bytealg.abigen_runtime_cmpstring"], unfollowed := true, recurses := true, loops := true, apart := false }
def DeltasUnreadSaid : Prop := deltasUnreadRow.holds Tryz.pinned (OpenSpec.ofChange deltasUnreadSpec)

/-- ITS FALSE NEIGHBOUR: 'it returns false'. Refute it at one input. -/
def deltasUnreadWrong : ChangeSpec := { name := "deltasUnread", fn := fun _ => fun
  | [d1, d2, d3, d4] => { results := [.lit (.bool false)], args := [d1, d2, d3, d4] }
  | _ => none }
def DeltasUnreadWrongFalsely : Prop := deltasUnreadRow.holds Tryz.pinned (OpenSpec.ofChange deltasUnreadWrong)

/- THE SECOND FORM. 'bulk': how many values and letters a reading holds, each counted each time it is reached (what is shared counts as often as it is met; a slice's spare places count too). A statement '..UptoSaid' is the law's where the arguments, and the package variables that the reading takes, are together of bulk at most 1048576: NARROWER than '..Said'. Prove '..Said' where nothing that the law and all that it calls make is longer than what came in: it says more and counts as full. Else prove '..UptoSaid'. A law counts once. -/
mutual
def uptoBulk {H : Type} : DataW H → Nat
  | .lit (.string bytes) => bytes.length + 1
  | .lit _ => 1
  | .nil => 1
  | .ptr d => uptoBulk d + 1
  | .slice elems spare => uptoBulkAll elems + uptoBulkAll spare + 1
  | .agg parts => uptoBulkAll parts + 1
  | .iface _ d => uptoBulk d + 1
  | .map entries => uptoBulkEntries entries + 1
  | .held _ => 1
def uptoBulkAll {H : Type} : List (DataW H) → Nat
  | [] => 0
  | d :: r => uptoBulk d + uptoBulkAll r
def uptoBulkEntries {H : Type} : List (Lit × DataW H) → Nat
  | [] => 0
  | x :: r => uptoBulkEntry x + uptoBulkEntries r
def uptoBulkEntry {H : Type} : Lit × DataW H → Nat
  | (.string bytes, d) => bytes.length + uptoBulk d + 1
  | (_, d) => uptoBulk d + 1
 end
def uptoSmall : (H : Type) → List (DataW H) → Bool := fun _ ds => decide (uptoBulkAll ds ≤ 1048576)
def OpenSpec.upto (s : _root_.Go.ChangeSpec) : _root_.Go.OpenSpec := { _root_.Go.OpenSpec.ofChange s with cond := some uptoSmall }

/-- 'plexuslaw23.DeltasDerives', WHERE WHAT IT READS IS OF BULK AT MOST 1048576: true; the input reads as it did. -/
def deltasDerivesUptoRow : OpenClaim := { program := "ytnocmolegijmkaagreat", sum := "e6fc7c07a9d2a559ed921621a017470f9cda05ac259ec502ac6b00da93adf241", func := "plexus/plexuslaw23.DeltasDerives", spec := "deltasDerives", inPlace := ["internal/bytealg.abigen_runtime_cmpstring"], unfollowed := true, recurses := true, loops := true, apart := false, narrowed := true }
def DeltasDerivesUptoSaid : Prop := deltasDerivesUptoRow.holds Tryz.pinned (OpenSpec.upto deltasDerivesSpec)

/-- 'plexuslaw23.DeltasValid', WHERE WHAT IT READS IS OF BULK AT MOST 1048576: true; the input reads as it did. -/
def deltasValidUptoRow : OpenClaim := { program := "ytnocmolegijmkaagreat", sum := "e6fc7c07a9d2a559ed921621a017470f9cda05ac259ec502ac6b00da93adf241", func := "plexus/plexuslaw23.DeltasValid", spec := "deltasValid", inPlace := ["internal/bytealg.abigen_runtime_cmpstring"], unfollowed := true, recurses := true, loops := true, apart := false, narrowed := true }
def DeltasValidUptoSaid : Prop := deltasValidUptoRow.holds Tryz.pinned (OpenSpec.upto deltasValidSpec)

/-- 'plexuslaw23.DeltasJoins', WHERE WHAT IT READS IS OF BULK AT MOST 1048576: true; the input reads as it did. -/
def deltasJoinsUptoRow : OpenClaim := { program := "ytnocmolegijmkaagreat", sum := "e6fc7c07a9d2a559ed921621a017470f9cda05ac259ec502ac6b00da93adf241", func := "plexus/plexuslaw23.DeltasJoins", spec := "deltasJoins", inPlace := ["internal/bytealg.abigen_runtime_cmpstring"], unfollowed := true, recurses := true, loops := true, apart := false, narrowed := true }
def DeltasJoinsUptoSaid : Prop := deltasJoinsUptoRow.holds Tryz.pinned (OpenSpec.upto deltasJoinsSpec)

/-- 'plexuslaw23.DeltasUnread', WHERE WHAT IT READS IS OF BULK AT MOST 1048576: true; the input reads as it did. -/
def deltasUnreadUptoRow : OpenClaim := { program := "ytnocmolegijmkaagreat", sum := "e6fc7c07a9d2a559ed921621a017470f9cda05ac259ec502ac6b00da93adf241", func := "plexus/plexuslaw23.DeltasUnread", spec := "deltasUnread", inPlace := ["internal/bytealg.abigen_runtime_cmpstring"], unfollowed := true, recurses := true, loops := true, apart := false, narrowed := true }
def DeltasUnreadUptoSaid : Prop := deltasUnreadUptoRow.holds Tryz.pinned (OpenSpec.upto deltasUnreadSpec)

end Rows
end Go.Proofs.YtnocmolegijmkaaGreat
