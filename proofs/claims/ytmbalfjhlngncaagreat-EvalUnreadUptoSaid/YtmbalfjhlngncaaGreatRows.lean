/-
  NARROWER THAN 'FOR EVERY INPUT', by the rows' own cells (each row's printed sentence says how): EvalUpdates: loops · EvalQueries: loops · EvalParts: loops · EvalSucceeds: loops · EvalUnread: loops · EvalUnused: loops · EvalComposes: loops.
  DERIVED. THE GIVEN ROWS OF THIS SEAT. 7 by the template 'for every input the law returns true; each argument reads behind the call as it read before'; 0 by the template 'total and deterministic' (their statements: YtmbalfjhlngncaaGreatTotals.lean).
  GIVEN WITH THE SEED: the statements are not yours to turn. If you find one false, say at which input.
  Laid BY PROGRAM, IN A SANDBOX (cutbox-rows.mjs): the forced cells as the released guide's own fill.sh prints them over the translation 8d55d0cc75cd8479… (all of the seat's roots in one cut). By AI agents, Wed Nov 11 2026. No macro, syntax, notation, axiom, sorry.
-/
import Derived.Test.YtmbalfjhlngncaaGreatChecked
import GoSem.Claim
import GoSem.ClaimJoined
import GoSem.ClaimMapViews
import Derived.JoinedTies
import Derived.KernelRfl
namespace Go.Proofs.YtmbalfjhlngncaaGreat
/- THE CELL 'sum', in the pinned program and in every row, IS THE sha256 OF THE DUMP (.gsa) THAT YtmbalfjhlngncaaGreatProg.lean LOADS. Nothing in Lean hashes anything: it is a label: what it is worth is what the hold of that sum in a sandbox is worth. -/
noncomputable def Tryz.pinned : Pinned := { name := "ytmbalfjhlngncaagreat", sum := "8d55d0cc75cd8479500233bfe4b0fc94fcf61962cfc4b6d5a1339aa619bd609b", checked := Tryz.checked }
namespace Rows
def none {H : Type} : Left H := { results := [], args := [] }

/-- 'plexuslaw19.EvalUpdates': WHATEVER THE INPUT: true; the input reads as it did. -/
def evalUpdatesSpec : ChangeSpec := { name := "evalUpdates", fn := fun _ => fun
  | [d1, d2, d3, d4] => { results := [.lit (.bool true)], args := [d1, d2, d3, d4] }
  | _ => none }
def evalUpdatesRow : OpenClaim := { program := "ytmbalfjhlngncaagreat", sum := "8d55d0cc75cd8479500233bfe4b0fc94fcf61962cfc4b6d5a1339aa619bd609b", func := "plexus/plexuslaw19.EvalUpdates", spec := "evalUpdates", inPlace := ["internal/bytealg.abigen_runtime_cmpstring"], unfollowed := true, recurses := true, loops := true, apart := false }
def EvalUpdatesSaid : Prop := evalUpdatesRow.holds Tryz.pinned (OpenSpec.ofChange evalUpdatesSpec)

/-- ITS FALSE NEIGHBOUR: 'it returns false'. Refute it at one input. -/
def evalUpdatesWrong : ChangeSpec := { name := "evalUpdates", fn := fun _ => fun
  | [d1, d2, d3, d4] => { results := [.lit (.bool false)], args := [d1, d2, d3, d4] }
  | _ => none }
def EvalUpdatesWrongFalsely : Prop := evalUpdatesRow.holds Tryz.pinned (OpenSpec.ofChange evalUpdatesWrong)

/-- 'plexuslaw19.EvalQueries': WHATEVER THE INPUT: true; the input reads as it did. -/
def evalQueriesSpec : ChangeSpec := { name := "evalQueries", fn := fun _ => fun
  | [d1, d2, d3, d4] => { results := [.lit (.bool true)], args := [d1, d2, d3, d4] }
  | _ => none }
def evalQueriesRow : OpenClaim := { program := "ytmbalfjhlngncaagreat", sum := "8d55d0cc75cd8479500233bfe4b0fc94fcf61962cfc4b6d5a1339aa619bd609b", func := "plexus/plexuslaw19.EvalQueries", spec := "evalQueries", inPlace := ["internal/bytealg.abigen_runtime_cmpstring"], unfollowed := true, recurses := true, loops := true, apart := false }
def EvalQueriesSaid : Prop := evalQueriesRow.holds Tryz.pinned (OpenSpec.ofChange evalQueriesSpec)

/-- ITS FALSE NEIGHBOUR: 'it returns false'. Refute it at one input. -/
def evalQueriesWrong : ChangeSpec := { name := "evalQueries", fn := fun _ => fun
  | [d1, d2, d3, d4] => { results := [.lit (.bool false)], args := [d1, d2, d3, d4] }
  | _ => none }
def EvalQueriesWrongFalsely : Prop := evalQueriesRow.holds Tryz.pinned (OpenSpec.ofChange evalQueriesWrong)

/-- 'plexuslaw19.EvalParts': WHATEVER THE INPUT: true; the input reads as it did. -/
def evalPartsSpec : ChangeSpec := { name := "evalParts", fn := fun _ => fun
  | [d1, d2, d3, d4] => { results := [.lit (.bool true)], args := [d1, d2, d3, d4] }
  | _ => none }
def evalPartsRow : OpenClaim := { program := "ytmbalfjhlngncaagreat", sum := "8d55d0cc75cd8479500233bfe4b0fc94fcf61962cfc4b6d5a1339aa619bd609b", func := "plexus/plexuslaw19.EvalParts", spec := "evalParts", inPlace := ["internal/bytealg.abigen_runtime_cmpstring"], unfollowed := true, recurses := true, loops := true, apart := false }
def EvalPartsSaid : Prop := evalPartsRow.holds Tryz.pinned (OpenSpec.ofChange evalPartsSpec)

/-- ITS FALSE NEIGHBOUR: 'it returns false'. Refute it at one input. -/
def evalPartsWrong : ChangeSpec := { name := "evalParts", fn := fun _ => fun
  | [d1, d2, d3, d4] => { results := [.lit (.bool false)], args := [d1, d2, d3, d4] }
  | _ => none }
def EvalPartsWrongFalsely : Prop := evalPartsRow.holds Tryz.pinned (OpenSpec.ofChange evalPartsWrong)

/-- 'plexuslaw19.EvalSucceeds': WHATEVER THE INPUT: true; the input reads as it did. -/
def evalSucceedsSpec : ChangeSpec := { name := "evalSucceeds", fn := fun _ => fun
  | [d1, d2, d3, d4] => { results := [.lit (.bool true)], args := [d1, d2, d3, d4] }
  | _ => none }
def evalSucceedsRow : OpenClaim := { program := "ytmbalfjhlngncaagreat", sum := "8d55d0cc75cd8479500233bfe4b0fc94fcf61962cfc4b6d5a1339aa619bd609b", func := "plexus/plexuslaw19.EvalSucceeds", spec := "evalSucceeds", inPlace := ["internal/bytealg.abigen_runtime_cmpstring"], unfollowed := true, recurses := true, loops := true, apart := false }
def EvalSucceedsSaid : Prop := evalSucceedsRow.holds Tryz.pinned (OpenSpec.ofChange evalSucceedsSpec)

/-- ITS FALSE NEIGHBOUR: 'it returns false'. Refute it at one input. -/
def evalSucceedsWrong : ChangeSpec := { name := "evalSucceeds", fn := fun _ => fun
  | [d1, d2, d3, d4] => { results := [.lit (.bool false)], args := [d1, d2, d3, d4] }
  | _ => none }
def EvalSucceedsWrongFalsely : Prop := evalSucceedsRow.holds Tryz.pinned (OpenSpec.ofChange evalSucceedsWrong)

/-- 'plexuslaw19.EvalUnread': WHATEVER THE INPUT: true; the input reads as it did. -/
def evalUnreadSpec : ChangeSpec := { name := "evalUnread", fn := fun _ => fun
  | [d1, d2, d3, d4, d5] => { results := [.lit (.bool true)], args := [d1, d2, d3, d4, d5] }
  | _ => none }
def evalUnreadRow : OpenClaim := { program := "ytmbalfjhlngncaagreat", sum := "8d55d0cc75cd8479500233bfe4b0fc94fcf61962cfc4b6d5a1339aa619bd609b", func := "plexus/plexuslaw19.EvalUnread", spec := "evalUnread", inPlace := ["internal/bytealg.abigen_runtime_cmpstring"], unfollowed := true, recurses := true, loops := true, apart := false }
def EvalUnreadSaid : Prop := evalUnreadRow.holds Tryz.pinned (OpenSpec.ofChange evalUnreadSpec)

/-- ITS FALSE NEIGHBOUR: 'it returns false'. Refute it at one input. -/
def evalUnreadWrong : ChangeSpec := { name := "evalUnread", fn := fun _ => fun
  | [d1, d2, d3, d4, d5] => { results := [.lit (.bool false)], args := [d1, d2, d3, d4, d5] }
  | _ => none }
def EvalUnreadWrongFalsely : Prop := evalUnreadRow.holds Tryz.pinned (OpenSpec.ofChange evalUnreadWrong)

/-- 'plexuslaw19.EvalUnused': WHATEVER THE INPUT: true; the input reads as it did. -/
def evalUnusedSpec : ChangeSpec := { name := "evalUnused", fn := fun _ => fun
  | [d1, d2, d3, d4, d5] => { results := [.lit (.bool true)], args := [d1, d2, d3, d4, d5] }
  | _ => none }
def evalUnusedRow : OpenClaim := { program := "ytmbalfjhlngncaagreat", sum := "8d55d0cc75cd8479500233bfe4b0fc94fcf61962cfc4b6d5a1339aa619bd609b", func := "plexus/plexuslaw19.EvalUnused", spec := "evalUnused", inPlace := ["internal/bytealg.abigen_runtime_cmpstring"], unfollowed := true, recurses := true, loops := true, apart := false }
def EvalUnusedSaid : Prop := evalUnusedRow.holds Tryz.pinned (OpenSpec.ofChange evalUnusedSpec)

/-- ITS FALSE NEIGHBOUR: 'it returns false'. Refute it at one input. -/
def evalUnusedWrong : ChangeSpec := { name := "evalUnused", fn := fun _ => fun
  | [d1, d2, d3, d4, d5] => { results := [.lit (.bool false)], args := [d1, d2, d3, d4, d5] }
  | _ => none }
def EvalUnusedWrongFalsely : Prop := evalUnusedRow.holds Tryz.pinned (OpenSpec.ofChange evalUnusedWrong)

/-- 'plexuslaw19.EvalComposes': WHATEVER THE INPUT: true; the input reads as it did. -/
def evalComposesSpec : ChangeSpec := { name := "evalComposes", fn := fun _ => fun
  | [d1, d2, d3, d4] => { results := [.lit (.bool true)], args := [d1, d2, d3, d4] }
  | _ => none }
def evalComposesRow : OpenClaim := { program := "ytmbalfjhlngncaagreat", sum := "8d55d0cc75cd8479500233bfe4b0fc94fcf61962cfc4b6d5a1339aa619bd609b", func := "plexus/plexuslaw19.EvalComposes", spec := "evalComposes", inPlace := ["internal/bytealg.abigen_runtime_cmpstring"], unfollowed := true, recurses := true, loops := true, apart := false }
def EvalComposesSaid : Prop := evalComposesRow.holds Tryz.pinned (OpenSpec.ofChange evalComposesSpec)

/-- ITS FALSE NEIGHBOUR: 'it returns false'. Refute it at one input. -/
def evalComposesWrong : ChangeSpec := { name := "evalComposes", fn := fun _ => fun
  | [d1, d2, d3, d4] => { results := [.lit (.bool false)], args := [d1, d2, d3, d4] }
  | _ => none }
def EvalComposesWrongFalsely : Prop := evalComposesRow.holds Tryz.pinned (OpenSpec.ofChange evalComposesWrong)

/- THE SECOND FORM. 'bulk': how many values and letters a reading holds, each counted each time it is reached (what is shared counts as often as it is met; a slice's spare places count too). A statement '..UptoSaid' is the law's where the arguments, and the package variables that the reading takes, are together of bulk at most 1048576: NARROWER than '..Said'. Prove '..Said' where nothing that the law and all that it calls make is longer than what came in: it says more and counts as full. Else prove '..UptoSaid'. A law counts once. -/
mutual
def uptoBulk {H : Type} : DataW H → Nat
  | .lit (.string bytes) => bytes.length + 1
  | .lit _ => 1
  | .nil => 1
  | .ptr d => uptoBulk d + 1
  | .slice elems spare => uptoBulkAll elems + uptoBulkAll spare + 1
  | .agg parts => uptoBulkAll parts + 1
  | .iface _ d => uptoBulk d + 1
  | .map entries => uptoBulkEntries entries + 1
  | .held _ => 1
def uptoBulkAll {H : Type} : List (DataW H) → Nat
  | [] => 0
  | d :: r => uptoBulk d + uptoBulkAll r
def uptoBulkEntries {H : Type} : List (Lit × DataW H) → Nat
  | [] => 0
  | x :: r => uptoBulkEntry x + uptoBulkEntries r
def uptoBulkEntry {H : Type} : Lit × DataW H → Nat
  | (.string bytes, d) => bytes.length + uptoBulk d + 1
  | (_, d) => uptoBulk d + 1
 end
def uptoSmall : (H : Type) → List (DataW H) → Bool := fun _ ds => decide (uptoBulkAll ds ≤ 1048576)
def OpenSpec.upto (s : _root_.Go.ChangeSpec) : _root_.Go.OpenSpec := { _root_.Go.OpenSpec.ofChange s with cond := some uptoSmall }

/-- 'plexuslaw19.EvalUpdates', WHERE WHAT IT READS IS OF BULK AT MOST 1048576: true; the input reads as it did. -/
def evalUpdatesUptoRow : OpenClaim := { program := "ytmbalfjhlngncaagreat", sum := "8d55d0cc75cd8479500233bfe4b0fc94fcf61962cfc4b6d5a1339aa619bd609b", func := "plexus/plexuslaw19.EvalUpdates", spec := "evalUpdates", inPlace := ["internal/bytealg.abigen_runtime_cmpstring"], unfollowed := true, recurses := true, loops := true, apart := false, narrowed := true }
def EvalUpdatesUptoSaid : Prop := evalUpdatesUptoRow.holds Tryz.pinned (OpenSpec.upto evalUpdatesSpec)

/-- 'plexuslaw19.EvalQueries', WHERE WHAT IT READS IS OF BULK AT MOST 1048576: true; the input reads as it did. -/
def evalQueriesUptoRow : OpenClaim := { program := "ytmbalfjhlngncaagreat", sum := "8d55d0cc75cd8479500233bfe4b0fc94fcf61962cfc4b6d5a1339aa619bd609b", func := "plexus/plexuslaw19.EvalQueries", spec := "evalQueries", inPlace := ["internal/bytealg.abigen_runtime_cmpstring"], unfollowed := true, recurses := true, loops := true, apart := false, narrowed := true }
def EvalQueriesUptoSaid : Prop := evalQueriesUptoRow.holds Tryz.pinned (OpenSpec.upto evalQueriesSpec)

/-- 'plexuslaw19.EvalParts', WHERE WHAT IT READS IS OF BULK AT MOST 1048576: true; the input reads as it did. -/
def evalPartsUptoRow : OpenClaim := { program := "ytmbalfjhlngncaagreat", sum := "8d55d0cc75cd8479500233bfe4b0fc94fcf61962cfc4b6d5a1339aa619bd609b", func := "plexus/plexuslaw19.EvalParts", spec := "evalParts", inPlace := ["internal/bytealg.abigen_runtime_cmpstring"], unfollowed := true, recurses := true, loops := true, apart := false, narrowed := true }
def EvalPartsUptoSaid : Prop := evalPartsUptoRow.holds Tryz.pinned (OpenSpec.upto evalPartsSpec)

/-- 'plexuslaw19.EvalSucceeds', WHERE WHAT IT READS IS OF BULK AT MOST 1048576: true; the input reads as it did. -/
def evalSucceedsUptoRow : OpenClaim := { program := "ytmbalfjhlngncaagreat", sum := "8d55d0cc75cd8479500233bfe4b0fc94fcf61962cfc4b6d5a1339aa619bd609b", func := "plexus/plexuslaw19.EvalSucceeds", spec := "evalSucceeds", inPlace := ["internal/bytealg.abigen_runtime_cmpstring"], unfollowed := true, recurses := true, loops := true, apart := false, narrowed := true }
def EvalSucceedsUptoSaid : Prop := evalSucceedsUptoRow.holds Tryz.pinned (OpenSpec.upto evalSucceedsSpec)

/-- 'plexuslaw19.EvalUnread', WHERE WHAT IT READS IS OF BULK AT MOST 1048576: true; the input reads as it did. -/
def evalUnreadUptoRow : OpenClaim := { program := "ytmbalfjhlngncaagreat", sum := "8d55d0cc75cd8479500233bfe4b0fc94fcf61962cfc4b6d5a1339aa619bd609b", func := "plexus/plexuslaw19.EvalUnread", spec := "evalUnread", inPlace := ["internal/bytealg.abigen_runtime_cmpstring"], unfollowed := true, recurses := true, loops := true, apart := false, narrowed := true }
def EvalUnreadUptoSaid : Prop := evalUnreadUptoRow.holds Tryz.pinned (OpenSpec.upto evalUnreadSpec)

/-- 'plexuslaw19.EvalUnused', WHERE WHAT IT READS IS OF BULK AT MOST 1048576: true; the input reads as it did. -/
def evalUnusedUptoRow : OpenClaim := { program := "ytmbalfjhlngncaagreat", sum := "8d55d0cc75cd8479500233bfe4b0fc94fcf61962cfc4b6d5a1339aa619bd609b", func := "plexus/plexuslaw19.EvalUnused", spec := "evalUnused", inPlace := ["internal/bytealg.abigen_runtime_cmpstring"], unfollowed := true, recurses := true, loops := true, apart := false, narrowed := true }
def EvalUnusedUptoSaid : Prop := evalUnusedUptoRow.holds Tryz.pinned (OpenSpec.upto evalUnusedSpec)

/-- 'plexuslaw19.EvalComposes', WHERE WHAT IT READS IS OF BULK AT MOST 1048576: true; the input reads as it did. -/
def evalComposesUptoRow : OpenClaim := { program := "ytmbalfjhlngncaagreat", sum := "8d55d0cc75cd8479500233bfe4b0fc94fcf61962cfc4b6d5a1339aa619bd609b", func := "plexus/plexuslaw19.EvalComposes", spec := "evalComposes", inPlace := ["internal/bytealg.abigen_runtime_cmpstring"], unfollowed := true, recurses := true, loops := true, apart := false, narrowed := true }
def EvalComposesUptoSaid : Prop := evalComposesUptoRow.holds Tryz.pinned (OpenSpec.upto evalComposesSpec)

end Rows
end Go.Proofs.YtmbalfjhlngncaaGreat
