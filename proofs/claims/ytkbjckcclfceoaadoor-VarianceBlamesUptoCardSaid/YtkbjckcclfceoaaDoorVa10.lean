/-
  Own work. From the rows' worlds to the walks: the laid table, what a call leaves, the witness.
-/
import Derived.Test.YtkbjckcclfceoaaDoorVa9
import Derived.Test.YtkbjckcclfceoaaDoorCards
import Derived.Test.YtkbjckcclfceoaaDoorTie
import Derived.ProofKit
import Derived.OpenShut
import Derived.Deep.DeepHandedRow
import Derived.Lib.LaidTab
import Derived.SevenTiedAt
namespace Go.Proofs.YtkbjckcclfceoaaDoor
open Go Go.Aw Go.ChangeShapes Go.WideShapes Go.ChangeAt Go.RowKit

theorem own : ownKnob Tryd.prog.godebug = none := by kernel_rfl
theorem gTab : Tryd.prog.globalNamed "plexus/variance.kids" = some 0 := by kernel_rfl
theorem gTabType : (Tryd.prog.globals[0]?).map (·.type) = some 53 := by kernel_rfl
theorem cells53 : Tryd.prog.cellsOf 53 = 38 := by kernel_rfl
theorem cells3 : Tryd.prog.cellsOf 3 = 1 := by kernel_rfl
theorem under53 : Tryd.prog.underlying 53 = some (.array 38 3) := by kernel_rfl
theorem under3 : Tryd.prog.underlying 3 = some (.int .i64) := by kernel_rfl

/-- What the rows' list gives: the table's cells hold its numbers. -/
theorem table {W : World} (h : laidMet Tryd.prog [("plexus/variance.kids", Rows.laid_plexus_variance_kids)] W) : Lib.TabIs Tryd.prog W "plexus/variance.kids" .i64 kidsL :=
  Lib.tabIs_of_head (rest := []) gTab gTabType under53 under3 cells3 cells53 h

theorem gok_of_laid {W : World} (h : laidMet Tryd.prog [("plexus/variance.kids", Rows.laid_plexus_variance_kids)] W) (A : Nat → Prop) (hA : A 0) : GOk env.toCx.G W A := by
  have ht := table h
  unfold Lib.TabIs World.var? at ht
  rw [gTab] at ht
  simp only [Option.bind_some] at ht
  intro p hp
  have hp' : p = (0, kidsL.map (Value.int .i64)) := by
    have : env.toCx.G = [(0, kidsL.map (Value.int .i64))] := rfl
    rw [this] at hp
    simpa using hp
  subst hp'
  refine ⟨hA, ?_⟩
  revert ht
  cases hh : W.heap[0]? with
  | none => intro ht; cases ht
  | some o =>
    cases o with
    | cells c e fz => intro ht; simp only [Option.some.injEq] at ht; subst ht; exact ⟨e, fz, rfl⟩
    | _ => intro ht; cases ht

theorem kept_of_ext {W W' : World} (h : Ext [] W [] W') (may : MemPlace → Prop) : W.keptBut W' may := by
  refine ⟨h.os, h.output, fun i hi => ?_⟩
  rw [h.block i hi (by simp [ids])]
  cases W.heap[i]? with
  | none => rfl
  | some o => cases o <;> simp

/-- A pure function, called in a world that holds the table. -/
theorem run_pure {f : FuncId} {args : List AV} {vs : List Value} {b : Bool} {W : World} (h : Pure env.toCx f args (boolC b)) (hl : laidMet Tryd.prog [("plexus/variance.kids", Rows.laid_plexus_variance_kids)] W)
    (hr : RelL W (fun _ => True) args vs) : Calls Tryd.prog f vs.toArray W fun e W' => e = .returned (.bool b) ∧ Ext [] W [] W' := by
  have hA : Al (fun _ => False) [] = fun _ => True := funext fun b => by simp [Al, ids]
  refine (h.2 (fun _ => False) W vs ⟨by simp, by simp [ids], by simp [ids], by simp, by rw [hA]; exact gok_of_laid hl _ trivial⟩ (by rw [hA]; exact hr)).mono ?_
  rintro e W' ⟨r, η', ⟨rfl, rfl⟩, ⟨v, rfl, hv⟩, _, he⟩
  simp only [Rel] at hv
  subst hv
  exact ⟨rfl, he⟩

/-- A world for the witness: the settled one, the table holding what its initialiser lays. -/
noncomputable def laidWorld (os : Os) : World :=
  { World.holding Tryd.prog os ⟨#[], #[], []⟩ with heap := (World.holding Tryd.prog os ⟨#[], #[], []⟩).heap.modify 0 fun
      | .cells _ t frozen => .cells (kidsL.map (Value.int .i64)).toArray t frozen
      | o => o }
end Go.Proofs.YtkbjckcclfceoaaDoor
