/-
  EvalArguments is proved as it is given in its second form: the law returns true for every input whose bulk is within the given bound. No condition of its own.
-/
import Derived.Test.YtcngmkedekmkhaaGreatLAg
namespace Go.Proofs.YtcngmkedekmkhaaGreat.evalArguments
open Go Go.Bw Go.ChangeShapes Go.WideShapes Go.ChangeAt Go.RowKit

set_option maxRecDepth 100000 in
theorem contract (H : Type) (enc : TypeId × Value → H) (W : World) (base : Nat) (args : Array Value) (ds gs : List (DataW H)) (before : List MemPlace)
    (hval : ∀ (j : Nat) t v, Tryz.f3.params[j]? = some t → args[j]? = some v → Value.okWide Tryz.prog W .any base t v)
    (hW : DataW.Whole enc Tryz.prog Tryz.f3.params.toList Rows.evalArgumentsSpec.vars false W args.toList ds gs before) (hL : laidMetH Tryz.prog Rows.evalArgumentsUptoRow.laid W) (hB : Rows.uptoBulkAll (ds ++ gs) ≤ 1048576) :
    Calls Tryz.prog 3 args W fun e W' => ∃ v, e = .returned v ∧ Rows.evalArgumentsSpec.post enc Tryz.prog Tryz.f3 false true false false W args v W' :=
  law_contract (tb := 4) rfl (fun ds h => by
    rw [List.append_nil]
    match ds, h with
    | [x0, x1], _ => rfl) rfl rfl Tryz.underlying4 (by kernel_rfl) (fun xs h => law_EvalArguments xs h) hval hW gok_none hB

theorem reads (os : Os) {H : Type} (enc : TypeId × Value → H) : ∃ places, DataW.whole enc Tryz.prog ((World.holding Tryz.prog os ⟨#[], #[], []⟩).forCall (fun _ _ => 0) ⟨#[], (#[(.slice none 0 0 : Value), (.slice none 0 0 : Value)] : Array Value), []⟩).memory Tryz.f3.params.toList Rows.evalArgumentsSpec.vars false (#[(.slice none 0 0 : Value), (.slice none 0 0 : Value)] : Array Value).toList 16 = some ([(.nil), (.nil)], [], places) :=
  ⟨[], by kernel_rfl⟩

set_option maxRecDepth 100000 in
theorem lifted (os : Os) (started : os.Started) (H : Type) (enc : TypeId × Value → H) (F : Stop.Interp) :
    ReturnsInHanded {} Tryz.checked os 3 .any ((Rows.OpenSpec.upto Rows.evalArgumentsSpec).preRow enc Tryz.prog Tryz.f3 Rows.evalArgumentsUptoRow.domain false Rows.evalArgumentsUptoRow.laid) (((Rows.OpenSpec.upto Rows.evalArgumentsSpec).at F).post enc Tryz.prog Tryz.f3 false true false false) := by
  obtain ⟨places, hx⟩ := reads os enc
  refine returnsInHanded_of_row (C := Tryz.checked) (s := Rows.OpenSpec.upto Rows.evalArgumentsSpec) own started (by kernel_rfl) Tryz.func3
    (witness_row_at (enc := enc) (C := Tryz.checked) false (World.holding Tryz.prog os ⟨#[], #[], []⟩) (#[(.slice none 0 0 : Value), (.slice none 0 0 : Value)] : Array Value) rfl (by kernel_rfl) (by kernel_rfl) (by kernel_rfl)
      (OpenSpec.preRow_of_cond 16 hx (by kernel_rfl) (fun k hk => by cases hk; kernel_rfl) (by kernel_rfl) (show laidMet _ [] _ from ⟨[], rfl, List.nodup_nil, fun _ _ h => by cases h⟩))) ?_
  intro W base args ds gs before hval hW _ hcond _ hL _ _
  exact contract H enc W base args ds gs before hval hW hL (of_decide_eq_true (hcond _ rfl))

end Go.Proofs.YtcngmkedekmkhaaGreat.evalArguments
