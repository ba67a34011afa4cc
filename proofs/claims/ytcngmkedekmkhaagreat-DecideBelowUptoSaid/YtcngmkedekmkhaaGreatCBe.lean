/-
  DecideBelow is proved as it is given in its second form: the law returns true for every input whose bulk is within the given bound. No condition of its own.
-/
import Derived.Test.YtcngmkedekmkhaaGreatLBe
namespace Go.Proofs.YtcngmkedekmkhaaGreat.decideBelow
open Go Go.Bw Go.ChangeShapes Go.WideShapes Go.ChangeAt Go.RowKit
set_option maxRecDepth 100000 in
theorem contract (H : Type) (enc : TypeId × Value → H) (W : World) (base : Nat) (args : Array Value) (ds gs : List (DataW H)) (before : List MemPlace)
    (hval : ∀ (j : Nat) t v, Tryz.f5.params[j]? = some t → args[j]? = some v → Value.okWide Tryz.prog W .any base t v)
    (hW : DataW.Whole enc Tryz.prog Tryz.f5.params.toList Rows.decideBelowSpec.vars false W args.toList ds gs before) (hL : laidMetH Tryz.prog Rows.decideBelowUptoRow.laid W) (hB : Rows.uptoBulkAll (ds ++ gs) ≤ 1048576) :
    Calls Tryz.prog 5 args W fun e W' => ∃ v, e = .returned v ∧ Rows.decideBelowSpec.post enc Tryz.prog Tryz.f5 false true false false W args v W' :=
  law_contract (tb := 4) rfl (fun ds h => by
    rw [List.append_nil]
    match ds, h with
    | [x0, x1, x2], _ => rfl) rfl rfl Tryz.underlying4 (by kernel_rfl) (fun xs h => law_DecideBelow xs h) hval hW gok_none hB
theorem reads (os : Os) {H : Type} (enc : TypeId × Value → H) : ∃ places, DataW.whole enc Tryz.prog ((World.holding Tryz.prog os ⟨#[], #[], []⟩).forCall (fun _ _ => 0) ⟨#[], (#[(.agg #[(.int .i64 0 : Value), (.int .i64 0 : Value), (.string ByteArray.empty : Value), (.slice none 0 0 : Value)] : Value), (.agg #[(.int .i64 0 : Value), (.int .i64 0 : Value), (.string ByteArray.empty : Value), (.slice none 0 0 : Value)] : Value), (.agg #[(.int .i64 0 : Value), (.int .i64 0 : Value), (.string ByteArray.empty : Value), (.slice none 0 0 : Value)] : Value)] : Array Value), []⟩).memory Tryz.f5.params.toList Rows.decideBelowSpec.vars false (#[(.agg #[(.int .i64 0 : Value), (.int .i64 0 : Value), (.string ByteArray.empty : Value), (.slice none 0 0 : Value)] : Value), (.agg #[(.int .i64 0 : Value), (.int .i64 0 : Value), (.string ByteArray.empty : Value), (.slice none 0 0 : Value)] : Value), (.agg #[(.int .i64 0 : Value), (.int .i64 0 : Value), (.string ByteArray.empty : Value), (.slice none 0 0 : Value)] : Value)] : Array Value).toList 16 = some ([(.agg [.lit (.int .i64 0), .lit (.int .i64 0), .lit (.string []), .nil]), (.agg [.lit (.int .i64 0), .lit (.int .i64 0), .lit (.string []), .nil]), (.agg [.lit (.int .i64 0), .lit (.int .i64 0), .lit (.string []), .nil])], [], places) :=
  ⟨[], by kernel_rfl⟩
set_option maxRecDepth 100000 in
theorem lifted (os : Os) (started : os.Started) (H : Type) (enc : TypeId × Value → H) (F : Stop.Interp) :
    ReturnsInHanded {} Tryz.checked os 5 .any ((Rows.OpenSpec.upto Rows.decideBelowSpec).preRow enc Tryz.prog Tryz.f5 Rows.decideBelowUptoRow.domain false Rows.decideBelowUptoRow.laid) (((Rows.OpenSpec.upto Rows.decideBelowSpec).at F).post enc Tryz.prog Tryz.f5 false true false false) := by
  obtain ⟨places, hx⟩ := reads os enc
  refine returnsInHanded_of_row (C := Tryz.checked) (s := Rows.OpenSpec.upto Rows.decideBelowSpec) own started (by kernel_rfl) Tryz.func5
    (witness_row_at (enc := enc) (C := Tryz.checked) false (World.holding Tryz.prog os ⟨#[], #[], []⟩) (#[(.agg #[(.int .i64 0 : Value), (.int .i64 0 : Value), (.string ByteArray.empty : Value), (.slice none 0 0 : Value)] : Value), (.agg #[(.int .i64 0 : Value), (.int .i64 0 : Value), (.string ByteArray.empty : Value), (.slice none 0 0 : Value)] : Value), (.agg #[(.int .i64 0 : Value), (.int .i64 0 : Value), (.string ByteArray.empty : Value), (.slice none 0 0 : Value)] : Value)] : Array Value) rfl (by kernel_rfl) (by kernel_rfl) (by kernel_rfl)
      (OpenSpec.preRow_of_cond 16 hx (by kernel_rfl) (fun k hk => by cases hk; kernel_rfl) (by kernel_rfl) (show laidMet _ [] _ from ⟨[], rfl, List.nodup_nil, fun _ _ h => by cases h⟩))) ?_
  intro W base args ds gs before hval hW _ hcond _ hL _ _
  exact contract H enc W base args ds gs before hval hW hL (of_decide_eq_true (hcond _ rfl))
end Go.Proofs.YtcngmkedekmkhaaGreat.decideBelow
