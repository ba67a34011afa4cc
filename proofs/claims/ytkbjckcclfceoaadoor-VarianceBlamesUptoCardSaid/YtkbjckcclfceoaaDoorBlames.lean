/-
  VarianceBlames is proved as it is given in its second form: the law returns true for every input whose bulk is within the given bound. No condition of its own.
-/
import Derived.Test.YtkbjckcclfceoaaDoorLawsCB
namespace Go.Proofs.YtkbjckcclfceoaaDoor.varianceBlames
open Go Go.Aw Go.ChangeShapes Go.WideShapes Go.ChangeAt Go.RowKit

theorem contract (H : Type) (enc : TypeId × Value → H) (W : World) (base : Nat) (args : Array Value) (ds gs : List (DataW H)) (before : List MemPlace)
    (hval : ∀ (j : Nat) t v, Tryd.f6.params[j]? = some t → args[j]? = some v → Value.okWide Tryd.prog W .any base t v)
    (hW : DataW.Whole enc Tryd.prog Tryd.f6.params.toList Rows.varianceBlamesSpec.vars false W args.toList ds gs before) (hL : laidMetH Tryd.prog Rows.varianceBlamesUptoRow.laid W) (hB : Rows.uptoBulkAll (ds ++ gs) ≤ 1048576) :
    Calls Tryd.prog 6 args W fun e W' => ∃ v, e = .returned v ∧ Rows.varianceBlamesSpec.post enc Tryd.prog Tryd.f6 false true false false W args v W' :=
  law_contract (tb := 4) rfl (fun ds h => by
    rw [List.append_nil]
    match ds, h with
    | [x0], _ => rfl) rfl rfl Tryd.underlying4 (by kernel_rfl) (fun xs h => law_VarianceBlames xs h) hval hW (gok_of_laid hL _ trivial) hB

theorem laid_met (os : Os) : laidMet Tryd.prog Rows.varianceBlamesUptoRow.laid ((laidWorld os).forCall (fun _ _ => 0) ⟨#[], (#[(.agg #[(.string ByteArray.empty : Value), (.string ByteArray.empty : Value), (.slice none 0 0 : Value), (.int .i64 0 : Value), (.int .i64 0 : Value), (.int .i64 0 : Value), (.int .i64 0 : Value), (.int .i64 0 : Value), (.int .i64 0 : Value), (.slice none 0 0 : Value), (.slice none 0 0 : Value), (.slice none 0 0 : Value), (.int .i64 0 : Value), (.string ByteArray.empty : Value), (.int .i64 0 : Value), (.slice none 0 0 : Value)] : Value)] : Array Value), []⟩).memory :=
  laidMet_of_run' 16 (by kernel_rfl) (by kernel_rfl)
theorem reads (os : Os) {H : Type} (enc : TypeId × Value → H) : ∃ places, DataW.whole enc Tryd.prog ((laidWorld os).forCall (fun _ _ => 0) ⟨#[], (#[(.agg #[(.string ByteArray.empty : Value), (.string ByteArray.empty : Value), (.slice none 0 0 : Value), (.int .i64 0 : Value), (.int .i64 0 : Value), (.int .i64 0 : Value), (.int .i64 0 : Value), (.int .i64 0 : Value), (.int .i64 0 : Value), (.slice none 0 0 : Value), (.slice none 0 0 : Value), (.slice none 0 0 : Value), (.int .i64 0 : Value), (.string ByteArray.empty : Value), (.int .i64 0 : Value), (.slice none 0 0 : Value)] : Value)] : Array Value), []⟩).memory Tryd.f6.params.toList Rows.varianceBlamesSpec.vars false (#[(.agg #[(.string ByteArray.empty : Value), (.string ByteArray.empty : Value), (.slice none 0 0 : Value), (.int .i64 0 : Value), (.int .i64 0 : Value), (.int .i64 0 : Value), (.int .i64 0 : Value), (.int .i64 0 : Value), (.int .i64 0 : Value), (.slice none 0 0 : Value), (.slice none 0 0 : Value), (.slice none 0 0 : Value), (.int .i64 0 : Value), (.string ByteArray.empty : Value), (.int .i64 0 : Value), (.slice none 0 0 : Value)] : Value)] : Array Value).toList 16 = some ([(.agg [.lit (.string []), .lit (.string []), .nil, .lit (.int .i64 0), .agg [.lit (.int .i64 0), .agg [.lit (.int .i64 0), .agg [.lit (.int .i64 0), .lit (.int .i64 0), .lit (.int .i64 0), .nil, .nil, .nil]], .lit (.int .i64 0), .lit (.string []), .lit (.int .i64 0), .nil]])], [], places) :=
  ⟨[], by kernel_rfl⟩

set_option maxRecDepth 100000 in
theorem lifted (os : Os) (started : os.Started) (H : Type) (enc : TypeId × Value → H) (F : Stop.Interp) :
    ReturnsInHanded {} Tryd.checked os 6 .any ((Rows.OpenSpec.upto Rows.varianceBlamesSpec).preRow enc Tryd.prog Tryd.f6 Rows.varianceBlamesUptoRow.domain false Rows.varianceBlamesUptoRow.laid) (((Rows.OpenSpec.upto Rows.varianceBlamesSpec).at F).post enc Tryd.prog Tryd.f6 false true false false) := by
  obtain ⟨places, hx⟩ := reads os enc
  refine returnsInHanded_of_row (C := Tryd.checked) (s := Rows.OpenSpec.upto Rows.varianceBlamesSpec) own started (by kernel_rfl) Tryd.func6
    (witness_row_at (enc := enc) (C := Tryd.checked) false (laidWorld os) (#[(.agg #[(.string ByteArray.empty : Value), (.string ByteArray.empty : Value), (.slice none 0 0 : Value), (.int .i64 0 : Value), (.int .i64 0 : Value), (.int .i64 0 : Value), (.int .i64 0 : Value), (.int .i64 0 : Value), (.int .i64 0 : Value), (.slice none 0 0 : Value), (.slice none 0 0 : Value), (.slice none 0 0 : Value), (.int .i64 0 : Value), (.string ByteArray.empty : Value), (.int .i64 0 : Value), (.slice none 0 0 : Value)] : Value)] : Array Value) rfl (by kernel_rfl) (by kernel_rfl) (by kernel_rfl)
      (OpenSpec.preRow_of_cond 16 hx (by kernel_rfl) (fun k hk => by cases hk; kernel_rfl) (by kernel_rfl) (laid_met os))) ?_
  intro W base args ds gs before hval hW _ hcond _ hL _ _
  exact contract H enc W base args ds gs before hval hW hL (of_decide_eq_true (hcond _ rfl))

theorem said : Rows.VarianceBlamesUptoSaid :=
  OpenClaim.holds_of_cond 6 Tryd.f6 rfl rfl rfl rfl rfl rfl rfl ⟨rfl, rfl, rfl, rfl, rfl⟩ rfl rfl rfl rfl rfl (by kernel_rfl) Tryd.func6 (by kernel_rfl)
    (of_decide_eq_true (by kernel_rfl)) (by unfold Func.isWrapper; first | (rw [if_pos (by decide +kernel)]; kernel_rfl) | (rw [if_neg (by decide +kernel)]; exact ⟨rfl, rfl⟩))
    (fun os started H enc _ F => by rw [OpenClaim.pre_eq_preRow]; exact lifted os started H enc F)

theorem noStand : (Tryd.f6.params.toList.all fun t => Tryd.prog.wantsStandIn t == false) = true := by kernel_rfl
theorem plain (f : FuncId) (fn : Func) (hf : Tryd.pinned.checked.prog.funcNamed "plexus/plexuslaw20.VarianceBlames" = some f) (hfn : Tryd.pinned.checked.prog.funcs[f]? = some fn) :
    false = Tryd.pinned.checked.prog.looks [] ∧ ∀ (j : Nat) t, fn.params[j]? = some t → Tryd.pinned.checked.prog.wantsStandIn t = false := by
  obtain rfl : f = 6 := Option.some.inj ((show Tryd.prog.funcNamed "plexus/plexuslaw20.VarianceBlames" = some 6 by kernel_rfl).symm.trans hf) |>.symm
  obtain rfl : fn = Tryd.f6 := (Option.some.inj (Tryd.func6.symm.trans hfn)).symm
  refine ⟨by kernel_rfl, fun j t ht => ?_⟩
  have := List.all_eq_true.1 noStand t (by simpa using Array.mem_of_getElem? ht)
  exact (by simpa using this : Tryd.prog.wantsStandIn t = false)

theorem card : Rows.VarianceBlamesUptoCardSaid :=
  Claim7.holds_tied_plain_at .later [] _ _ _ _ said (fun _ h => by cases h) (by kernel_rfl) (fun _ h => by cases h) varianceBlamesUpto_row_tie rfl ⟨rfl, rfl⟩ (by kernel_rfl) rfl plain (by kernel_rfl)
end Go.Proofs.YtkbjckcclfceoaaDoor.varianceBlames
