/- DeltasDerives is proved as it is given in its second form: the law returns true for every input whose bulk is within the given bound. No condition of its own. -/
import Derived.Test.YtnocmolegijmkaaGreatKDx
set_option linter.all false
namespace Go.Proofs.YtnocmolegijmkaaGreat.deltasDerives
open Go Go.Bw Go.ChangeShapes Go.WideShapes Go.ChangeAt Go.RowKit
set_option maxRecDepth 100000 in
theorem contract (H:Type) (enc:TypeId×Value->H) (W:World) (base:Nat) (args:Array Value) (ds gs:List (DataW H)) (before:List MemPlace)
  (hval:∀(j:Nat) t v,Tryz.f3.params[j]? =some t->args[j]? =some v->Value.okWide Tryz.prog W .any base t v)
  (hW:DataW.Whole enc Tryz.prog Tryz.f3.params.toList Rows.deltasDerivesSpec.vars false W args.toList ds gs before) (hL:laidMetH Tryz.prog Rows.deltasDerivesUptoRow.laid W) (hB:Rows.uptoBulkAll (ds++gs)<=1048576):
  Calls Tryz.prog 3 args W λe W'=>∃v,e= .returned v/\Rows.deltasDerivesSpec.post enc Tryz.prog Tryz.f3 false true false false W args v W':=
 Ts (tb:=4) rfl (λds h=>by
  rw[jd]
  match ds,h with
  |[x0,x1],_=>rfl) rfl rfl Tryz.underlying4 (by kernel_rfl) (λxs h=>Th xs h) hval hW VB hB
theorem reads (os:Os) {H:Type} (enc:TypeId×Value->H):∃places,DataW.whole enc Tryz.prog ((World.holding Tryz.prog os ⟨#[], #[],[]⟩).forCall (λ_ _=>0) ⟨#[],(#[(.agg #[(.int .i64 0:Value),(.int .i64 0:Value),(.int .i64 0:Value),(.slice none 0 0:Value),(.slice none 0 0:Value),(.slice none 0 0:Value)]:Value),(.agg #[(.string ByteArray.empty:Value),(.string ByteArray.empty:Value),(.slice none 0 0:Value),(.int .i64 0:Value),(.int .i64 0:Value),(.int .i64 0:Value),(.int .i64 0:Value),(.int .i64 0:Value),(.int .i64 0:Value),(.slice none 0 0:Value),(.slice none 0 0:Value),(.slice none 0 0:Value),(.int .i64 0:Value),(.string ByteArray.empty:Value),(.int .i64 0:Value),(.slice none 0 0:Value)]:Value)]:Array Value),[]⟩).memory Tryz.f3.params.toList Rows.deltasDerivesSpec.vars false (#[(.agg #[(.int .i64 0:Value),(.int .i64 0:Value),(.int .i64 0:Value),(.slice none 0 0:Value),(.slice none 0 0:Value),(.slice none 0 0:Value)]:Value),(.agg #[(.string ByteArray.empty:Value),(.string ByteArray.empty:Value),(.slice none 0 0:Value),(.int .i64 0:Value),(.int .i64 0:Value),(.int .i64 0:Value),(.int .i64 0:Value),(.int .i64 0:Value),(.int .i64 0:Value),(.slice none 0 0:Value),(.slice none 0 0:Value),(.slice none 0 0:Value),(.int .i64 0:Value),(.string ByteArray.empty:Value),(.int .i64 0:Value),(.slice none 0 0:Value)]:Value)]:Array Value).toList 16=some ([(.agg [.lit (.int .i64 0),.lit (.int .i64 0),.lit (.int .i64 0),.nil,.nil,.nil]),(.agg [.lit (.string []),.lit (.string []),.nil,.lit (.int .i64 0),.agg [.lit (.int .i64 0),.agg [.lit (.int .i64 0),.agg [.lit (.int .i64 0),.lit (.int .i64 0),.lit (.int .i64 0),.nil,.nil,.nil]],.lit (.int .i64 0),.lit (.string []),.lit (.int .i64 0),.nil]])],[],places):=
 ⟨[],by kernel_rfl⟩
set_option maxRecDepth 100000 in
theorem lifted (os:Os) (started:os.Started) (H:Type) (enc:TypeId×Value->H) (F:Stop.Interp):
  ReturnsInHanded {} Tryz.checked os 3 .any ((Rows.OpenSpec.upto Rows.deltasDerivesSpec).preRow enc Tryz.prog Tryz.f3 Rows.deltasDerivesUptoRow.domain false Rows.deltasDerivesUptoRow.laid) (((Rows.OpenSpec.upto Rows.deltasDerivesSpec).at F).post enc Tryz.prog Tryz.f3 false true false false):=by
 obtain⟨places,hx⟩:=reads os enc;refine returnsInHanded_of_row (C:=Tryz.checked) (s:=Rows.OpenSpec.upto Rows.deltasDerivesSpec) own started (by kernel_rfl) Tryz.func3
  (witness_row_at (enc:=enc) (C:=Tryz.checked) false (World.holding Tryz.prog os ⟨#[], #[],[]⟩) (#[(.agg #[(.int .i64 0:Value),(.int .i64 0:Value),(.int .i64 0:Value),(.slice none 0 0:Value),(.slice none 0 0:Value),(.slice none 0 0:Value)]:Value),(.agg #[(.string ByteArray.empty:Value),(.string ByteArray.empty:Value),(.slice none 0 0:Value),(.int .i64 0:Value),(.int .i64 0:Value),(.int .i64 0:Value),(.int .i64 0:Value),(.int .i64 0:Value),(.int .i64 0:Value),(.slice none 0 0:Value),(.slice none 0 0:Value),(.slice none 0 0:Value),(.int .i64 0:Value),(.string ByteArray.empty:Value),(.int .i64 0:Value),(.slice none 0 0:Value)]:Value)]:Array Value) rfl (by kernel_rfl) (by kernel_rfl) (by kernel_rfl)
   (OpenSpec.preRow_of_cond 16 hx (by kernel_rfl) (λk hk=>by cases hk;kernel_rfl) (by kernel_rfl) (show laidMet _ [] _ from⟨[],rfl,List.nodup_nil,λ_ _ h=>by cases h⟩))) ?_
 intro W base args ds gs before hval hW _ hcond _ hL _ _;exact contract H enc W base args ds gs before hval hW hL (DD (hcond _ rfl))
