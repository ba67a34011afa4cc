/- DeltasValid is proved as it is given in its second form: the law returns true for every input whose bulk is within the given bound. No condition of its own. -/
import Derived.Test.YtnocmolegijmkaaGreatKDm
set_option linter.all false
namespace Go.Proofs.YtnocmolegijmkaaGreat.deltasValid
open Go Go.Bw Go.ChangeShapes Go.WideShapes Go.ChangeAt Go.RowKit
set_option maxRecDepth 100000 in
theorem contract (H:Type) (enc:TypeId×Value->H) (W:World) (base:Nat) (args:Array Value) (ds gs:List (DataW H)) (before:List MemPlace)
  (hval:∀(j:Nat) t v,Tryz.f4.params[j]? =some t->args[j]? =some v->Value.okWide Tryz.prog W .any base t v)
  (hW:DataW.Whole enc Tryz.prog Tryz.f4.params.toList Rows.deltasValidSpec.vars false W args.toList ds gs before) (hL:laidMetH Tryz.prog Rows.deltasValidUptoRow.laid W) (hB:Rows.uptoBulkAll (ds++gs)<=1048576):
  Calls Tryz.prog 4 args W λe W'=>∃v,e= .returned v/\Rows.deltasValidSpec.post enc Tryz.prog Tryz.f4 false true false false W args v W':=
 Nz (tb:=4) rfl (λds h=>by
  rw[iM]
  match ds,h with
  |[x0,x1],_=>rfl) rfl rfl Tryz.underlying4 (by kernel_rfl) (λxs h=>Nk xs h) hval hW Ps hB
theorem reads (os:Os) {H:Type} (enc:TypeId×Value->H):∃places,DataW.whole enc Tryz.prog ((World.holding Tryz.prog os ⟨#[], #[],[]⟩).forCall (λ_ _=>0) ⟨#[],(#[(.agg #[(.int .i64 0:Value),(.int .i64 0:Value),(.int .i64 0:Value),(.slice none 0 0:Value),(.slice none 0 0:Value),(.slice none 0 0:Value)]:Value),(.agg #[(.string ByteArray.empty:Value),(.string ByteArray.empty:Value),(.slice none 0 0:Value),(.int .i64 0:Value),(.int .i64 0:Value),(.int .i64 0:Value),(.int .i64 0:Value),(.int .i64 0:Value),(.int .i64 0:Value),(.slice none 0 0:Value),(.slice none 0 0:Value),(.slice none 0 0:Value),(.int .i64 0:Value),(.string ByteArray.empty:Value),(.int .i64 0:Value),(.slice none 0 0:Value)]:Value)]:Array Value),[]⟩).memory Tryz.f4.params.toList Rows.deltasValidSpec.vars false (#[(.agg #[(.int .i64 0:Value),(.int .i64 0:Value),(.int .i64 0:Value),(.slice none 0 0:Value),(.slice none 0 0:Value),(.slice none 0 0:Value)]:Value),(.agg #[(.string ByteArray.empty:Value),(.string ByteArray.empty:Value),(.slice none 0 0:Value),(.int .i64 0:Value),(.int .i64 0:Value),(.int .i64 0:Value),(.int .i64 0:Value),(.int .i64 0:Value),(.int .i64 0:Value),(.slice none 0 0:Value),(.slice none 0 0:Value),(.slice none 0 0:Value),(.int .i64 0:Value),(.string ByteArray.empty:Value),(.int .i64 0:Value),(.slice none 0 0:Value)]:Value)]:Array Value).toList 16=some ([(.agg [.lit (.int .i64 0),.lit (.int .i64 0),.lit (.int .i64 0),.nil,.nil,.nil]),(.agg [.lit (.string []),.lit (.string []),.nil,.lit (.int .i64 0),.agg [.lit (.int .i64 0),.agg [.lit (.int .i64 0),.agg [.lit (.int .i64 0),.lit (.int .i64 0),.lit (.int .i64 0),.nil,.nil,.nil]],.lit (.int .i64 0),.lit (.string []),.lit (.int .i64 0),.nil]])],[],places):=
 ⟨[],by kernel_rfl⟩
set_option maxRecDepth 100000 in
theorem lifted (os:Os) (started:os.Started) (H:Type) (enc:TypeId×Value->H) (F:Stop.Interp):
  ReturnsInHanded {} Tryz.checked os 4 .any ((Rows.OpenSpec.upto Rows.deltasValidSpec).preRow enc Tryz.prog Tryz.f4 Rows.deltasValidUptoRow.domain false Rows.deltasValidUptoRow.laid) (((Rows.OpenSpec.upto Rows.deltasValidSpec).at F).post enc Tryz.prog Tryz.f4 false true false false):=by
 obtain⟨places,hx⟩:=reads os enc;refine returnsInHanded_of_row (C:=Tryz.checked) (s:=Rows.OpenSpec.upto Rows.deltasValidSpec) own started (by kernel_rfl) Tryz.func4
  (witness_row_at (enc:=enc) (C:=Tryz.checked) false (World.holding Tryz.prog os ⟨#[], #[],[]⟩) (#[(.agg #[(.int .i64 0:Value),(.int .i64 0:Value),(.int .i64 0:Value),(.slice none 0 0:Value),(.slice none 0 0:Value),(.slice none 0 0:Value)]:Value),(.agg #[(.string ByteArray.empty:Value),(.string ByteArray.empty:Value),(.slice none 0 0:Value),(.int .i64 0:Value),(.int .i64 0:Value),(.int .i64 0:Value),(.int .i64 0:Value),(.int .i64 0:Value),(.int .i64 0:Value),(.slice none 0 0:Value),(.slice none 0 0:Value),(.slice none 0 0:Value),(.int .i64 0:Value),(.string ByteArray.empty:Value),(.int .i64 0:Value),(.slice none 0 0:Value)]:Value)]:Array Value) rfl (by kernel_rfl) (by kernel_rfl) (by kernel_rfl)
   (OpenSpec.preRow_of_cond 16 hx (by kernel_rfl) (λk hk=>by cases hk;kernel_rfl) (by kernel_rfl) (show laidMet _ [] _ from⟨[],rfl,List.nodup_nil,λ_ _ h=>by cases h⟩))) ?_
 intro W base args ds gs before hval hW _ hcond _ hL _ _;exact contract H enc W base args ds gs before hval hW hL (zV (hcond _ rfl))
