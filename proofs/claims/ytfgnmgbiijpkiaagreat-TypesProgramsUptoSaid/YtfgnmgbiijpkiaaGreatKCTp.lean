/- TypesPrograms is proved as it is given in its second form: the law returns true for every input whose bulk is within the given bound. No condition of its own. -/
import Derived.Test.YtfgnmgbiijpkiaaGreatKSe
set_option linter.all false
namespace Go.Proofs.YtfgnmgbiijpkiaaGreat.typesPrograms
open Go Go.Bw Go.ChangeShapes Go.WideShapes Go.ChangeAt Go.RowKit
set_option maxRecDepth 100000 in
theorem contract (H:Type) (enc:TypeId×Value->H) (W:World) (base:Nat) (args:Array Value) (ds gs:List (DataW H)) (before:List MemPlace)
  (hval:∀(j:Nat) t v,Tryz.f5.params[j]? =some t->args[j]? =some v->Value.okWide Tryz.prog W .any base t v)
  (hW:DataW.Whole enc Tryz.prog Tryz.f5.params.toList Rows.typesProgramsSpec.vars false W args.toList ds gs before) (hL:laidMetH Tryz.prog Rows.typesProgramsUptoRow.laid W) (hB:Rows.uptoBulkAll (ds++gs)<=1048576):
  Calls Tryz.prog 5 args W λe W'=>∃v,e= .returned v/\Rows.typesProgramsSpec.post enc Tryz.prog Tryz.f5 false true false false W args v W':=
 UT (tb:=4) rfl (λds h=>by
  rw[iz]
  match ds,h with
  |[x0],_=>rfl) rfl rfl Tryz.underlying4 (by kernel_rfl) (λxs h=>UF xs h) hval hW WZ hB
theorem reads (os:Os) {H:Type} (enc:TypeId×Value->H):∃places,DataW.whole enc Tryz.prog ((World.holding Tryz.prog os ⟨#[], #[],[]⟩).forCall (λ_ _=>0) ⟨#[],(#[(.agg #[(.slice none 0 0:Value),(.slice none 0 0:Value),(.slice none 0 0:Value)]:Value)]:Array Value),[]⟩).memory Tryz.f5.params.toList Rows.typesProgramsSpec.vars false (#[(.agg #[(.slice none 0 0:Value),(.slice none 0 0:Value),(.slice none 0 0:Value)]:Value)]:Array Value).toList 16=some ([(.agg [.nil,.nil,.nil])],[],places):=
 ⟨[],by kernel_rfl⟩
set_option maxRecDepth 100000 in
theorem lifted (os:Os) (started:os.Started) (H:Type) (enc:TypeId×Value->H) (F:Stop.Interp):
  ReturnsInHanded {} Tryz.checked os 5 .any ((Rows.OpenSpec.upto Rows.typesProgramsSpec).preRow enc Tryz.prog Tryz.f5 Rows.typesProgramsUptoRow.domain false Rows.typesProgramsUptoRow.laid) (((Rows.OpenSpec.upto Rows.typesProgramsSpec).at F).post enc Tryz.prog Tryz.f5 false true false false):=by
 obtain⟨places,hx⟩:=reads os enc;refine returnsInHanded_of_row (C:=Tryz.checked) (s:=Rows.OpenSpec.upto Rows.typesProgramsSpec) own started (by kernel_rfl) Tryz.func5
  (witness_row_at (enc:=enc) (C:=Tryz.checked) false (World.holding Tryz.prog os ⟨#[], #[],[]⟩) (#[(.agg #[(.slice none 0 0:Value),(.slice none 0 0:Value),(.slice none 0 0:Value)]:Value)]:Array Value) rfl (by kernel_rfl) (by kernel_rfl) (by kernel_rfl)
   (OpenSpec.preRow_of_cond 16 hx (by kernel_rfl) (λk hk=>by cases hk;kernel_rfl) (by kernel_rfl) (show laidMet _ [] _ from⟨[],rfl,List.nodup_nil,λ_ _ h=>by cases h⟩))) ?_
 intro W base args ds gs before hval hW _ hcond _ hL _ _;exact contract H enc W base args ds gs before hval hW hL (xC (hcond _ rfl))
