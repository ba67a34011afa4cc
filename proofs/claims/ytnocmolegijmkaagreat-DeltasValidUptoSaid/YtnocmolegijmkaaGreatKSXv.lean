/- DeltasValid is proved as it is given in its second form: the law returns true for every input whose bulk is within the given bound. No condition of its own. -/
import Derived.Test.YtnocmolegijmkaaGreatKCXv
set_option linter.all false
namespace Go.Proofs.YtnocmolegijmkaaGreat.deltasValid
open Go Go.Bw Go.ChangeShapes Go.WideShapes Go.ChangeAt Go.RowKit
theorem dp {a b:Bool} (h:a=true) (g:b=true):(a&&b)=true:=by rw[h,g];rfl
noncomputable section
abbrev jp:=Tryz.pinned.checked.prog
abbrev jr:=Rows.deltasValidUptoRow
abbrev js:=(Rows.OpenSpec.upto Rows.deltasValidSpec).bare
abbrev jf:=Tryz.f4
end
theorem j0:(jr.wf (OpenSpec.ofChange js))=true:=zk
theorem j1:(laidOutB jp)=true:=zk
theorem j2:(mapsRowed jp)=true:=zk
theorem j3:(jf.params.all (jp.readableRec ·))=true:=zk
theorem j4:(namedTie jp jr.named js.vars)=true:=zk
theorem j5:(jr.stops==[])=true:=zk
theorem j6:(jp.stops==[])=true:=zk
theorem j7:(jr.knobs==[])=true:=zk
theorem j8:(jp.stopKnobs==[])=true:=zk
theorem j9:(jr.inPlace==jp.inPlace 4)=true:=zk
theorem VW:(jr.unfollowed==jp.unfollowed 4)=true:=zk
theorem VY:(jr.recurses==jp.recurses 4)=true:=zk
theorem VZ:(jr.named==jp.varsNamed 4)=true:=zk
theorem V0:(jr.maps==(jf.params.toList++js.plain.varTypes jp).any (jp.mapsRec ·))=true:=zk
theorem V1:(jr.ifaces==(jf.params.toList++js.plain.varTypes jp).any (jp.ifacesRec ·))=true:=zk
theorem V2:(jr.mapsOut==jp.mapsAmong jf.resultTypes.toList)=true:=zk
theorem V3:(jr.loops==(jf.params.toList++js.plain.varTypes jp).any (jp.loopsFrom ·))=true:=zk
theorem V4:(jr.wideKeys==(jf.params.toList++js.plain.varTypes jp++jf.resultTypes.toList).any (jp.wideKeysFrom ·))=true:=zk
theorem V5:(js.vars.all (jp.varReadable ·))=true:=zk
theorem V6:(jf.resultTypes.all (λt=>jp.readableRec t&&decide (t<jp.types.size)))=true:=zk
theorem V7:(jr.ifacesOut==jf.resultTypes.toList.any (jp.ifacesRec ·))=true:=zk
theorem V8:(jr.loopsOut==jf.resultTypes.toList.any (jp.loopsFrom ·))=true:=zk
theorem V9:(jr.plainKeys==jp.plainKeys)=true:=zk
theorem V':(jr.shortTexts.isNone)=true:=zk
theorem Wa:(jp.stopsHeard)=true:=zk
theorem Wb:(jp.mayEnter)=true:=zk
theorem Wc:(jr.lifted==jp.liftsFinal)=true:=zk
theorem Wd:(jp.make==some jr.make)=true:=zk
theorem We:(jr.kinds==(if jr.domain.isEmpty then []else jf.params.toList.map λt=>match jp.underlying t with|some (.int k)=>some k|_=>none))=true:=zk
theorem Wf:(jr.pinned==jr.pinnedBy)=true:=zk
theorem Wg:(jr.veiled==(jf.params.toList++js.plain.varTypes jp++jf.resultTypes.toList).any (jp.veiledRec ·))=true:=zk
theorem Wh:(jr.veiledFits jp jf.params.toList (jf.params.toList++js.plain.varTypes jp++jf.resultTypes.toList))=true:=zk
set_option maxRecDepth 100000 in
theorem facts:joinedFacts Tryz.pinned.checked.prog 4 Tryz.f4 (Rows.OpenSpec.upto Rows.deltasValidSpec).bare Rows.deltasValidUptoRow=true:=by
 unfold joinedFacts;exact(dp (dp (dp (dp (dp (dp (dp (dp (dp (dp (dp (dp (dp (dp (dp (dp (dp (dp (dp (dp (dp (dp (dp (dp (dp (dp (dp (dp (dp (dp (dp j0 j1) j2) j3) j4) j5) j6) j7) j8) j9) VW) VY) VZ) V0) V1) V2) V3) V4) V5) V6) V7) V8) V9) V') Wa) Wb) Wc) Wd) We) Wf) Wg) Wh)
theorem said:Rows.DeltasValidUptoSaid:=
 OpenClaim.holds_of_cond 4 Tryz.f4 rfl rfl rfl rfl rfl rfl rfl ⟨rfl,rfl,rfl,rfl,rfl⟩ rfl rfl rfl rfl rfl (by kernel_rfl) Tryz.func4 facts
  (zV (by kernel_rfl)) (by unfold Func.isWrapper;first|(rw[ck (by decide+kernel)];kernel_rfl)|(rw[bI (by decide+kernel)];exact⟨rfl,rfl⟩))
  (λos started H enc _ F=>by rw[OpenClaim.pre_eq_preRow];exact lifted os started H enc F)
