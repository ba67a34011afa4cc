/- TypesExpressions is proved as it is given in its second form: the law returns true for every input whose bulk is within the given bound. No condition of its own. -/
import Derived.Test.YtfgnmgbiijpkiaaGreatKCPe
set_option linter.all false
namespace Go.Proofs.YtfgnmgbiijpkiaaGreat.typesExpressions
open Go Go.Bw Go.ChangeShapes Go.WideShapes Go.ChangeAt Go.RowKit
theorem dD {a b:Bool} (h:a=true) (g:b=true):(a&&b)=true:=by rw[h,g];rfl
noncomputable section
abbrev jp:=Tryz.pinned.checked.prog
abbrev jr:=Rows.typesExpressionsUptoRow
abbrev js:=(Rows.OpenSpec.upto Rows.typesExpressionsSpec).bare
abbrev jf:=Tryz.f4
end
theorem j0:(jr.wf (OpenSpec.ofChange js))=true:=zk
theorem j1:(laidOutB jp)=true:=zk
theorem j2:(mapsRowed jp)=true:=zk
theorem j3:(jf.params.all (jp.readableRec ·))=true:=zk
theorem j4:(namedTie jp jr.named js.vars)=true:=zk
theorem j5:(jr.stops==[])=true:=zk
theorem j6:(jp.stops==[])=true:=zk
theorem j7:(jr.knobs==[])=true:=zk
theorem j8:(jp.stopKnobs==[])=true:=zk
theorem j9:(jr.inPlace==jp.inPlace 4)=true:=zk
theorem Um:(jr.unfollowed==jp.unfollowed 4)=true:=zk
theorem Un:(jr.recurses==jp.recurses 4)=true:=zk
theorem Uo:(jr.named==jp.varsNamed 4)=true:=zk
theorem Uq:(jr.maps==(jf.params.toList++js.plain.varTypes jp).any (jp.mapsRec ·))=true:=zk
theorem Ur:(jr.ifaces==(jf.params.toList++js.plain.varTypes jp).any (jp.ifacesRec ·))=true:=zk
theorem Ut:(jr.mapsOut==jp.mapsAmong jf.resultTypes.toList)=true:=zk
theorem Uu:(jr.loops==(jf.params.toList++js.plain.varTypes jp).any (jp.loopsFrom ·))=true:=zk
theorem Uv:(jr.wideKeys==(jf.params.toList++js.plain.varTypes jp++jf.resultTypes.toList).any (jp.wideKeysFrom ·))=true:=zk
theorem Uw:(js.vars.all (jp.varReadable ·))=true:=zk
theorem Ux:(jf.resultTypes.all (λt=>jp.readableRec t&&decide (t<jp.types.size)))=true:=zk
theorem Uy:(jr.ifacesOut==jf.resultTypes.toList.any (jp.ifacesRec ·))=true:=zk
theorem Uz:(jr.loopsOut==jf.resultTypes.toList.any (jp.loopsFrom ·))=true:=zk
theorem UA:(jr.plainKeys==jp.plainKeys)=true:=zk
theorem UB:(jr.shortTexts.isNone)=true:=zk
theorem UC:(jp.stopsHeard)=true:=zk
theorem UD:(jp.mayEnter)=true:=zk
theorem UE:(jr.lifted==jp.liftsFinal)=true:=zk
theorem UF:(jp.make==some jr.make)=true:=zk
theorem UG:(jr.kinds==(if jr.domain.isEmpty then []else jf.params.toList.map λt=>match jp.underlying t with|some (.int k)=>some k|_=>none))=true:=zk
theorem UH:(jr.pinned==jr.pinnedBy)=true:=zk
theorem UI:(jr.veiled==(jf.params.toList++js.plain.varTypes jp++jf.resultTypes.toList).any (jp.veiledRec ·))=true:=zk
theorem UJ:(jr.veiledFits jp jf.params.toList (jf.params.toList++js.plain.varTypes jp++jf.resultTypes.toList))=true:=zk
set_option maxRecDepth 100000 in
theorem facts:joinedFacts Tryz.pinned.checked.prog 4 Tryz.f4 (Rows.OpenSpec.upto Rows.typesExpressionsSpec).bare Rows.typesExpressionsUptoRow=true:=by
 unfold joinedFacts;exact(dD (dD (dD (dD (dD (dD (dD (dD (dD (dD (dD (dD (dD (dD (dD (dD (dD (dD (dD (dD (dD (dD (dD (dD (dD (dD (dD (dD (dD (dD (dD j0 j1) j2) j3) j4) j5) j6) j7) j8) j9) Um) Un) Uo) Uq) Ur) Ut) Uu) Uv) Uw) Ux) Uy) Uz) UA) UB) UC) UD) UE) UF) UG) UH) UI) UJ)
theorem said:Rows.TypesExpressionsUptoSaid:=
 OpenClaim.holds_of_cond 4 Tryz.f4 rfl rfl rfl rfl rfl rfl rfl ⟨rfl,rfl,rfl,rfl,rfl⟩ rfl rfl rfl rfl rfl (by kernel_rfl) Tryz.func4 facts
  (xg (by kernel_rfl)) (by unfold Func.isWrapper;first|(rw[cZ (by decide+kernel)];kernel_rfl)|(rw[cM (by decide+kernel)];exact⟨rfl,rfl⟩))
  (λos started H enc _ F=>by rw[OpenClaim.pre_eq_preRow];exact lifted os started H enc F)
