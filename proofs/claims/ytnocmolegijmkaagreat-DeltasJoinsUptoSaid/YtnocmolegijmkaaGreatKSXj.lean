/- DeltasJoins is proved as it is given in its second form: the law returns true for every input whose bulk is within the given bound. No condition of its own. -/
import Derived.Test.YtnocmolegijmkaaGreatKCXj
set_option linter.all false
namespace Go.Proofs.YtnocmolegijmkaaGreat.deltasJoins
open Go Go.Bw Go.ChangeShapes Go.WideShapes Go.ChangeAt Go.RowKit
theorem eJ {a b:Bool} (h:a=true) (g:b=true):(a&&b)=true:=by rw[h,g];rfl
noncomputable section
abbrev jp:=Tryz.pinned.checked.prog
abbrev jr:=Rows.deltasJoinsUptoRow
abbrev js:=(Rows.OpenSpec.upto Rows.deltasJoinsSpec).bare
abbrev jf:=Tryz.f5
end
theorem j0:(jr.wf (OpenSpec.ofChange js))=true:=zk
theorem j1:(laidOutB jp)=true:=zk
theorem j2:(mapsRowed jp)=true:=zk
theorem j3:(jf.params.all (jp.readableRec ·))=true:=zk
theorem j4:(namedTie jp jr.named js.vars)=true:=zk
theorem j5:(jr.stops==[])=true:=zk
theorem j6:(jp.stops==[])=true:=zk
theorem j7:(jr.knobs==[])=true:=zk
theorem j8:(jp.stopKnobs==[])=true:=zk
theorem j9:(jr.inPlace==jp.inPlace 5)=true:=zk
theorem j10:(jr.unfollowed==jp.unfollowed 5)=true:=zk
theorem j11:(jr.recurses==jp.recurses 5)=true:=zk
theorem j12:(jr.named==jp.varsNamed 5)=true:=zk
theorem j13:(jr.maps==(jf.params.toList++js.plain.varTypes jp).any (jp.mapsRec ·))=true:=zk
theorem j14:(jr.ifaces==(jf.params.toList++js.plain.varTypes jp).any (jp.ifacesRec ·))=true:=zk
theorem j15:(jr.mapsOut==jp.mapsAmong jf.resultTypes.toList)=true:=zk
theorem j16:(jr.loops==(jf.params.toList++js.plain.varTypes jp).any (jp.loopsFrom ·))=true:=zk
theorem j17:(jr.wideKeys==(jf.params.toList++js.plain.varTypes jp++jf.resultTypes.toList).any (jp.wideKeysFrom ·))=true:=zk
theorem j18:(js.vars.all (jp.varReadable ·))=true:=zk
theorem j19:(jf.resultTypes.all (λt=>jp.readableRec t&&decide (t<jp.types.size)))=true:=zk
theorem j20:(jr.ifacesOut==jf.resultTypes.toList.any (jp.ifacesRec ·))=true:=zk
theorem j21:(jr.loopsOut==jf.resultTypes.toList.any (jp.loopsFrom ·))=true:=zk
theorem j22:(jr.plainKeys==jp.plainKeys)=true:=zk
theorem j23:(jr.shortTexts.isNone)=true:=zk
theorem j24:(jp.stopsHeard)=true:=zk
theorem j25:(jp.mayEnter)=true:=zk
theorem j26:(jr.lifted==jp.liftsFinal)=true:=zk
theorem j27:(jp.make==some jr.make)=true:=zk
theorem j28:(jr.kinds==(if jr.domain.isEmpty then []else jf.params.toList.map λt=>match jp.underlying t with|some (.int k)=>some k|_=>none))=true:=zk
theorem j29:(jr.pinned==jr.pinnedBy)=true:=zk
theorem j30:(jr.veiled==(jf.params.toList++js.plain.varTypes jp++jf.resultTypes.toList).any (jp.veiledRec ·))=true:=zk
theorem j31:(jr.veiledFits jp jf.params.toList (jf.params.toList++js.plain.varTypes jp++jf.resultTypes.toList))=true:=zk
set_option maxRecDepth 100000 in
theorem facts:joinedFacts Tryz.pinned.checked.prog 5 Tryz.f5 (Rows.OpenSpec.upto Rows.deltasJoinsSpec).bare Rows.deltasJoinsUptoRow=true:=by
 unfold joinedFacts;exact(eJ (eJ (eJ (eJ (eJ (eJ (eJ (eJ (eJ (eJ (eJ (eJ (eJ (eJ (eJ (eJ (eJ (eJ (eJ (eJ (eJ (eJ (eJ (eJ (eJ (eJ (eJ (eJ (eJ (eJ (eJ j0 j1) j2) j3) j4) j5) j6) j7) j8) j9) j10) j11) j12) j13) j14) j15) j16) j17) j18) j19) j20) j21) j22) j23) j24) j25) j26) j27) j28) j29) j30) j31)
theorem said:Rows.DeltasJoinsUptoSaid:=
 OpenClaim.holds_of_cond 5 Tryz.f5 rfl rfl rfl rfl rfl rfl rfl ⟨rfl,rfl,rfl,rfl,rfl⟩ rfl rfl rfl rfl rfl (by kernel_rfl) Tryz.func5 facts
  (jl (by kernel_rfl)) (by unfold Func.isWrapper;first|(rw[bg (by decide+kernel)];kernel_rfl)|(rw[aM (by decide+kernel)];exact⟨rfl,rfl⟩))
  (λos started H enc _ F=>by rw[OpenClaim.pre_eq_preRow];exact lifted os started H enc F)
