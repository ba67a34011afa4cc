/- The example: computed. -/
import Derived.Test.YtmbalfjhlngncaaGreatKG4
set_option linter.all false
namespace Go.Proofs.YtmbalfjhlngncaaGreat
open Go Go.Bw
theorem adU:f10 (Gf 64)=some true:=by decide+kernel
theorem acT:(f10 Pf)=some true:=((PF.K.k _ Xf.1:PF.R (λn=>f10 (Gf n)) (f10 Pf)).2 _).2 ⟨64,adU⟩
