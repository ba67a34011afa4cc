/- The example: computed. -/
import Derived.Test.YthlcjaanmbjcaaaGreatKG4
set_option linter.all false
namespace Go.Proofs.YthlcjaanmbjcaaaGreat
open Go Go.Bw
theorem MX:f6 (Gf 64)=some true:=by decide+kernel
theorem Md:(f6 Pf)=some true:=((PF.K.k _ Xf.1:PF.R (λn=>f6 (Gf n)) (f6 Pf)).2 _).2 ⟨64,MX⟩
