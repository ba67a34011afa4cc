/- The awake of the laws of this seat as a contract: it answers true. -/
import Derived.Test.YtfgnmgbiijpkiaaGreatKFaw2
import Derived.Test.YtfgnmgbiijpkiaaGreatKHx
set_option linter.all false
section
namespace Go.Proofs.YtfgnmgbiijpkiaaGreat
open Go Go.Bw
theorem Qy:Bw.Pure env.toCx 9 [] (.ret (.v (.bool true))):=Qz
abbrev T9:Type:=Option Bool
def P9:T9:=some true
def C9 (p:T9):Prop:=∀r,p=some r->Bw.Pure env.toCx 9 [] (.ret (.v (.bool r)))
theorem c9:C9 P9:=by intro r h;cases h;exact Qy
theorem Rk:P9=some true:=rfl
end Go.Proofs.YtfgnmgbiijpkiaaGreat
end

section

