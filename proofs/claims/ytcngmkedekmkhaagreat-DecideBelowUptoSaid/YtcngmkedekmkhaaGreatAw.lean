/-
  Own work. The awake of a law as a function: it answers true.
-/
import Derived.Test.YtcngmkedekmkhaaGreatZs
import Derived.Test.YtcngmkedekmkhaaGreatFaw6
namespace Go.Proofs.YtcngmkedekmkhaaGreat
open Go Go.Bw
theorem awake22 : Bw.Pure env.toCx 15 [] (.ret (.v (.bool true))) := wt709
abbrev T15 : Type := Option Bool
def F15 (_n : Nat) : T15 := some true
def C15 (n : Nat) : Prop := ∀ r, F15 n = some r → Bw.Pure env.toCx 15 [] (.ret (.v (.bool r)))
theorem F15_ok {n : Nat} : C15 n := by intro r h; cases h; exact awake22
def P15 : T15 := some true
theorem P15_lm : PF.R F15 P15 := Lm.const _
end Go.Proofs.YtcngmkedekmkhaaGreat
