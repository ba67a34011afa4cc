/-
  Own work. The awake of the laws of this seat as a function: it answers true.
-/
import Derived.Test.YtdmkbllocddkaaaGreatFaw7
namespace Go.Proofs.YtdmkbllocddkaaaGreat
open Go Go.Bw
theorem awake18 : Pure env.toCx 9 [] (.ret (.v (.bool true))) := wt1329
def F9 (_n : Nat) : Option Bool := some true
theorem F9_ok {n : Nat} {r} (h : F9 n = some r) : Pure env.toCx 9 [] (.ret (.v (.bool r))) := by cases h; exact awake18
theorem F9_le (n : Nat) : Le (F9 n) (F9 (n + 1)) := Le.refl _
noncomputable def P9 : Option Bool := lim fun n => F9 n
theorem P9_lm : Lm (fun n => F9 n) P9 := Lm.of fun n => F9_le n
theorem P9_eq : P9 = some true := P9_lm.uniq (Lm.const _)
end Go.Proofs.YtdmkbllocddkaaaGreat
