/- More steps: a slot's length in other words; copy over a row of one's own; maps of one's own with keys that are strings. -/
import Derived.Test.YtnocmolegijmkaaGreatKE3
import Derived.MapKept
import Derived.Sort.Grow
import Derived.Sort.EncStr
set_option linter.all false
section
noncomputable section
namespace Go.Bw
open Go
section
variable {N:Nat} {O:Sg} {L:List au} {E:Env}
end
section
variable {E:Env} {N K:Nat} {Q:DQ} {O:TS} {L:Hp} {all rest:List Oper} {k:List It} {o:Oper}
end
section
variable {E:Env} {N K:Nat} {Q:DQ} {O:TS} {L:Hp} {all rest:List Oper} {k:List It} {o:Oper}
end
section
variable {N:Nat} {O:Sg} {L:List au} {E:Env}
end
section
variable {E:Env} {N K:Nat} {Q:DQ} {O:TS} {L:Hp} {all rest:List Oper} {k:List It} {o:Oper}
end
end Go.Bw
end

section
noncomputable section
namespace Go.Bw
open Go Go.Proofs
section
variable {E:Env} {g:FuncId} {f:List (List UInt8)->List (List UInt8)}
