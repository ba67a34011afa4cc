/- The kit's contract of a sort of structs by a comparison, as a call that writes a row of one's own; comparisons in three ways. -/
import Derived.Test.YtnocmolegijmkaaGreatKE7
import Derived.Shelf.SlSortCmp.WholeK
import Derived.Lib.SliceRun
set_option linter.all false
section
noncomputable section
namespace Go.Bw
open Go Go.Proofs
structure acv {D:Type} (c:D->D->Int):Prop where
 eq0:∀a b,c a b=0↔a=b
 acw:∀a b,c b a= -c a b
 trans:∀a b d,c a b<0->c b d<0->c a d<0
section
variable {D:Type} {c:D->D->Int}
end
section
variable {T:Type} {cs:T->List AV} {k:Nat}
end
section
variable {E:Env} {g gc:FuncId} {T:Type} {cs:T->List AV} {k:Nat} {c:T->T->Int}
end
end Go.Bw
end

section
noncomputable section
namespace Go.Bw
open Go
section
variable {N:Nat} {O:Sg} {L:List au} {E:Env}
end
section
variable {E:Env} {N K:Nat} {Q:DQ} {O:TS} {L:Hp} {all rest:List Oper} {k:List It} {o:Oper}
