/- A well-typed expression is what its trees are elaborated to: all but calls. -/
import Derived.Test.YtfgnmgbiijpkiaaGreatKRk
set_option linter.all false
namespace Go.Proofs.YtfgnmgbiijpkiaaGreat
open Go Go.Bw
section
variable {B:Nat} (hB:B<=1048576) {c:bO}
include hB
variable (hc:CE B c) (hd:∀(i j:Nat) p q,c.params[i]? =some p->c.params[j]? =some q->p.Name=q.Name->i=j)
end
section
variable {B:Nat} (hB:B<=1048576) {c:bO} (hc:CE B c) (hd:∀(i j:Nat) p q,c.params[i]? =some p->c.params[j]? =some q->p.Name=q.Name->i=j)
end
section
variable {B:Nat} (hB:B<=1048576) {c:bO}
theorem lK {D:Type} {l:List D} {i:Nat} {x:D} (h:l[i]? =some x):l.take i++[x]=l.take (i+1):=by
 rw[List.take_add_one,h];rfl
