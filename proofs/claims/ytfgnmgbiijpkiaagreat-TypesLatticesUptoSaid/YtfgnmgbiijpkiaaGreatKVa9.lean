/- The elaborator answers well-typed expressions, or a fault; types.Valid answers, and true only to well-typed functions. -/
import Derived.Test.YtfgnmgbiijpkiaaGreatKVa6
set_option linter.all false
namespace Go.Proofs.YtfgnmgbiijpkiaaGreat
open Go Go.Bw
section
variable {B:Nat} (hB:B<=1048576) {c:bO} (hc:CE B c)
end
inductive TT (B:Nat):ae->Prop
 |mk {y:ae}:bq B y.ai->(∀k∈y.Kids,TT B k)->TT B y
theorem TT.ty {B:Nat} {y:ae} (h:TT B y):bq B y.ai:=by cases h;assumption
section
variable {B:Nat} {c:bO} (hc:CE B c)
include hc
end
open Classical in
section
variable {B:Nat} (hB:B<=1048576)
include hB
def kz (l:ah) (f:bl):az:=bif f.Result==0 then b7 l else aL f.Result
structure VF (B:Nat) (l:ah) (f:bl):Prop where
 ce:CE B ⟨l,f.Params⟩
 form:oc f
 body:W l f.Params f.Body (kz l f)
 tt:TT B f.Body
