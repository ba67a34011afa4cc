/- Valid functions, put together. -/
import Derived.Test.YthlcjaanmbjcaaaGreatKRa
set_option linter.all false
namespace Go.Proofs.YthlcjaanmbjcaaaGreat
open Go Go.Bw
structure VI (B:Nat) (l:af) (f:bl) (n:aj):Prop where
 check:(f45 Pf) l=some 0
 ej:dp l
 form:(f46 Pf) f=some true
 wn:WN B n
 bare:(f47 Pf) f.Params f.Body=some (n,true)
 el:(f73 Pf) ⟨l,f.Params⟩ n (bG l)=some (.ret f.Body)
section
variable {B:Nat} (hB:B<=1048576)
include hB
end
def jn (l:af) (a b:ab):ab:={Op:=16,aA:={aS:=0,aF:=l},N:=0,Text:=[],At:=0,Kids:=[a,b]}
section
variable {B:Nat} (hB:B<=1048576)
include hB
