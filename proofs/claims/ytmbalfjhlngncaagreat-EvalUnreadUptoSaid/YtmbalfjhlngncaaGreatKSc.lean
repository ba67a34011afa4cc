/- strings.Compare, by the kit's contract. -/
import Derived.Test.YtmbalfjhlngncaaGreatKE7
import Derived.Shelf.Small.Strs
import Derived.Test.YtmbalfjhlngncaaGreatKZs
set_option linter.all false
namespace Go.Proofs
open Go.Shelf
def ZC:Go.Shelf.Ren:=⟨λ|106=>239|213=>287|265=>318|n=>n,λ|9=>9|3=>3|n=>n,λ|n=>n⟩
theorem adP:Go.Proofs.Lays.n106 Tryz.prog ZC:={
 mixed:=by kernel_rfl
 f106:=Tryz.func239.trans (congrArg some (by kernel_rfl))
 f213:=Tryz.func287.trans (congrArg some (by kernel_rfl))
 f265:=Tryz.func318.trans (congrArg some (by kernel_rfl))
 t3:=Tryz.underlying3
 a3:=Tryz.isAgg3
 z3:=Tryz.sizeOf3
 v3:=Tryz.zeroValue3
 t9:=Tryz.underlying9
 a9:=Tryz.isAgg9
 z9:=Tryz.sizeOf9
 v9:=Tryz.zeroValue9}
end Go.Proofs
namespace Go.Proofs.YtmbalfjhlngncaaGreat
open Go Go.Bw
abbrev EA:=List UInt8->List UInt8->Option Int
def vo:EA:=λa b=>some (Lib.compareBytes a b)
def Lc (p:EA):Prop:=∀a b r,p a b=some r->Bw.Pure env.toCx 239 [.v (.string ⟨⟨a⟩⟩),.v (.string ⟨⟨b⟩⟩)] (.ret (.v (.int .i64 r)))
theorem A3:Lc vo:=by
 intro a b r h;cases h;exact ZL (E:=env) ⟨_,Tryz.func239,by kernel_rfl,by kernel_rfl⟩ (xs:=[.string ⟨⟨a⟩⟩,.string ⟨⟨b⟩⟩]) λw=>Any.strings_Compare adP ⟨⟨a⟩⟩ ⟨⟨b⟩⟩ w
theorem adO (a b):vo a b=some (Lib.compareBytes a b):=rfl
