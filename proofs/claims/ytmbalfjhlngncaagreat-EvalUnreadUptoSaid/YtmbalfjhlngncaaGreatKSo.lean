/- The sort of names, by the kit's contract, as a call that writes a row of one's own. -/
import Derived.Shelf.Sort.Plain
import Derived.Shelf.Slices.In.SortNone
import Derived.Test.YtmbalfjhlngncaaGreatKZs
import Derived.Test.YtmbalfjhlngncaaGreatKPl
set_option linter.all false
namespace Go.Proofs
open Go.Shelf
def Zc:Go.Shelf.Ren:=⟨λ|190=>210|125=>274|258=>273|128=>312|129=>313|302=>303|303=>304|304=>305|305=>306|306=>307|307=>308|308=>309|309=>310|310=>311|333=>323|329=>324|330=>325|334=>326|335=>327|336=>319|344=>337|n=>n,λ|31=>22|9=>9|3=>3|46=>259|0=>0|51=>293|53=>295|4=>4|183=>285|182=>284|131=>290|5=>5|218=>305|222=>309|228=>316|229=>143|n=>n,λ|n=>n⟩
theorem C3:Go.Proofs.Lays.n190 Tryz.prog Zc:={
 mixed:=by kernel_rfl
 f125:=Tryz.func274.trans (congrArg some (by kernel_rfl))
 f128:=Tryz.func312.trans (congrArg some (by kernel_rfl))
 f129:=Tryz.func313.trans (congrArg some (by kernel_rfl))
 f190:=Tryz.func210.trans (congrArg some (by kernel_rfl))
 f258:=Tryz.func273.trans (congrArg some (by kernel_rfl))
 f302:=Tryz.func303.trans (congrArg some (by kernel_rfl))
 f303:=Tryz.func304.trans (congrArg some (by kernel_rfl))
 f304:=Tryz.func305.trans (congrArg some (by kernel_rfl))
 f305:=Tryz.func306.trans (congrArg some (by kernel_rfl))
 f306:=Tryz.func307.trans (congrArg some (by kernel_rfl))
 f307:=Tryz.func308.trans (congrArg some (by kernel_rfl))
 f308:=Tryz.func309.trans (congrArg some (by kernel_rfl))
 f309:=Tryz.func310.trans (congrArg some (by kernel_rfl))
 f310:=Tryz.func311.trans (congrArg some (by kernel_rfl))
 f329:=Tryz.func324.trans (congrArg some (by kernel_rfl))
 f330:=Tryz.func325.trans (congrArg some (by kernel_rfl))
 f333:=Tryz.func323.trans (congrArg some (by kernel_rfl))
 f334:=Tryz.func326.trans (congrArg some (by kernel_rfl))
 f335:=Tryz.func327.trans (congrArg some (by kernel_rfl))
 f336:=Tryz.func319.trans (congrArg some (by kernel_rfl))
 f344:=Tryz.func337.trans (congrArg some (by kernel_rfl))
 t0:=Tryz.underlying0
 a0:=Tryz.isAgg0
 z0:=Tryz.sizeOf0
 v0:=Tryz.zeroValue0
 t3:=Tryz.underlying3
 a3:=Tryz.isAgg3
 z3:=Tryz.sizeOf3
 v3:=Tryz.zeroValue3
 t4:=Tryz.underlying4
 a4:=Tryz.isAgg4
 z4:=Tryz.sizeOf4
 v4:=Tryz.zeroValue4
 t5:=Tryz.underlying5
 a5:=Tryz.isAgg5
 z5:=Tryz.sizeOf5
 v5:=Tryz.zeroValue5
 t9:=Tryz.underlying9
 a9:=Tryz.isAgg9
 z9:=Tryz.sizeOf9
 v9:=Tryz.zeroValue9
 t31:=Tryz.underlying22
 a31:=Tryz.isAgg22
 z31:=Tryz.sizeOf22
 v31:=Tryz.zeroValue22
 t46:=Tryz.underlying259
 a46:=Tryz.isAgg259
 z46:=Tryz.sizeOf259
 v46:=Tryz.zeroValue259
 t51:=Tryz.underlying293
 a51:=Tryz.isAgg293
 z51:=Tryz.sizeOf293
 v51:=Tryz.zeroValue293
 t53:=Tryz.underlying295
 a53:=Tryz.isAgg295
 z53:=Tryz.sizeOf295
 v53:=Tryz.zeroValue295
 t131:=Tryz.underlying290
 a131:=Tryz.isAgg290
 z131:=Tryz.sizeOf290
 v131:=Tryz.zeroValue290
 t182:=Tryz.underlying284
 a182:=Tryz.isAgg284
 z182:=Tryz.sizeOf284
 v182:=Tryz.zeroValue284
 t183:=Tryz.underlying285
 a183:=Tryz.isAgg285
 z183:=Tryz.sizeOf285
 v183:=Tryz.zeroValue285
 t218:=Tryz.underlying305
 a218:=Tryz.isAgg305
 z218:=Tryz.sizeOf305
 v218:=Tryz.zeroValue305
 t222:=Tryz.underlying309
 a222:=Tryz.isAgg309
 z222:=Tryz.sizeOf309
 v222:=Tryz.zeroValue309
 t228:=Tryz.underlying316
 a228:=Tryz.isAgg316
 z228:=Tryz.sizeOf316
 v228:=Tryz.zeroValue316
 t229:=Tryz.underlying143
 a229:=Tryz.isAgg143
 z229:=Tryz.sizeOf143
 v229:=Tryz.zeroValue143}
end Go.Proofs
namespace Go.Proofs.YtmbalfjhlngncaaGreat
open Go Go.Bw
theorem Uv:∀a b:List UInt8,Op.bytesLess a b=true↔a<b
 |[],[]=>by simp[Op.bytesLess]
 |[],_::_=>by simp[Op.bytesLess]
 |_::_,[]=>by simp[Op.bytesLess]
 |x::a,y::b=>by rw[tK,List.cons_lt_cons_iff,Uv a b]
theorem tZ (a b:List UInt8):decide (a<=b)=true↔dU a b<=0:=by
 rw[iL,<-List.not_lt,<-Uv];unfold dU;rcases qQ a b with rfl|h|h
 ·simp[jG]
 ·rw[h,oF h];simp
 ·rw[h,oF h];simp
theorem M5 (l:List (List UInt8)):(l.mergeSort λx y=>decide (x<=y))=dw dU l:=by
 refine FM mx ((List.mergeSort_perm l _).trans (nk l).symm) ?_ (rY mx l);refine(List.pairwise_mergeSort (le:=λx y:List UInt8=>decide (x<=y)) (λa b c h g=>?_) (λa b=>?_) l).imp λh=>(tZ _ _).1 h
 ·exact(tZ _ _).2 (mx.le_trans ((tZ _ _).1 h) ((tZ _ _).1 g))
 ·have h1:=mx.iX a b;rw[rS,tZ,tZ];omega
theorem acz:GN env.P 210 (dw dU):=by
 refine⟨λeV off cap ss w hH hb hl=>?_,λp cap w=>Any.slices_Sort_string_none C3 p cap w⟩;rw[<-M5];exact Any.slices_Sort_string C3 eV off cap ss w hH hb hl
abbrev KV:=List (List UInt8)->Option (Unit×List (List UInt8))
def uW:KV:=λa0=>bif decide (a0.length<=274877906944)then some ((),dw dU a0)else none
def U8 (p:KV):Prop:=∀a0 r,p a0=some r->iS env 210 [(.os 0 (aB a0).length)] (.row 9 1 (aB a0)) (.bX []) (.row 9 1 (aB r.2))
theorem Lf:U8 uW:=by
 intro a0 r h;rw[uW]at h;cases hd:decide (a0.length<=274877906944)with
 |false=>rw[hd]at h;cases h
 |true=>
  rw[hd,aD]at h;cases h;have:=ig hd;exact iS.sort (E:=env) ⟨_,Tryz.func210,by kernel_rfl,by kernel_rfl⟩ acz (λl=>mv l) bD (by omega)
theorem ads (a0):uW a0=bif decide (a0.length<=274877906944)then some ((),dw dU a0)else none:=rfl
