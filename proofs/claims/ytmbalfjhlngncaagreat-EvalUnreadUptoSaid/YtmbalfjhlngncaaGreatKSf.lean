/- The sort of entries, by the kit's contract, as a call that writes a row of one's own. -/
import Derived.Shelf.SlSortCmp.WholeK
import Derived.Shelf.SlSortCmp.NoneTotal
import Derived.Test.YtmbalfjhlngncaaGreatKVd
set_option linter.all false
namespace Go.Proofs
open Go.Shelf
def YZ:Go.Shelf.Ren:=⟨λ|6=>293|15=>274|14=>320|28=>312|29=>313|20=>328|21=>329|22=>330|23=>331|24=>332|25=>333|26=>334|27=>335|46=>338|47=>324|48=>325|49=>339|50=>340|57=>341|n=>n,λ|22=>36|24=>116|25=>113|3=>3|39=>259|0=>0|53=>293|55=>295|4=>4|46=>285|45=>284|50=>290|5=>5|9=>9|66=>305|70=>309|76=>316|77=>143|n=>n,λ|n=>n⟩
theorem O':Go.Proofs.SlLaysF0.n6 Tryz.prog YZ:={
 mixed:=by kernel_rfl
 f6:=⟨Tryz.f293.name,by decide,Tryz.func293.trans (congrArg some (by kernel_rfl))⟩
 f14:=⟨Tryz.f320.name,by decide,Tryz.func320.trans (congrArg some (by kernel_rfl))⟩
 f15:=Tryz.func274.trans (congrArg some (by kernel_rfl))
 f20:=⟨Tryz.f328.name,by decide,Tryz.func328.trans (congrArg some (by kernel_rfl))⟩
 f21:=⟨Tryz.f329.name,by decide,Tryz.func329.trans (congrArg some (by kernel_rfl))⟩
 f22:=⟨Tryz.f330.name,by decide,Tryz.func330.trans (congrArg some (by kernel_rfl))⟩
 f23:=⟨Tryz.f331.name,by decide,Tryz.func331.trans (congrArg some (by kernel_rfl))⟩
 f24:=⟨Tryz.f332.name,by decide,Tryz.func332.trans (congrArg some (by kernel_rfl))⟩
 f25:=⟨Tryz.f333.name,by decide,Tryz.func333.trans (congrArg some (by kernel_rfl))⟩
 f26:=⟨Tryz.f334.name,by decide,Tryz.func334.trans (congrArg some (by kernel_rfl))⟩
 f27:=⟨Tryz.f335.name,by decide,Tryz.func335.trans (congrArg some (by kernel_rfl))⟩
 f28:=Tryz.func312.trans (congrArg some (by kernel_rfl))
 f29:=Tryz.func313.trans (congrArg some (by kernel_rfl))
 f46:=⟨Tryz.f338.name,by decide,Tryz.func338.trans (congrArg some (by kernel_rfl))⟩
 f47:=Tryz.func324.trans (congrArg some (by kernel_rfl))
 f48:=Tryz.func325.trans (congrArg some (by kernel_rfl))
 f49:=⟨Tryz.f339.name,by decide,Tryz.func339.trans (congrArg some (by kernel_rfl))⟩
 f50:=⟨Tryz.f340.name,by decide,Tryz.func340.trans (congrArg some (by kernel_rfl))⟩
 f57:=⟨Tryz.f341.name,by decide,Tryz.func341.trans (congrArg some (by kernel_rfl))⟩
 t0:=Tryz.underlying0
 a0:=Tryz.isAgg0
 z0:=Tryz.sizeOf0
 v0:=Tryz.zeroValue0
 t3:=Tryz.underlying3
 a3:=Tryz.isAgg3
 z3:=Tryz.sizeOf3
 v3:=Tryz.zeroValue3
 t4:=Tryz.underlying4
 a4:=Tryz.isAgg4
 z4:=Tryz.sizeOf4
 v4:=Tryz.zeroValue4
 t5:=Tryz.underlying5
 a5:=Tryz.isAgg5
 z5:=Tryz.sizeOf5
 v5:=Tryz.zeroValue5
 t9:=Tryz.underlying9
 a9:=Tryz.isAgg9
 z9:=Tryz.sizeOf9
 v9:=Tryz.zeroValue9
 t22:=Tryz.underlying36
 a22:=Tryz.isAgg36
 z22:=Tryz.sizeOf36
 v22:=Tryz.zeroValue36
 t25:=Tryz.underlying113
 a25:=Tryz.isAgg113
 z25:=Tryz.sizeOf113
 v25:=Tryz.zeroValue113
 t39:=Tryz.underlying259
 a39:=Tryz.isAgg259
 z39:=Tryz.sizeOf259
 v39:=Tryz.zeroValue259
 t45:=Tryz.underlying284
 a45:=Tryz.isAgg284
 z45:=Tryz.sizeOf284
 v45:=Tryz.zeroValue284
 t46:=Tryz.underlying285
 a46:=Tryz.isAgg285
 z46:=Tryz.sizeOf285
 v46:=Tryz.zeroValue285
 t50:=Tryz.underlying290
 a50:=Tryz.isAgg290
 z50:=Tryz.sizeOf290
 v50:=Tryz.zeroValue290
 t53:=Tryz.underlying293
 a53:=Tryz.isAgg293
 z53:=Tryz.sizeOf293
 v53:=Tryz.zeroValue293
 t55:=Tryz.underlying295
 a55:=Tryz.isAgg295
 z55:=Tryz.sizeOf295
 v55:=Tryz.zeroValue295
 t66:=Tryz.underlying305
 a66:=Tryz.isAgg305
 z66:=Tryz.sizeOf305
 v66:=Tryz.zeroValue305
 t70:=Tryz.underlying309
 a70:=Tryz.isAgg309
 z70:=Tryz.sizeOf309
 v70:=Tryz.zeroValue309
 t76:=Tryz.underlying316
 a76:=Tryz.isAgg316
 z76:=Tryz.sizeOf316
 v76:=Tryz.zeroValue316
 t77:=Tryz.underlying143
 a77:=Tryz.isAgg143
 z77:=Tryz.sizeOf143
 v77:=Tryz.zeroValue143}
end Go.Proofs
namespace Go.Proofs.YtmbalfjhlngncaaGreat
open Go Go.Bw
theorem aa':Gr env.P 293 294 2:=by
 refine⟨λα _ enc hk h1 cf hO eV off cap d w hcmp hH hb hl=>?_,λp cap fv w=>AnyF.slices_SortFunc_none {O' with} p cap fv w⟩;exact AnyQ.slices_SortFunc O' 2 Tryz.isAgg116 Tryz.sizeOf116 enc hk h1 cf hO 294 #[] eV off cap d w (enters_of Tryz.func294 (by kernel_rfl) rfl) hcmp hH hb hl
def yn (es:List ax):Bool:=es.all λe=>decide (e.aY.length<=274877906944)
abbrev Hh:=List ax->Option (Unit×List ax)
def sN:Hh:=λa0=>bif decide (a0.length<=274877906944)&&yn a0 then some ((),dw eO a0)else none
def Qb (p:Hh):Prop:=∀a0 r,p a0=some r->iS env 293 [(.os 0 (ax.rows a0).length),(.d (.v (.func (.func 294) #[] #[])))] (.row 116 2 (ax.rows a0)) (.bX []) (.row 116 2 (ax.rows r.2))
theorem Hk:Qb sN:=by
 intro a0 r h;rw[sN]at h;cases hd:decide (a0.length<=274877906944)&&yn a0 with
 |false=>rw[hd]at h;cases h
 |true=>
  rw[hd,aD]at h;cases h;rw[bJ,iL]at hd;refine iS.abz (E:=env) (T:=ax) (cs:=ax.cs) ⟨_,Tryz.func293,by kernel_rfl,by kernel_rfl⟩ aa' (by omega) oE (λt=>rfl) (λx hx y _=>?_) (ax.aI a0) (by omega);have hc:x.aY.length<=274877906944:=ig (fR.1 hd.2 x hx);exact aha _ _ _ (aab x y hc)
theorem Zr (a0):sN a0=bif decide (a0.length<=274877906944)&&yn a0 then some ((),dw eO a0)else none:=rfl
