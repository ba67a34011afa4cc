/- slices.Sorted(maps.Keys(m)), by the kit's contracts. -/
import Derived.Shelf.SlIterI.Nil
import Derived.Shelf.SlIterI.Sorted
import Derived.Shelf.SortM.Plain
import Derived.Shelf.SortM.SortNone
import Derived.Test.YthlcjaanmbjcaaaGreatKZs
set_option linter.all false
namespace Go.Proofs
open Go.Shelf
def DP:Go.Shelf.Ren:=⟨λ|7=>25|10=>42|n=>n,λ|23=>58|26=>3|3=>4|28=>64|0=>0|27=>63|33=>77|4=>4|n=>n,λ|n=>n⟩
theorem Oo:Go.Proofs.SlLaysZI.n7 Tryz.prog DP:={
 mixed:=by kernel_rfl
 f7:=⟨Tryz.f25.name,by decide,Tryz.func25.trans (congrArg some (by kernel_rfl))⟩
 f10:=⟨Tryz.f42.name,by decide,Tryz.func42.trans (congrArg some (by kernel_rfl))⟩
 t0:=Tryz.underlying0
 a0:=Tryz.isAgg0
 z0:=Tryz.sizeOf0
 v0:=Tryz.zeroValue0
 t4:=Tryz.underlying4
 a4:=Tryz.isAgg4
 z4:=Tryz.sizeOf4
 v4:=Tryz.zeroValue4
 t23:=Tryz.underlying58
 a23:=Tryz.isAgg58
 z23:=Tryz.sizeOf58
 v23:=Tryz.zeroValue58
 t26:=Tryz.underlying3
 a26:=Tryz.isAgg3
 z26:=Tryz.sizeOf3
 v26:=Tryz.zeroValue3
 t27:=Tryz.underlying63
 a27:=Tryz.isAgg63
 z27:=Tryz.sizeOf63
 v27:=Tryz.zeroValue63
 t28:=Tryz.underlying64
 a28:=Tryz.isAgg64
 z28:=Tryz.sizeOf64
 v28:=Tryz.zeroValue64
 t33:=Tryz.underlying77
 a33:=Tryz.isAgg77
 z33:=Tryz.sizeOf77
 v33:=Tryz.zeroValue77}
def Cw:Go.Shelf.Ren:=⟨λ|6=>24|8=>40|9=>41|11=>56|13=>58|12=>57|23=>87|24=>88|14=>78|15=>79|16=>80|17=>81|18=>82|19=>83|20=>84|21=>85|22=>86|25=>109|26=>110|27=>111|28=>112|29=>113|30=>114|31=>128|n=>n,λ|26=>3|28=>64|24=>48|0=>0|3=>3|37=>97|48=>131|50=>133|4=>4|40=>124|39=>123|45=>70|5=>5|9=>9|51=>150|55=>154|57=>162|58=>107|33=>77|n=>n,λ|n=>n⟩
theorem MQ:Go.Proofs.SlLaysZI.n6 Tryz.prog Cw:={
 mixed:=by kernel_rfl
 f6:=⟨Tryz.f24.name,by decide,Tryz.func24.trans (congrArg some (by kernel_rfl))⟩
 f8:=⟨Tryz.f40.name,by decide,Tryz.func40.trans (congrArg some (by kernel_rfl))⟩
 f11:=⟨Tryz.f56.name,by decide,Tryz.func56.trans (congrArg some (by kernel_rfl))⟩
 t0:=Tryz.underlying0
 a0:=Tryz.isAgg0
 z0:=Tryz.sizeOf0
 v0:=Tryz.zeroValue0
 t24:=Tryz.underlying48
 a24:=Tryz.isAgg48
 z24:=Tryz.sizeOf48
 v24:=Tryz.zeroValue48
 t26:=Tryz.underlying3
 a26:=Tryz.isAgg3
 z26:=Tryz.sizeOf3
 v26:=Tryz.zeroValue3
 t28:=Tryz.underlying64
 a28:=Tryz.isAgg64
 z28:=Tryz.sizeOf64
 v28:=Tryz.zeroValue64
 i26:=by kernel_rfl}
def LA:Go.Shelf.Ren:=⟨λ|5=>41|8=>58|7=>57|19=>87|20=>88|10=>78|11=>79|12=>80|13=>81|14=>82|15=>83|16=>84|17=>85|18=>86|30=>109|31=>110|32=>111|33=>112|34=>113|35=>114|40=>128|n=>n,λ|23=>48|25=>3|3=>3|32=>97|22=>48|0=>0|44=>131|46=>133|4=>4|36=>124|35=>123|41=>70|5=>5|9=>9|53=>150|57=>154|63=>162|64=>107|n=>n,λ|n=>n⟩
theorem G2:Go.Proofs.SlLaysM.n5 Tryz.prog LA:={
 mixed:=by kernel_rfl
 f5:=⟨Tryz.f41.name,by decide,Tryz.func41.trans (congrArg some (by kernel_rfl))⟩
 f7:=⟨Tryz.f57.name,by decide,Tryz.func57.trans (congrArg some (by kernel_rfl))⟩
 f8:=Tryz.func58.trans (congrArg some (by kernel_rfl))
 f10:=⟨Tryz.f78.name,by decide,Tryz.func78.trans (congrArg some (by kernel_rfl))⟩
 f11:=⟨Tryz.f79.name,by decide,Tryz.func79.trans (congrArg some (by kernel_rfl))⟩
 f12:=⟨Tryz.f80.name,by decide,Tryz.func80.trans (congrArg some (by kernel_rfl))⟩
 f13:=⟨Tryz.f81.name,by decide,Tryz.func81.trans (congrArg some (by kernel_rfl))⟩
 f14:=⟨Tryz.f82.name,by decide,Tryz.func82.trans (congrArg some (by kernel_rfl))⟩
 f15:=⟨Tryz.f83.name,by decide,Tryz.func83.trans (congrArg some (by kernel_rfl))⟩
 f16:=⟨Tryz.f84.name,by decide,Tryz.func84.trans (congrArg some (by kernel_rfl))⟩
 f17:=⟨Tryz.f85.name,by decide,Tryz.func85.trans (congrArg some (by kernel_rfl))⟩
 f18:=⟨Tryz.f86.name,by decide,Tryz.func86.trans (congrArg some (by kernel_rfl))⟩
 f19:=Tryz.func87.trans (congrArg some (by kernel_rfl))
 f20:=Tryz.func88.trans (congrArg some (by kernel_rfl))
 f30:=⟨Tryz.f109.name,by decide,Tryz.func109.trans (congrArg some (by kernel_rfl))⟩
 f31:=Tryz.func110.trans (congrArg some (by kernel_rfl))
 f32:=Tryz.func111.trans (congrArg some (by kernel_rfl))
 f33:=⟨Tryz.f112.name,by decide,Tryz.func112.trans (congrArg some (by kernel_rfl))⟩
 f34:=⟨Tryz.f113.name,by decide,Tryz.func113.trans (congrArg some (by kernel_rfl))⟩
 f35:=⟨Tryz.f114.name,by decide,Tryz.func114.trans (congrArg some (by kernel_rfl))⟩
 f40:=⟨Tryz.f128.name,by decide,Tryz.func128.trans (congrArg some (by kernel_rfl))⟩
 t0:=Tryz.underlying0
 a0:=Tryz.isAgg0
 z0:=Tryz.sizeOf0
 v0:=Tryz.zeroValue0
 t3:=Tryz.underlying3
 a3:=Tryz.isAgg3
 z3:=Tryz.sizeOf3
 v3:=Tryz.zeroValue3
 t4:=Tryz.underlying4
 a4:=Tryz.isAgg4
 z4:=Tryz.sizeOf4
 v4:=Tryz.zeroValue4
 t5:=Tryz.underlying5
 a5:=Tryz.isAgg5
 z5:=Tryz.sizeOf5
 v5:=Tryz.zeroValue5
 t9:=Tryz.underlying9
 a9:=Tryz.isAgg9
 z9:=Tryz.sizeOf9
 v9:=Tryz.zeroValue9
 t22:=Tryz.underlying48
 a22:=Tryz.isAgg48
 z22:=Tryz.sizeOf48
 v22:=Tryz.zeroValue48
 t23:=Tryz.underlying48
 a23:=Tryz.isAgg48
 z23:=Tryz.sizeOf48
 v23:=Tryz.zeroValue48
 t25:=Tryz.underlying3
 a25:=Tryz.isAgg3
 z25:=Tryz.sizeOf3
 v25:=Tryz.zeroValue3
 t32:=Tryz.underlying97
 a32:=Tryz.isAgg97
 z32:=Tryz.sizeOf97
 v32:=Tryz.zeroValue97
 t35:=Tryz.underlying123
 a35:=Tryz.isAgg123
 z35:=Tryz.sizeOf123
 v35:=Tryz.zeroValue123
 t36:=Tryz.underlying124
 a36:=Tryz.isAgg124
 z36:=Tryz.sizeOf124
 v36:=Tryz.zeroValue124
 t41:=Tryz.underlying70
 a41:=Tryz.isAgg70
 z41:=Tryz.sizeOf70
 v41:=Tryz.zeroValue70
 t44:=Tryz.underlying131
 a44:=Tryz.isAgg131
 z44:=Tryz.sizeOf131
 v44:=Tryz.zeroValue131
 t46:=Tryz.underlying133
 a46:=Tryz.isAgg133
 z46:=Tryz.sizeOf133
 v46:=Tryz.zeroValue133
 t53:=Tryz.underlying150
 a53:=Tryz.isAgg150
 z53:=Tryz.sizeOf150
 v53:=Tryz.zeroValue150
 t57:=Tryz.underlying154
 a57:=Tryz.isAgg154
 z57:=Tryz.sizeOf154
 v57:=Tryz.zeroValue154
 t63:=Tryz.underlying162
 a63:=Tryz.isAgg162
 z63:=Tryz.sizeOf162
 v63:=Tryz.zeroValue162
 t64:=Tryz.underlying107
 a64:=Tryz.isAgg107
 z64:=Tryz.sizeOf107
 v64:=Tryz.zeroValue107}
end Go.Proofs
namespace Go.Proofs.YthlcjaanmbjcaaaGreat
open Go Go.Bw Go.Proofs Go.RowKit Go.Maps Go.Sort Go.Shelf
theorem MR (m:Nat):AnyZI.SortsIn Tryz.prog Cw Fence.wide m:=
 ⟨λiZ off cap ss W hH hblk hsz=>callsIn_wide.2 (AnyM.slices_Sort_int G2 iZ off cap ss W hH hblk hsz),
  λp cap W=>callsIn_wide.2 (AnyM.slices_Sort_int_none G2 p cap W)⟩
theorem KZ:vq env.P 24 42:=λBm b ks w es clock hcell hBm hmap hkeys hnd hlt hok=>by
 simp only[qM,bn,jc,Nat.ble_eq,fH]at hok;obtain⟨hN,hL,hR⟩:=hok;have hlen:es.length=ks.length:=by have:=congrArg List.length hkeys;simpa using this
 have hkey:∀x∈es,∃n∈ks,x.key=encZ n:=λx hx=>by
  have:x.key∈ks.map encZ:=by rw[<-hkeys];exact cB.2 ⟨x,hx,rfl⟩
  obtain⟨n,hn,e⟩:=cB.1 this;exact⟨n,hn,e.symm⟩
 have hof:∀n∈ks,keyOf Tryz.prog 3 (encZ n)=some (.int .i64 n):=λn hn=>by
  have:=hR n hn;simp[keyOf,mapKey,Tryz.underlying3,Lit.wf,IntKind.min,IntKind.max,IntKind.signed,IntKind.bits];omega
 have hread:∀x∈es,∀n,x.key=encZ n->n∈ks->Go.WideElems.rd Tryz.prog 3 (λ_=>some ((.nil:DataW Unit),([]:List MemPlace))) x=some (.int .i64 n,.nil):=λx _ n e hn=>by
  simp[Go.WideElems.rd,e,hof n hn]
 have hown:w.ownsMap Tryz.prog 3 (λ_=>some ((.nil:DataW Unit),([]:List MemPlace))) b ks.length (.map ((es.map (Go.WideElems.rg Tryz.prog 3 λ_=>some ((.nil:DataW Unit),([]:List MemPlace)))).foldr DataW.insert [])):=by
  refine⟨es.toArray,clock,hmap,⟨by simp[maxLen];omega,⟨by simpa using hlt,by simpa using hnd,?_⟩,λx hx=>?_⟩,by simp[hlen],by simp⟩
  ·simp only[hkeys];simp only[List.Nodup,List.pairwise_map];exact hN.imp λhne e=>hne (by simpa[encZ]using e)
  ·obtain⟨n,hn,e⟩:=hkey x (by simpa using hx);exact⟨_,hread x (by simpa using hx) n e hn⟩
 have hrg:es.map (Go.WideElems.rg Tryz.prog 3 λ_=>some ((.nil:DataW Unit),([]:List MemPlace)))=ks.map λn=>(.int .i64 n,.nil):=by
  apply BI;intro i;have h:=congrArg (λl=>l[i]?) hkeys;simp only[JN]at h⊢;cases he:es[i]? with
  |none=>rw[he]at h;cases hk:ks[i]? with
   |none=>rfl
   |some n=>rw[hk]at h;cases h
  |some x=>
   rw[he]at h;cases hk:ks[i]? with
   |none=>rw[hk]at h;cases h
   |some n=>
    rw[hk]at h;simp only[JU,ao]at h⊢;simp[Go.WideElems.rg,hread x (bV he) n h (bV hk)]
 rw[hrg]at hown;have hperm:∀ss:List Int,ss.Perm (intKeys (.map ((ks.map λn=>((.int .i64 n,.nil):Lit×DataW Unit)).foldr DataW.insert [])))->ss.Perm ks:=λss h=>by
  refine h.trans ?_;have:=(Sw (ks.map λn=>((.int .i64 n,.nil):Lit×DataW Unit))).map λp=>Go.intOf p.1;refine this.trans ?_;rw[List.map_map];have:(List.map ((λp:Lit×DataW Unit=>Go.intOf p.1)∘λn=>(.int .i64 n,.nil)) ks)=ks:=by
   conv=>rhs;rw[<-List.map_id ks]
   rfl
  rw[this]
 have hsize:Maps.size (.map ((ks.map λn=>((.int .i64 n,.nil):Lit×DataW Unit)).foldr DataW.insert []))=ks.length:=by
  have:=(Sw (ks.map λn=>((.int .i64 n,.nil):Lit×DataW Unit))).length_eq;simpa[Maps.size]using this
 have hseq:=AnyZI.keys_gives ({Oo with}:SlLaysZI.n10 Tryz.prog DP) Fence.wide 2 trivial rfl (by omega) Bm b ks.length _ w hBm hcell hown;have cS:=AnyZI.sorted_in MQ Fence.wide 5 trivial trivial trivial trivial rfl (by omega) (MR _) (enters_of Tryz.func41 (by kernel_rfl) rfl) 42 #[.pointer (some ⟨Bm,0,none⟩)] trivial (enters_of Tryz.func42 (by kernel_rfl) rfl) _ _ (by rw[hsize];simp[maxLen];omega) (by rw[hsize];omega) _ hseq;refine((callsIn_wide (n:=5)).1 cS).mono ?_;rintro e w' ⟨v,ss,rfl,hS,hrow,_,hb⟩;have hp:=hperm ss hS;have hl:ss.length=(gh ks).length:=by rw[hp.length_eq,(vp ks).length_eq]
 rw[J5 hp,hl]at hrow;exact⟨v,_,rfl,hrow,hb⟩
