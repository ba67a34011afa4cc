/- InflationOffsets: for all argument trees. -/
import Derived.Test.YthlcjaanmbjcaaaGreatKGk
import Derived.Test.YthlcjaanmbjcaaaGreatKId
import Derived.Test.YthlcjaanmbjcaaaGreatKIz
import Derived.Test.YthlcjaanmbjcaaaGreatKG9
set_option linter.all false
namespace Go.Proofs.YthlcjaanmbjcaaaGreat
open Go Go.Bw
set_option maxRecDepth 100000 in
theorem S6 (xs:List AV) (h:nB Tryz.prog 1048576 Tryz.f5.params.toList xs):Bw.Pure env.toCx 5 xs (.ret (Gx true)):=by
 rw[Tryz.params5]at h;obtain⟨x,r,rfl,hx,x2,r2,rfl,hx2,hr⟩:=h;simp only[nB]at hr;subst hr;simp only[jT,Tryz.underlying26,Tryz.underlying34]at hx hx2;obtain⟨n,row,hx,rfl⟩:=hx;obtain⟨n2,row2,hx2,rfl⟩:=hx2;obtain⟨l,rfl,hl⟩:=af.sh _ _ hx;obtain⟨f,rfl,hf⟩:=bl.sh _ _ hx2;exact p5 _ _ _ (S7 (bq _) Md hl hf)
