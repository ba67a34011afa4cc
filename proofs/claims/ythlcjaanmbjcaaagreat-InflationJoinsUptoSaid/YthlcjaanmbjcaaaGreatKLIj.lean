/- InflationJoins: for all argument trees. -/
import Derived.Test.YthlcjaanmbjcaaaGreatKGk
import Derived.Test.YthlcjaanmbjcaaaGreatKIj
import Derived.Test.YthlcjaanmbjcaaaGreatKIz
import Derived.Test.YthlcjaanmbjcaaaGreatKG9
set_option linter.all false
namespace Go.Proofs.YthlcjaanmbjcaaaGreat
open Go Go.Bw
set_option maxRecDepth 100000 in
theorem J4 (xs:List AV) (h:nB Tryz.prog 1048576 Tryz.f3.params.toList xs):Bw.Pure env.toCx 3 xs (.ret (Gx true)):=by
 rw[Tryz.params3]at h;obtain⟨x,r,rfl,hx,x2,r2,rfl,hx2,x3,r3,rfl,hx3,x4,r4,rfl,hx4,hr⟩:=h;simp only[nB]at hr;subst hr;simp only[jT,Tryz.underlying26,Tryz.underlying34,Tryz.underlying32]at hx hx2 hx3 hx4;obtain⟨n,row,hx,rfl⟩:=hx;obtain⟨n2,row2,hx2,rfl⟩:=hx2;obtain⟨n3,row3,hx3,rfl⟩:=hx3;obtain⟨n4,row4,hx4,rfl⟩:=hx4;obtain⟨l,rfl,hl⟩:=af.sh _ _ hx;obtain⟨f,rfl,hf⟩:=bl.sh _ _ hx2;obtain⟨g,rfl,hg⟩:=bl.sh _ _ hx3;obtain⟨c,rfl,hc⟩:=ab.sh _ _ hx4;exact p3 _ _ _ _ _ (K4 (bq _) Md hl hf hg hc (by decide))
