/- EvalSucceeds: for all argument trees. -/
import Derived.Test.YtmbalfjhlngncaaGreatKGk
import Derived.Test.YtmbalfjhlngncaaGreatKKm
import Derived.Test.YtmbalfjhlngncaaGreatKKz
import Derived.Test.YtmbalfjhlngncaaGreatKG11
import Derived.Test.YtmbalfjhlngncaaGreatKUn
set_option linter.all false
namespace Go.Proofs.YtmbalfjhlngncaaGreat
open Go Go.Bw
theorem acS {B n:Nat} {row:List AV} (h:Sh Tryz.prog B n 39 row):∃l:List aR,row=[.sl 4 (aR.rows l)]/\kR B l:=by
 obtain⟨m,rows,rfl,rfl,hB,h⟩:=ko (show Tryz.prog.underlying 39=some (.slice 48)by kernel_rfl) (show Tryz.prog.cellsOf 48=4 by kernel_rfl) h;obtain⟨xs,rfl,hx⟩:=jD (f:=aR.cs) (p:=λd=>aR.ok B d) (rows:=rows) (λr hr=>aR.sh _ _ (h r hr));exact⟨xs,rfl,by simpa using hB,hx⟩
set_option maxRecDepth 100000 in
theorem law_EvalUnread (xs:List AV) (h:ua Tryz.prog 1048576 Tryz.f7.params.toList xs):Bw.Pure env.toCx 7 xs (.ret (T9 true)):=by
 rw[Tryz.params7]at h;obtain⟨x,r,rfl,hx,x2,r2,rfl,hx2,x3,r3,rfl,hx3,x4,r4,rfl,hx4,x5,r5,rfl,hx5,hr⟩:=h;simp only[ua]at hr;subst hr;simp only[nG,Tryz.underlying26,Tryz.underlying34,Tryz.underlying38,show Tryz.prog.underlying 39=some (.slice 48)by kernel_rfl]at hx hx2 hx3 hx4 hx5;obtain⟨n,row,hx,rfl⟩:=hx;obtain⟨n2,row2,hx2,rfl⟩:=hx2;obtain⟨n3,row3,hx3,rfl⟩:=hx3;obtain⟨n4,row4,hx4,rfl⟩:=hx4;obtain⟨n5,hx5⟩:=hx5;obtain⟨l,rfl,hl⟩:=ah.sh _ _ hx;obtain⟨f,rfl,hf⟩:=bU.sh _ _ hx2;obtain⟨v,rfl,hv⟩:=af.sh _ _ hx3;obtain⟨w,rfl,hw⟩:=af.sh _ _ hx4;obtain⟨ds,e,hd⟩:=acS hx5;simp only[kb,and_true]at e;subst e;exact p7 _ _ _ _ _ _ (ZF (bS _) acT hl hf hv hw hd)
