/- Sizes of expressions. -/
import Derived.Test.YtnocmolegijmkaaGreatKDa
import Derived.Test.YtnocmolegijmkaaGreatKGA3
import Derived.Test.YtnocmolegijmkaaGreatKVa9
import Derived.Test.YtnocmolegijmkaaGreatKRk
import Derived.Test.YtnocmolegijmkaaGreatKSb
set_option linter.all false
namespace Go.Proofs.YtnocmolegijmkaaGreat
open Go Go.Bw
theorem LK:∀{a b:List ab},jU (a++b)=jU a+jU b
 |[],b=>by simp[jU]
 |x::a,b=>by rw[jJ,jU,jU,LK];omega
theorem UB {ks:List ab} {i:Nat} {k:ab} (h:ks[i]? =some k):jU (ks.take (i+1))=jU (ks.take i)+qe k:=by
 rw[J7,h,LK];simp[jU]
theorem Wb:∀(x:ab) (k:Int),k<=1000000-> -1<=k->ag ((zy Pu) x k) (λr=>r<=k/\ -1<=r/\(0<=r->(qe x:Int)+r<=k)):=by
 refine ab.ind λx ih k hk hk0=>?_;rw[e48,zf];simp only[ab.aB];refine ag.bif (λh=>ag.ret ⟨by omega,by omega,λh=>by omega⟩) (λh1=>?_);have h1:1<=k:=by simpa using h1
 refine ag.bif (λh=>ag.ret ⟨by omega,by omega,λh=>by omega⟩) (λh2=>?_);have h2:(x.Kids.length:Int)<=k:=by simpa using h2
 rw[wrap64 (by omega) (by omega)];refine eS (L:=λi s=>(rf Pu) x s i) (P:=λr=>r<=k/\ -1<=r/\(0<=r->(qe x:Int)+r<=k)) (len:=x.Kids.length) (λi s=>s<=k/\ -1<=s/\(0<=s->(1:Int)+jU (x.Kids.take i)+s<=k)) (λi s hi hI kk=>?_) (λs hI=>?_) 0 (k-1) (by omega) ⟨by omega,by omega,λ_=>by simp[jU];omega⟩
 ·show ag ((rf Pu) x s i) _;obtain⟨y,hy⟩:=bg hi;have ht:=UB hy;have:decide (i<x.Kids.length)=true:=by simpa using hi
  rw[Oh,tT];simp only[ab.aB];rw[aU,this,aO];refine ag.bif (λh=>?_) (λh=>ag.ret ⟨hI.1,hI.2.1,λg=>?_⟩)
  ·have h:0<=s:=by simpa using h
   rw[bc hy,aq,bO i (by omega)];refine ag.bind (ih y (bh hy) s (by omega) (by omega)) (λr hr=>kk r ⟨by omega,hr.2.1,λg=>?_⟩);have:=hr.2.2 g;have:=hI.2.2 h;omega
  ·have h:¬0<=s:=by simpa using h
   omega
 ·show ag ((rf Pu) x s x.Kids.length) _;have:decide (x.Kids.length<x.Kids.length)=false:=by simp
  rw[jg]at hI;rw[Oh,tT];simp only[ab.aB];rw[aU,this,a6];exact ag.ret ⟨hI.1,hI.2.1,λg=>by rw[W6];have:=hI.2.2 g;omega⟩
theorem UC (x:ab) {k:Int} (hk:k<=1000000) (hk0: -1<=k):ag ((CZ Pu) x k) (λr=>r=true->(qe x:Int)<=k):=by
 rw[e23,zh];refine ag.bind (Wb x k hk hk0) (λr hr=>ag.ret λh=>?_);have h:0<=r:=by simpa using h
 have:=hr.2.2 h;omega
theorem X':(C0 Pu) ⟨0,[],[],[]⟩ 40=some true:=by
 have e1:(xc Pu) ⟨0,[],[],[]⟩ 39 0=some 39:=by rw[XS,xd];rfl
 have e2:(xa Pu) ⟨0,[],[],[]⟩ 39 0 0=some 39:=by rw[XT,xb];exact e1
 have e3:(zA Pu) ⟨0,[],[],[]⟩ 40=some 39:=by rw[e49,zj];exact e2
 rw[zI,zm,e3];rfl
theorem Ut (f:bD):ag ((u8 Pu) f ⟨0,[],[],[]⟩ []) (λr=>r=true->qe f.Body<=60):=by
 rw[e8,B8];refine ag.bind (UC f.Body (k:=60) (by decide) (by decide)) (λy hy=>ag.bif (λ_=>ag.ret λh=>by cases h) (λh=>?_));have hy:=hy (by simpa using h);rw[X',aq];refine ag.bif (λ_=>ag.ret λh=>by cases h) (λ_=>ag.bif (λ_=>ag.ret λh=>by cases h) (λ_=>ag.bif (λ_=>ag.ret λh=>by cases h) (λ_=>?_)));rw[ZL,xw];exact ag.ret λ_=>by omega
section
variable {B:Nat} (hB:B<=1048576)
include hB
theorem vU:∀a:ab,TT B a->∀b:ab,b.ok B->(vy Pu) a b=some (bu a b):=by
 refine ab.ind λa ih ha b hb=>?_;rw[ab.cM]at hb;obtain⟨_,_,_,_,_,hkl,hkk⟩:=hb;have hkids:a.Kids.length=b.Kids.length->(uf Pu) a b 0=some (cF (gQ a.Kids) (gQ b.Kids)):=λh=>by
  rw[og (a:=a.Kids) (b:=b.Kids) (L:=(uf Pu) a b) bu true h ?_ ?_]
  ·rw[oY,Fh h]
  ·intro i x y hx hy hi;rw[Ox,ug,ab.aB,mW (by omega)];have h1:decide ((i:Int)<(a.Kids.length:Int))=true:=by simpa using hi
   rw[h1,bc hx,bc hy];show(((vy Pu) x y).bind _)=_;rw[ih x (bh hx) (ha.ez (bh hx)) y (ab.gF hkk (bh hy))];show(bif !(bu x y)then _ else _)=_;cases bu x y<;>rfl
  ·rw[Ox,ug,ab.aB];simp
 obtain⟨r,e1,hr⟩:=AZ (b:=b.aj) hB ha.ty.ok;have e2:r=cF a.aj b.aj:=mj hr;rw[e61,zY,e1,e2,ab.aB,ab.aB,O5];simp only[aq,bne];by_cases h:a.Kids.length=b.Kids.length
 ·have h0:((a.Kids.length:Int)==(b.Kids.length:Int))=true:=by simp[h]
  rw[hkids h,h0];generalize (a.Op==b.Op)=c1;generalize cF a.aj b.aj=c2;generalize (a.N==b.N)=c3;generalize (a.Text==b.Text)=c4;generalize cF (gQ a.Kids) (gQ b.Kids)=c5;cases c1<;>cases c2<;>cases c3<;>cases c4<;>cases c5<;>rfl
 ·have h0:((a.Kids.length:Int)==(b.Kids.length:Int))=false:=by simpa usingλe=>h (by omega)
  have h2:cF (gQ a.Kids) (gQ b.Kids)=false:=by
   rw[<-J4,nn];intro e;have:=congrArg List.length e;rw[wR,wR]at this;exact h this
  rw[h0,h2];generalize (a.Op==b.Op)=c1;generalize cF a.aj b.aj=c2;generalize (a.N==b.N)=c3;generalize (a.Text==b.Text)=c4;cases c1<;>cases c2<;>cases c3<;>cases c4<;>rfl
end
theorem pf (x:ab):(sA Pu) x=some (fC x):=by rw[e62,zZ];rfl
theorem Bn (x:ab) (ks:List ab):(qq Pu) x ks=some (fT x ks):=by rw[e63,z6];rfl
section
variable {B:Nat} (hB:B<=1048576)
include hB
variable {c:bJ} (hc:CE B c)
include hc
theorem ZP {e:ab} {w:ay} (h:W c.l c.params e w):a7 B w->w.aK=0->e.ok B->TT B e->∀p,TT B p->p.aj=w->(kq Pu) p e=some (bE bu p e):=by
 have lf:∀{e:ab} {w:ay},(e.Op≠16/\e.Op≠7/\e.Op≠25/\e.Op≠24)->a7 B w->w.aK=0->e.ok B->TT B e->∀p,TT B p->p.aj=w->(kq Pu) p e=some (bE bu p e):=λ{e w} ho _ _ hok _ p hp _=>by
  have o1:(e.Op==16)=false:=by simpa using ho.1
  have o2:(e.Op==7)=false:=by simpa using ho.2.1
  have o3:(e.Op==25)=false:=by simpa using ho.2.2.1
  have o4:(e.Op==24)=false:=by simpa using ho.2.2.2
  rw[z7,oW,vU hB p hp e hok,Bg ho,o1,o2,o3,o4,pf];cases bu p e<;>rfl
 have hd:∀{p e r:ab} {o:Option ab},o=some r->(bif bu p e then(some (fC e)).bind λy=>some y else o)=some (if bu p e=true then fC e else r):=λ{p e r o} h=>by
  rw[h];cases bu p e<;>rfl
 induction h with
 |kY hn=>intro hw;rw[hw.eB]at hn;cases hn
 |kZ hn=>intro hw;rw[hw.eB]at hn;cases hn
 |kQ hn=>intro hw;rw[hw.eB]at hn;cases hn
 |kR hn=>intro hw;rw[hw.eB]at hn;cases hn
 | @iX cc x y a w hn wc wx wy ic ix iy=>
  intro hw hs hok ht p hp hpt;have hx:=ix hw hs (kO hok (by simp)) (ht.ez (by simp)) p hp hpt;have hy:=iy hw hs (kO hok (by simp)) (ht.ez (by simp)) p hp hpt;have i0:ao [cc,x,y] 0=some cc:=rfl;have i1:ao [cc,x,y] 1=some x:=rfl;have i2:ao [cc,x,y] 2=some y:=rfl;rw[z7,oW,vU hB p hp _ hok,gG,aq,pf];refine hd ?_;simp only[Int.reduceBEq,aO,a6,i0,i1,i2,aq,hx,hy,pf,Bn];show _=some (kr _ [cc,x,y] (cf bu p [cc,x,y]));rw[cf,cf,cf,cf,kr];by_cases h1:(bE bu p x).Op=6
  ·have h1':((bE bu p x).Op==6)=true:=by simpa using h1
   by_cases h2:(bE bu p y).Op=6
   ·have h2':((bE bu p y).Op==6)=true:=by simpa using h2
    rw[h1',h2',cj ⟨h1,h2⟩];rfl
   ·have h2':((bE bu p y).Op==6)=false:=by simpa using h2
    rw[h1',h2',bK (λh=>h2 h.2)];rfl
  ·have h1':((bE bu p x).Op==6)=false:=by simpa using h1
   rw[h1',bK (λh=>h1 h.1)];rfl
 | @jt x y a w hn hs' wx wy ix iy=>
  intro hw hs hok ht p hp hpt;have hx:=ix hw hs (kO hok (by simp)) (ht.ez (by simp)) p hp hpt;have hy:=iy hw hs (kO hok (by simp)) (ht.ez (by simp)) p hp hpt;have i0:ao [x,y] 0=some x:=rfl;have i1:ao [x,y] 1=some y:=rfl;rw[z7,oW,vU hB p hp _ hok,gG,aq,pf];refine hd ?_;simp only[Int.reduceBEq,aO,a6,i0,i1,aq,hx,hy,Bn];show _=some (kt _ (cf bu p [x,y]));rw[cf,cf,cf,kt];by_cases h1:(bE bu p x).Op=6
  ·have h1':((bE bu p x).Op==6)=true:=by simpa using h1
   rw[h1',cj h1];rfl
  ·have h1':((bE bu p x).Op==6)=false:=by simpa using h1
   rw[h1',bK h1];by_cases h2:(bE bu p y).Op=6
   ·have h2':((bE bu p y).Op==6)=true:=by simpa using h2
    rw[h2',cj h2];rfl
   ·have h2':((bE bu p y).Op==6)=false:=by simpa using h2
    rw[h2',bK h2];rfl
 | @gT kids a w h0 hk6 hb hl wk ik=>
  intro hw hs hok ht p hp hpt;rw[z7,oW,vU hB p hp _ hok,gG,aq,pf];refine hd ?_;simp only[Int.reduceBEq,aO,a6];rw[e64,vB];refine(acs _).trans ?_;show _=some (ku _ (dw bu p 0 kids));generalize he:(⟨25,w,0,[],a,kids⟩:ab)=e at*
  have hkk:e.Kids=kids:=by rw[<-he]
  refine ag.of (eS (L:=λi (s:List ab×Bool)=>(pT Pu) p e s.1 s.2 i) (P:=(·=ku e (dw bu p 0 kids))) (len:=kids.length) (λi s=>s.1=(dw bu p 0 kids).take i/\s.2= !((dw bu p 0 kids).take i).all (·.Op==6)) (λi s hi hI k=>?_) (λs hI=>?_) 0 ([],false) (by omega) ⟨rfl,rfl⟩)
  ·show ag ((pT Pu) p e s.1 s.2 i) _;obtain⟨x,hx⟩:=bg hi;obtain⟨pt,hq⟩:=bg (l:=w.ai.aw) (i:=i) (by omega);have hm:=bh hx;have wq:=fJ hw hs (bh hq);have hpq:p.aj.ai.aw[i]? =some pt:=by rw[hpt];exact hq
   have hf:TT B (kh p i):= .mk (by rw[uk hpq];exact wq) (λk hk=>by simp[kh]at hk;subst hk;exact hp);have ex:=ik i x pt hx hq wq rfl (kO hok (by rw[hkk];exact hm)) (ht.ez (by rw[hkk];exact hm)) (kh p i) hf (by rw[uk hpq]);have hg:(dw bu p 0 kids)[i]? =some (bE bu (kh p i) x):=by rw[wC,hx];simp
   have hlen:(dw bu p 0 kids).length=kids.length:=po _ _ _;have:decide (i<kids.length)=true:=by simpa using hi
   rw[Oy,uh,ab.aB,hkk,aU,this,aO,bc hx,aq,aq,bO i (by omega)];rw[uk hpq]at ex hg;have ex:(kq Pu) {Op:=19,aj:=x.aj,N:=(i:Int),Text:=[],At:=0,Kids:=[p]:ab} x=some (bE bu ⟨19,bN pt,i,[],0,[p]⟩ x):=by rw[IK hc (wk i x pt hx hq) wq.eB];exact ex
   rw[ex,aq,Ab (by rw[hI.1];simp;omega)];have e1:=Ac hg;have:=hI.2;cases hb2:s.2 with
   |true=>
    rw[hb2]at this;exact k (s.1++[bE bu ⟨19,bN pt,i,[],0,[p]⟩ x],true) ⟨by rw[hI.1];exact e1,by rw[<-e1,Bf,Bool.not_and,<-this];rfl⟩
   |false=>
    rw[hb2]at this;exact k (s.1++[bE bu ⟨19,bN pt,i,[],0,[p]⟩ x],(bE bu ⟨19,bN pt,i,[],0,[p]⟩ x).Op !=6) ⟨by rw[hI.1];exact e1,by rw[<-e1,Bf,Bool.not_and,<-this];rfl⟩
  ·show ag ((pT Pu) p e s.1 s.2 kids.length) _;have hlen:(dw bu p 0 kids).length=kids.length:=po _ _ _;rw[<-hlen,jg]at hI;have:decide (kids.length<kids.length)=false:=by simp
   rw[Oy,uh,ab.aB,hkk,aU,this,a6,pf,Bn,hI.1];unfold ku;have h2:=hI.2;cases hb2:s.2 with
   |false=>rw[hb2]at h2;rw[cj (by simpa using h2.symm)];exact ag.ret rfl
   |true=>rw[hb2]at h2;rw[bK (by simpa using h2.symm)];exact ag.ret rfl
 | @map kids pt a w h0 hk5 hb hq wk wv i1 i2=>
  intro hw hs hok ht p hp hpt;rw[z7,oW,vU hB p hp _ hok,gG,aq,pf];refine hd ?_;simp only[Int.reduceBEq,aO,a6];rw[e65,vC];refine(acs _).trans ?_;show _=some (kv _ (dy bu p none (kids.flatMap λq=>[q.1,q.2])));rw[BN];have hK:(kids.flatMap λq=>[q.1,q.2]).length=2*kids.length:=oc _;generalize he:(⟨24,w,0,[],a,kids.flatMap λq=>[q.1,q.2]⟩:ab)=e at*
  have hkk:e.Kids=kids.flatMap λq=>[q.1,q.2]:=by rw[<-he]
  show(nB Pu) p e [] (2*((0:Nat):Int))=_;refine ag.of (eS (L:=λ(j:Int) s=>(nB Pu) p e s (2*j)) (P:=(·=kv e ((jz bu p kids).flatMap λr=>[r.1,r.2]))) (len:=kids.length) (λj s=>s=(jz bu p (kids.take j)).flatMap λr=>[r.1,r.2]) (λj s hj hI k=>?_) (λs hI=>?_) 0 [] (by omega) rfl)
  ·show ag ((nB Pu) p e s (2*(j:Int))) _;have k':∀b',b'=((jz bu p (kids.take (j+1))).flatMap λr=>[r.1,r.2])->ag ((nB Pu) p e b' (2*((j+1:Nat):Int))) _:=k;obtain⟨r,hr⟩:=bg hj;have fg:=GP hr;have m1:=bh fg.1;have m2:=bh fg.2;have wq:=fJ hw hs (bh hq);have hpq:p.aj.ai.aw[0]? =some pt:=by rw[hpt];exact hq
   have hf:TT B (dI p r.1):= .mk (by rw[uI hpq];exact wq) (λk hk=>by
    simp[dI]at hk;rcases hk with rfl|rfl
    ·exact hp
    ·exact ht.ez (by rw[hkk];exact m1))
   have ex:=i2 r (bh hr) wq rfl (kO hok (by rw[hkk];exact m2)) (ht.ez (by rw[hkk];exact m2)) (dI p r.1) hf (by rw[uI hpq]);have z2:IntKind.i64.wrap (((2*j:Nat):Int)+1)=((2*j+1:Nat):Int):=bO _ (by omega);have z3:IntKind.i64.wrap (((2*j:Nat):Int)+2)=2*((j+1:Nat):Int):=by rw[wrap64 (by omega) (by omega)];omega
   have hlt:decide (2*j+1<(kids.flatMap λq=>[q.1,q.2]).length)=true:=by rw[hK];simp;omega
   have hsl:s.length<=2*j:=by rw[hI];exact nW Mj (by rw[gw];omega)
   rw[show(2*(j:Int))=((2*j:Nat):Int)by omega,Oz,ui,ab.aB,hkk,z2,aU,hlt,aO,z3,bc fg.2,aq,bc fg.1,aq,aq];have e1:=LB (q:=bu) (p:=p) (l:=kids.take j) (r:=r);rw[Ac hr,<-hI]at e1;have ex':(kq Pu) {Op:=20,aj:=r.2.aj,N:=0,Text:=[],At:=0,Kids:=[p,r.1]:ab} r.2=some (bE bu (dI p r.1) r.2):=by
    rw[IK hc (wv r (bh hr)) wq.eB];rw[uI hpq]at ex⊢;exact ex
   rw[ex',aq];by_cases h6:(bE bu (dI p r.1) r.2).Op=6
   ·rw[cj h6,jd]at e1;rw[show((bE bu (dI p r.1) r.2).Op !=6)=false by simpa using h6];exact k' _ e1.symm
   ·rw[bK h6]at e1;rw[show((bE bu (dI p r.1) r.2).Op !=6)=true by simpa using h6,aO,aq,Ab (by simp;omega)];exact k' _ e1.symm
  ·show ag ((nB Pu) p e s (2*(kids.length:Int))) _;rw[jg]at hI;have hlt:decide (2*kids.length+1<(kids.flatMap λq=>[q.1,q.2]).length)=false:=by rw[hK];simp
   rw[show(2*(kids.length:Int))=((2*kids.length:Nat):Int)by omega,Oz,ui,ab.aB,ab.aB,hkk,bO _ (by omega),aU,hlt,a6,pf,Bn,<-hI];unfold kv;by_cases hn:s=[]
   ·rw[cj hn,hn];exact ag.ret rfl
   ·rw[bK hn,show((s.length:Int)==0)=false by simpa using hn];exact ag.ret rfl
 |lj h1 h2 h3 h4 h5=>exact lf (by simp at h1⊢;omega)
 |part h1 h2 h3 h4 h5 h6=>exact lf (by simp;omega)
 |conn h1 h2 h3 h4=>exact lf (by simp;omega)
 |less h1 h2 h3 h4=>exact lf (by simp;omega)
 |jA h1 h2 h3 h4=>exact lf (by simp;omega)
 |_=>exact lf (by simp)
end
def pY (l:ah):ab:=⟨5,bN l,0,[],0,[]⟩
noncomputable def qd (l:ah) (f:bD):bD:=⟨f.Name,f.On,f.Params,f.Result,bE bu (pY l) f.Body⟩
section
variable {B:Nat} (hB:B<=1048576)
include hB
theorem Mi {f:bD} (hf:f.Params.length<=B) (he:(mK Pu) f.Body f.Body=some true):(qg Pu) f f=some true:=by
 have hloop:(pU Pu) f f 0=some true:=by
  refine ag.of (kF (L:=λi=>(pU Pu) f f i) (P:=(·=true)) (len:=f.Params.length) (λ_=>True) (λi hi _ k=>?_) (λ_=>?_) 0 (by omega) trivial)
  ·show ag ((pU Pu) f f i) _;obtain⟨x,hx⟩:=bg hi;have:decide (i<f.Params.length)=true:=by simpa using hi
   rw[OA,uj,TParam.aB,aU,this,aO,bc hx,aq,aq,bO i (by omega)];simp only[beq_self_eq_true,Bool.and_self,qx,a6];exact k trivial
  ·show ag ((pU Pu) f f f.Params.length) _;have:decide (f.Params.length<f.Params.length)=false:=by simp
   rw[OA,uj,TParam.aB,aU,this,a6];exact ag.ret rfl
 rw[e11,Aa,he,hloop];simp only[beq_self_eq_true,qx,a6,bne_self_eq_false,aq]
variable {l:ah} {f:bD} (hl:l.ok B) (hf:f.ok B)
include hl hf
theorem VX.parts (h:VX l f) (h0:f.Result=0):CE B ⟨l,f.Params⟩/\TT B f.Body/\W l f.Params f.Body (bN l):=by
 obtain⟨hce,_,htt⟩:=h.ce hB hl hf;have e:iE l f=bN l:=by unfold iE;rw[h0];rfl
 exact⟨hce,htt,e▸h.2.2⟩
theorem W5 (h:VX l f) (h0:f.Result=0):VX l (qd l f):=by
 obtain⟨hce,htt,hw⟩:=h.parts hB hl hf h0;have e:iE l (qd l f)=bN l:=by unfold iE;rw[show(qd l f).Result=0 from h0];rfl
 refine⟨h.1,h.2.1,?_⟩;rw[e];exact ZQ hce hw (a7.of h.1 hl) rfl (pY l)
omit hl in
theorem W4:(qd l f).ok B:=by
 obtain⟨h1,h2,h3,h4,h5⟩:=hf;exact⟨h1,h2,h3,h4,O3 _ h5 _⟩
theorem W3 (h:VX l f):(qg Pu) f f=some true:=by
 obtain⟨_,_,htt⟩:=h.ce hB hl hf;refine Mi hB hf.2.2.1.1 ?_;rw[KV hB f.Body htt f.Body hf.2.2.2.2];simp[cF]
theorem NL (h:VX l f):TT B (pY l):= .mk (a7.of h.1 hl) (λk hk=>by simp[pY]at hk)
theorem Uu:ag ((u9 Pu) l f) (λr=>(VX l f/\f.Result=0->r=(qd l f,0))/\(¬(VX l f/\f.Result=0)->r=(bD.z,1))):=by
 rw[e9,B9];refine ag.bind (Vb hB hl hf) (λy hy=>ag.bif (λg=>ag.ret ⟨λh=>?_,λ_=>rfl⟩) (λg=>ag.bif (λg2=>ag.ret ⟨λh=>?_,λ_=>rfl⟩) (λg2=>?_)))
 ·rw[hy.2 h.1]at g;cases g
 ·rw[h.2]at g2;cases g2
 ·have hv:=hy.1 (by simpa using g);have h0:f.Result=0:=by simpa using g2
  obtain⟨hce,htt,hw⟩:=hv.parts hB hl hf h0;have hb:=hf.2.2.2.2;have hp:=hf.2.2.1.1;have ed:(kp Pu) ⟨5,⟨0,l⟩,0,[],0,[]⟩ f.Body=some (bE bu (pY l) f.Body):=Vc hB hce hw (a7.of hv.1 hl) rfl hb htt (pY l) (NL hB hl hf hv) rfl;rw[show(C4 Pu) f.Params=some f.Params by rw[e25];exact Be (by omega),aq,ed,aq,Uv hB _ (O3 _ hb _)];exact ag.ret ⟨λ_=>rfl,λh=>absurd ⟨hv,h0⟩ h⟩
