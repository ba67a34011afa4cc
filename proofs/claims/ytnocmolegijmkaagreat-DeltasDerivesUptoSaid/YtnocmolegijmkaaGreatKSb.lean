/- The reference's Check answers OK to lattices. -/
import Derived.Test.YtnocmolegijmkaaGreatKRa
import Derived.Test.YtnocmolegijmkaaGreatKRv
import Derived.Test.YtnocmolegijmkaaGreatKVa9
import Derived.Test.YtnocmolegijmkaaGreatKRk
set_option linter.all false
namespace Go.Proofs.YtnocmolegijmkaaGreat
open Go Go.Bw
theorem KY:∀{a:List (List UInt8)} {j:Nat} {x y:List UInt8},rising a=true->a[j]? =some x->a[j+1]? =some y->Op.bytesLess x y=true
 |u::v::r,0,x,y,h,h1,h2=>by
  simp only[mO,nX,aE]at h1 h2;subst h1;subst h2;have h:(Op.bytesLess u v&&rising (v::r))=true:=h;exact(bG _ _▸h).1
 |u::v::r,j+1,x,y,h,h1,h2=>by
  have h:(Op.bytesLess u v&&rising (v::r))=true:=h;exact KY (a:=v::r) (j:=j) ((bG _ _▸h).2) (by simpa using h1) (by simpa using h2)
 |[u],j,x,y,h,h1,h2=>by simp at h2
 |[],j,x,y,h,h1,h2=>by simp at h1
theorem KZ {a:List (List UInt8)} (ha:a.length<9223372036854775807) (hs:∀s∈a,s.length<9223372036854775807) (hv:∀s∈a,eR s=true) (hr:rising a=true):(u0 Pu) a=some true:=by
 refine ag.of ?_;rw[Rm,sf];refine kF (L:=λi=>(me Pu) a i) (len:=a.length) (λ_=>True) (λi hi _ k=>?_) (λ_=>?_) 0 (by omega) trivial
 ·show ag ((me Pu) a i) _;obtain⟨x,hx⟩:=bg hi;rw[BG,pA,cv,aU];have:decide (i<a.length)=true:=by simpa using hi
  rw[this,aO,bc hx,aq,Bm x (hs x (bh hx)),aq,bO i (by omega),hv x (bh hx)];refine ag.bif (λh=>by cases h) (λ_=>?_);refine ag.bif (λh2=>?_) (λ_=>k trivial);have h2:0<i:=by simp at h2;omega
  obtain⟨w,hw⟩:=bg (l:=a) (i:=i-1) (by omega);have e:IntKind.i64.wrap ((i:Int)-1)=((i-1:Nat):Int):=by rw[wrap64 (by omega) (by omega)];omega
  rw[e,bc hw,aq,aq];have hl:=KY hr hw (by rw[show i-1+1=i by omega];exact hx);refine ag.bif (λh=>?_) (λ_=>k trivial);rw[hl]at h;cases h
 ·show ag ((me Pu) a a.length) _;rw[BG,pA,cv,aU];have:decide (a.length<a.length)=false:=by simp
  rw[this];exact ag.ret rfl
theorem Vx {l:ah} (h:eT l):(r8 Pu) l=some true:=by
 rw[Rl,u6];simp only[cv,ah.aB,aP.aB];rcases h with⟨h1|h1,h2,h3,h4,h5,h6⟩|⟨h1|h1,h2,h3,h4⟩|⟨h1|h1,h2,h3,h4,h5⟩|⟨h1,h2,h3,h4,h5⟩|⟨h1,h2,h3,h4,h5,h6⟩|⟨h1,h2,h3,h4,h5,h6⟩|⟨h1,h2,h3,h4,h5⟩<;>(try have np:=Ak.2 h3)<;>simp[*]
theorem Vy {l:ah} (h:lk l):(sa Pu) l=some true:=by
 induction h with
 |one hk=>
  rw[II,sk];rcases hk with hk|hk|hk<;>simp[hk]
 |lex hk hp _ _ i1 i2=>
  rw[II,sk,ah.aB,hp];simp[hk,ao,i1,i2]
theorem ZV {P:ah->Prop} (h:∀x:ah,(∀k∈x.aw,P k)->P x):∀x,P x:=by
 intro x;refine ah.rec (motive_1:=P) (motive_2:=λks=>∀k∈ks,P k) ?_ ?_ ?_ x
 ·intro k lo hi ns ps rs ih;exact h ⟨k,lo,hi,ns,ps,rs⟩ ih
 ·intro k hk;cases hk
 ·intro k ks h1 h2 x hx;rcases cu.1 hx with rfl|hx
  ·exact h1
  ·exact h2 x hx
section
variable {B:Nat} (hB:B<1099511627776)
include hB
theorem Vz {l:ah} (hl:l.ok B) (h:nD l):(r9 Pu) l=some true:=by
 refine ag.of ?_;rw[Rn,u7];rw[ah.cM]at hl;obtain⟨_,_,_,⟨hn,hnn⟩,_,⟨hr,hrr⟩⟩:=hl;obtain⟨n1,n2,n3,n4⟩:=h;refine ag.bif (λh6=>?_) (λh6=>?_)
 ·have h6:l.Kind=6:=by simpa using h6
  refine kF (L:=λi=>(ng Pu) l i) (len:=l.Names.length) (λ_=>True) (λi hi _ k=>?_) (λ_=>?_) 0 (by omega) trivial
  ·show ag ((ng Pu) l i) _;obtain⟨x,hx⟩:=bg hi;have hm:=bh hx;have hxl:=hnn x hm;rw[BH,pB,cv,aU];have:decide (i<l.Names.length)=true:=by simpa using hi
   rw[this,aO,bc hx,aq,Bm x (by omega),aq,bO i (by omega),tO (by omega),aq,aq,uq _ _ (by rw[gw];omega),aq,n1 x hm,n3 h6 i x hx];exact ag.bif (λh=>by cases h) (λ_=>ag.bif (λh=>by cases h) (λ_=>k trivial))
  ·show ag ((ng Pu) l l.Names.length) _;rw[BH,pB,cv,aU];have:decide (l.Names.length<l.Names.length)=false:=by simp
   rw[this];exact ag.ret rfl
 ·have h6:l.Kind≠6:=by simpa using h6
  rw[KZ (a:=l.Names) (by omega) (λs h=>by have:=hnn s h;omega) n1 (n2 h6),aq];refine ag.bif (λh=>by cases h) (λ_=>?_);refine eS (L:=λi s=>(ni Pu) l true s i) (len:=l.aX.length) (λ_ _=>True) (λi s hi _ k=>?_) (λs _=>?_) 0 false (by omega) trivial
  ·show ag ((ni Pu) l true s i) _;obtain⟨x,hx⟩:=bg hi;have hxo:=hrr x (bh hx);obtain⟨r1,r2,r3,r4⟩:=n4 x (bh hx);have r3':∀z∈x.If,(l.Names.any λy=>z==y)=true:=λz hz=>je.1 r3 z hz;have nvI:∀z∈x.If,eR z=true:=λz hz=>by
    obtain⟨y,hy,e⟩:=ln.1 (r3' z hz);have e:z=y:=by simpa using e
    rw[e];exact n1 y hy
   rw[BJ,pD,aP.aB,aU];have:decide (i<l.aX.length)=true:=by simpa using hi
   have hne:((x.If.length:Int)==0)=false:=by cases hxi:x.If;exact absurd hxi r1;simp;omega
   rw[this,aO,bc hx,aq,cv,hne,a6,KZ (a:=x.If) (by have:=hxo.1.1;omega) (λs h=>by have:=hxo.1.2 s h;omega) nvI r2,aq,uq _ _ (by omega),aq,r4];refine ag.bif (λh=>by cases h) (λ_=>ag.bif (λh=>by cases h) (λ_=>?_));refine eS (L:=λi2 s2=>(nh Pu) l true s (i:Int) x true true s2 i2) (len:=x.If.length) (λ_ _=>True) (λi2 s2 hi2 _ k2=>?_) (λs2 _=>?_) 0 s (by omega) trivial
   ·show ag ((nh Pu) l true s (i:Int) x true true s2 i2) _;obtain⟨z,hz⟩:=bg hi2;rw[BI,pC,cv,aU];have:decide (i2<x.If.length)=true:=by simpa using hi2
    rw[this,aO,bc hz,aq,uq _ _ (by omega),aq,bO i2 (by have:=hxo.1.1;omega),r3' z (bh hz)];exact ag.bif (λh=>by cases h) (λ_=>k2 s2 trivial)
   ·show ag ((nh Pu) l true s (i:Int) x true true s2 x.If.length) _;rw[BI,pC,cv,aU];have:decide (x.If.length<x.If.length)=false:=by simp
    rw[this,a6,bO i (by omega)];exact k s2 trivial
  ·show ag ((ni Pu) l true s l.aX.length) _;rw[BJ,pD,aP.aB,aU];have:decide (l.aX.length<l.aX.length)=false:=by simp
   rw[this];exact ag.ret rfl
theorem Wr {l:ah} (hl:l.ok B) {d b:Int} (hd:d<=6) (hb:b<64) (h1:eT l) (h2:mF l) (h3:nD l) (h4: -1000000000<=l.Lo/\l.Lo<=l.Hi/\l.Hi<=1000000000) (h5:l.Kind=7->∃p,l.aw[0]? =some p/\lk p):(yA Pu) l d b=some 0:=by
 refine ag.of ?_;rw[Ro,va];simp only[cv,aP.aB,Vx h1,Vz hB hl h3,aq];unfold mF at h2;have n1:¬d>6:=by omega
 have n2:¬b>=64:=by omega
 have n3:¬l.Lo>l.Hi:=by omega
 have n4:¬l.Lo< -1000000000:=by omega
 have n5:¬l.Hi>1000000000:=by omega
 have n6:¬(l.aX.length:Int)>32:=by omega
 refine ag.bif (λk6=>?_) (λk6=>ag.bif (λk10=>?_) (λk10=>?_))
 ·have k:l.Kind=6:=by simpa using k6
  rw[k,cj rfl]at h2;have n7:¬(l.Names.length:Int)>8:=by omega
  simp[n1,n2,n3,n4,n5,n6,n7,k,ag]
 ·have k:l.Kind=10:=by simpa using k10
  rw[k,bK (by decide),cj rfl]at h2;have n7:¬(l.Names.length:Int)>12:=by omega
  simp[n1,n2,n3,n4,n5,n6,n7,k,ag]
 ·have k1:l.Kind≠6:=by simpa using k6
  have k2:l.Kind≠10:=by simpa using k10
  rw[bK k1,bK k2]at h2;have n7:¬(l.Names.length:Int)>32:=by omega
  by_cases k7:l.Kind=7
  ·obtain⟨p,hp,hc⟩:=h5 k7;have e0:ao l.aw 0=some p:=hp;simp[n1,n2,n3,n4,n5,n6,n7,k7,e0,Vy hc,ag]
  ·have e7:(l.Kind==7)=false:=by simpa using k7
   rw[e7];simp[n1,n2,n3,n4,n5,n6,n7,ag]
theorem Ws:∀(l:ah),lL l->∀(d b:Int),l.ok B->0<=b->0<=d->b+jC l<=64->d+ja l<=7->(u1 Pu) l d b=some (b+jC l,0):=by
 refine ZV (λl ih hL d b hl h0 hd0 hc hd=>?_);have hL':=hL;cases hL' with
 |mk h1 h2 h3 h4 h5 h6=>
 rw[tN]at hc⊢;rw[q9]at hd;refine ag.of ?_;rw[Rp,vb,Wr hB hl (by omega) (by omega) h1 h2 h3 h4 h5,aq];refine ag.bif (λh=>by cases h) (λ_=>?_);have hw:IntKind.i64.wrap (b+1)=b+1:=wrap64 (by omega) (by omega);have hwd:IntKind.i64.wrap (d+1)=d+1:=wrap64 (by omega) (by omega);rw[hw];have hl':=hl;rw[ah.cM]at hl';obtain⟨_,_,_,_,⟨hpl,hp⟩,_⟩:=hl';refine eS (L:=λi s=>(nj Pu) l d s i) (len:=l.aw.length) (λi s=>s=b+1+eW (l.aw.take i)) (λi s hi hI k=>?_) (λs hI=>?_) 0 (b+1) (by omega) (by simp[eW])
 ·show ag ((nj Pu) l d s i) _;obtain⟨x,hx⟩:=bg hi;have hm:=bh hx;have t1:=AM hx;have t2:=Kd (ps:=l.aw) (i+1);have t3:=A0 hm;rw[BK,pE,ah.aB,aU];have:decide (i<l.aw.length)=true:=by simpa using hi
  rw[this,aO,bc hx,aq,bO i (by omega),hwd,ih x hm (h6 x hm) (d+1) s (ah.gF hp hm) (by omega) (by omega) (by omega) (by omega),aq];refine ag.bif (λh=>by cases h) (λ_=>k _ ?_);show s+jC x=_;omega
 ·show ag ((nj Pu) l d s l.aw.length) _;rw[BK,pE,ah.aB,aU];have:decide (l.aw.length<l.aw.length)=false:=by simp
  rw[this,a6];rw[jg]at hI;refine ag.ret ?_;rw[hI];congr 1;omega
theorem UD {l:ah} (hl:l.ok B):ag ((zG Pu) l) (λr=>r=0↔ef l):=by
 obtain⟨r,e,h⟩:=UH hB hl;refine⟨r,e,h,λg=>?_⟩;rw[SO,vF,Ws hB l g.i 1 0 hl (by simp) (by simp) (by have:=g.eP;omega) (by have:=g.dep;omega)]at e;cases e;rfl
end
section
variable {B:Nat} {c:bJ} (hc:CE B c)
def BB (ps:List TParam) (y:ab):Prop:=(∃n,(nU Pu) ps y=some (n,true)/\Br ps y n)/\∃n,(lh Pu) ps y=some (n,true)/\Br ps y n
theorem jV {ps:List TParam} {y:ab} (hlf:y.Kids≠[]\/(y.Op≠1/\y.Op≠2/\y.Op≠3/\y.Op≠4)) (hlen:y.Kids.length<=2097152) (ih:∀k∈y.Kids,BB ps k) (ha:∀ns:List af,y.Kids.length=ns.length->(∀(i:Nat) k n,y.Kids[i]? =some k->ns[i]? =some n->Br ps k n)->PL ps y ns/\O8 ps y ns):BB ps y:=by
 obtain⟨ns,h1,h2⟩:=Fi (l:=y.Kids) λk hk=>(ih k hk).1;obtain⟨ms,g1,g2⟩:=Fi (l:=y.Kids) λk hk=>(ih k hk).2;exact⟨Xc hlf hlen h1 (λi k n e f=>(h2 i k n e f).1) (ha ns h1 λi k n e f=>(h2 i k n e f).2).1,Wc hlen g1 (λi k n e f=>(g2 i k n e f).1) (ha ms g1 λi k n e f=>(g2 i k n e f).2).2⟩
theorem ml {ps:List TParam} {op:Int} {t:ay} {a:Int} {x y:ab} (hm:∃kd,(op,kd)∈eF) (ih:∀k∈[x,y],BB ps k):BB ps ⟨op,t,0,[],a,[x,y]⟩:=by
 obtain⟨kd,hm⟩:=hm;obtain⟨o1,o2,o3,o4,_⟩:=Xd _ hm;refine jV (.inl (by simp)) (by simp) ih (λns hl h=>?_);obtain⟨x',y',rfl⟩:=gJ (l:=ns) (by simpa using hl.symm);have hb:Br ps ⟨op,t,0,[],a,[x,y]⟩ ⟨kd,[],0,a,[x',y']⟩:= .two hm (h 0 _ _ rfl rfl) (h 1 _ _ rfl rfl);exact⟨⟨_,qM o1 o3 o4 rfl,hb⟩,⟨_,UE o2 o3 rfl,hb⟩⟩
theorem ru {ps:List TParam} {op:Int} {t:ay} {a:Int} {x:ab} (hm:∃s,(op,s)∈eO) (ih:∀k∈[x],BB ps k):BB ps ⟨op,t,0,[],a,[x]⟩:=by
 obtain⟨s,hm⟩:=hm;obtain⟨o1,o2,o3,o4,o5,o6,o7⟩:=Xe _ hm;refine jV (.inl (by simp)) (by simp) ih (λns hl h=>?_);obtain⟨x',rfl⟩:=ju (l:=ns) (by simpa using hl.symm);have hb:Br ps ⟨op,t,0,[],a,[x]⟩ ⟨51,s,0,a,[x']⟩:= .k8 hm (h 0 _ _ rfl rfl);exact⟨⟨_,AN o1 o2 o5 o6 o7,hb⟩,⟨_,AD o3 o4 o5 o6 o7,hb⟩⟩
include hc in
theorem O6:∀(y:ab) (w:ay),bW B w->W c.l c.params y w->BB c.params y:=by
 intro y w hw hW;have htt:=W.tt hc hW hw;have hkb:=hW.kb;clear hw;revert w;revert htt hkb;revert y;refine ab.ind λy ih htt hkb w hW=>?_;replace ih:∀k∈y.Kids,BB c.params k:=λk hk=>by
  obtain⟨w',h'⟩:=hW.kids k hk;have hkk:KB k:=by cases hkb with|mk _ h=>exact h k hk
  exact ih k hk (htt.ez hk) hkk w' h'
 have hlen:y.Kids.length<=2097152:=by cases hkb;assumption
 have lit:∀{op:Int},(op=1\/op=2\/op=3\/op=4\/op=5\/op=6\/op=7\/op=10\/op=19)->(ka Pu) op=some 0/\(eD Pu) op=some []:=λ{op} h=>Xg op h;have lf:∀{y:ab} {n:af},(vt Pu) c.params y=some (n,true)->(nU Pu) c.params y=some (n,true):=λh=>by rw[JQ,su,h];rfl
 have rl:∀{y:ab} {n:af},y.Kids=[]->(iT Pu) c.params y false (y.Kids.length:Int) []=some (n,true)->(lh Pu) c.params y=some (n,true):=λ{y n} hk h=>by
  rw[JS,qt,<-h,hk];rfl
 cases hW with
 |int h1 h2 hf=>
  refine⟨⟨_,lf ?_,.int⟩,⟨_,rl rfl ?_,.int⟩⟩
  ·rw[sB,mI];rename_i n a;show(bif decide (-1000000000000000<=n)then(bif decide (n<=1000000000000000)then _ else _)else _)=_;rw[show decide (-1000000000000000<=n)=true by simpa using h1,show decide (n<=1000000000000000)=true by simpa using h2];rfl
  ·rename_i n a;rw[iq,(lit (op:=1) (by simp)).1,aq];show(((eD Pu) 1).bind _)=_;rw[(lit (op:=1) (by simp)).2,aq];show(bif decide (n>= -1000000000000000)then some (_,decide (n<=1000000000000000))else _)=_;rw[show decide (n>= -1000000000000000)=true by simpa using h1,show decide (n<=1000000000000000)=true by simpa using h2];rfl
 |bool h1 hf=>
  rename_i n a;rcases h1 with rfl|rfl
  ·refine⟨⟨_,lf ?_,.fl⟩,⟨_,rl rfl ?_,.fl⟩⟩
   ·rw[sB,mI];rfl
   ·rw[iq,(lit (op:=2) (by simp)).1,aq];show(((eD Pu) 2).bind _)=_;rw[(lit (op:=2) (by simp)).2];rfl
  ·refine⟨⟨_,lf ?_,.tr⟩,⟨_,rl rfl ?_,.tr⟩⟩
   ·rw[sB,mI];rfl
   ·rw[iq,(lit (op:=2) (by simp)).1,aq];show(((eD Pu) 2).bind _)=_;rw[(lit (op:=2) (by simp)).2];rfl
 |name h1 hf=>
  rename_i s a;have hs:=h1.1;refine⟨⟨_,lf ?_,.name⟩,⟨_,rl rfl ?_,.name⟩⟩
  ·rw[sB,mI];show(((oS Pu) s).bind _)=_;rw[mY s (by omega),BR.2 h1];rfl
  ·rw[iq,(lit (op:=3) (by simp)).1,aq];show(((eD Pu) 3).bind _)=_;rw[(lit (op:=3) (by simp)).2,aq];show(((oU Pu) s).bind _)=_;rw[wj s (by omega),BR.2 h1];rfl
 |param hp hf=>
  rename_i i p a;have hi:=(cy.1 hp).1;refine⟨⟨_,lf ?_,.param hp⟩,⟨_,rl rfl ?_,.param hp⟩⟩
  ·rw[sB,mI,TParam.aB];show(bif decide ((0:Int)<=(i:Int))then(bif decide ((i:Int)<(c.params.length:Int))then((ao c.params (i:Int)).bind λx14=>some ((⟨48,x14.Name,0,a,[]⟩:af),true))else some ((⟨0,[],0,a,[]⟩:af),false))else some ((⟨0,[],0,a,[]⟩:af),false))=_;rw[show decide ((0:Int)<=(i:Int))=true by simp,show decide ((i:Int)<(c.params.length:Int))=true by simpa using hi,bc hp];rfl
  ·rw[iq,(lit (op:=4) (by simp)).1,aq];show(((eD Pu) 4).bind _)=_;rw[(lit (op:=4) (by simp)).2,aq];show(bif decide ((i:Int)<0)then some ((⟨0,[],0,a,[]⟩:af),false)else(bif decide ((i:Int)>=(c.params.length:Int))then some ((⟨0,[],0,a,[]⟩:af),false)else((ao c.params (i:Int)).bind λx60=>some ((⟨48,x60.Name,0,a,[]⟩:af),true))))=_;rw[show decide ((i:Int)<0)=false by simp,show decide ((i:Int)>=(c.params.length:Int))=false by simpa using hi,bc hp];rfl
 |state hf=>
  refine jV (.inr (by simp)) hlen ih (λns hl h=>?_);have:ns=[]:=mP hl.symm;subst this;refine⟨⟨_,qM (kd:=49) (m:=0) (by rw[mL,jF];rfl) (by decide) (by decide) rfl,.state⟩,⟨_,?_,.state⟩⟩;rw[iq,(lit (op:=5) (by simp)).1,aq];show(((eD Pu) 5).bind _)=_;rw[(lit (op:=5) (by simp)).2];rfl
 |jl hs hn=>
  refine jV (.inr (by simp)) hlen ih (λns hl h=>?_);have:ns=[]:=mP hl.symm;subst this;refine⟨⟨_,qM (kd:=50) (m:=0) (by rw[mL,jF];rfl) (by decide) (by decide) rfl,.jl⟩,⟨_,?_,.jl⟩⟩;rw[iq,(lit (op:=6) (by simp)).1,aq];show(((eD Pu) 6).bind _)=_;rw[(lit (op:=6) (by simp)).2];rfl
 |not h1 hf=>
  refine jV (.inl (by simp)) hlen ih (λns hl h=>?_);obtain⟨x',rfl⟩:=ju (l:=ns) (by simpa using hl.symm);refine⟨⟨_,qM (kd:=33) (m:=1) (by rw[mL,jF];rfl) (by decide) (by decide) rfl,.not (h 0 _ _ rfl rfl)⟩,⟨_,?_,.not (h 0 _ _ rfl rfl)⟩⟩;rw[iq,(lit (op:=10) (by simp)).1,aq];show(((eD Pu) 10).bind _)=_;rw[(lit (op:=10) (by simp)).2];rfl
 |field h1 hs h6 hi hp hf=>
  rename_i x i p a;obtain⟨s,hn⟩:=bg hi;refine jV (.inl (by simp)) hlen ih (λns hl h=>?_);obtain⟨x',rfl⟩:=ju (l:=ns) (by simpa using hl.symm);refine⟨⟨_,?_,.field hn (h 0 _ _ rfl rfl)⟩,⟨_,?_,.field hn (h 0 _ _ rfl rfl)⟩⟩
  ·rw[wF];have ho:(kn Pu) 19=some (42,1):=by rw[mL,jF];rfl
   show(((kn Pu) 19).bind _)=_;rw[ho,aq];show(bif decide ((i:Int)<0)then some ((⟨42,[],0,a,[x']⟩:af),false)else(bif decide ((i:Int)>=(x.aj.ai.Names.length:Int))then some ((⟨42,[],0,a,[x']⟩:af),false)else((ao x.aj.ai.Names (i:Int)).bind λx26=>some ((⟨42,x26,0,a,[x']⟩:af),true))))=_;rw[show decide ((i:Int)<0)=false by simp,show decide ((i:Int)>=(x.aj.ai.Names.length:Int))=false by simpa using hi,bc hn];rfl
  ·rw[iq,(lit (op:=19) (by simp)).1,aq];show(((eD Pu) 19).bind _)=_;rw[(lit (op:=19) (by simp)).2,aq];show(bif decide ((i:Int)<0)then some ((⟨0,[],0,a,[x']⟩:af),false)else(bif decide ((i:Int)>=(x.aj.ai.Names.length:Int))then some ((⟨0,[],0,a,[x']⟩:af),false)else((ao x.aj.ai.Names (i:Int)).bind λx74=>some ((⟨42,x74,0,a,[x']⟩:af),true))))=_;rw[show decide ((i:Int)<0)=false by simp,show decide ((i:Int)>=(x.aj.ai.Names.length:Int))=false by simpa using hi,bc hn];rfl
 |pair h0 hk hp hq h1 h2=>
  obtain⟨o1,o2,o3,o4⟩:=wS 26 Co (by simp);refine jV (.inl (by simp)) hlen ih (λns hl h=>?_);obtain⟨x',y',rfl⟩:=gJ (l:=ns) (by simpa using hl.symm);exact⟨⟨_,AN o1 o2 (by simp) (by simp) rfl,.pair (h 0 _ _ rfl rfl) (h 1 _ _ rfl rfl)⟩,⟨_,AD o3 o4 (by simp) (by simp) rfl,.pair (h 0 _ _ rfl rfl) (h 1 _ _ rfl rfl)⟩⟩
 |write h1 h2 h3 hf=>
  obtain⟨o1,o2,o3,o4⟩:=wS 28 Cc (by simp);refine jV (.inl (by simp)) hlen ih (λns hl h=>?_);obtain⟨x',y',z',rfl⟩:=nH (l:=ns) (by simpa using hl.symm);exact⟨⟨_,AN o1 o2 (by simp) (by simp) rfl,.write (h 0 _ _ rfl rfl) (h 1 _ _ rfl rfl) (h 2 _ _ rfl rfl)⟩,⟨_,AD o3 o4 (by simp) (by simp) rfl,.write (h 0 _ _ rfl rfl) (h 1 _ _ rfl rfl) (h 2 _ _ rfl rfl)⟩⟩
 |iY h0 hk hn h1 hs=>
  obtain⟨o1,o2,o3,o4⟩:=wS 23 yW (by simp);refine jV (.inr (by simp)) hlen ih (λns hl h=>?_);exact⟨⟨_,AN o1 o2 (by simp) (by simp) rfl,.iY hl h⟩,⟨_,AD o3 o4 (by simp) (by simp) rfl,.iY hl h⟩⟩
 |map h0 hk hn hp h1 h2=>
  rename_i qs p a;obtain⟨o1,o2,o3,o4⟩:=wS 24 dD (by simp);refine jV (.inr (by simp)) hlen ih (λns hl h=>?_);have hl2:2*qs.length=ns.length:=by rw[<-hl];exact(oc qs).symm
  have e4:((ns.length:Int).tmod 2 !=0)=false:=by
   rw[Te (by omega)];simp;omega
  refine⟨⟨_,?_,O9 (g:=λ_=>0) hl h⟩,⟨_,?_,O9 (g:=λx=>x.At) hl h⟩⟩
  ·rw[wF];show(((kn Pu) 24).bind _)=_;rw[o1,aq];show(((ko Pu) 24).bind _)=_;rw[o2,aq,e4];exact Wd (by omega) (by omega)
  ·rw[iq];show(((ka Pu) 24).bind _)=_;rw[o3,aq];show(((eD Pu) 24).bind _)=_;rw[o4,aq];exact Vk (by omega) (by omega)
 |gT h0 h6 hn hl' h1=>
  rename_i kids a;obtain⟨o1,o2,o3,o4⟩:=wS 25 dc (by simp);have hnm:w.ai.Names.length=kids.length:=by rw[hl',rq (htt.ty.du h0).1 h6]
  refine jV (.inr (by simp)) hlen ih (λns hl h=>?_);have hln:w.ai.Names.length=ns.length:=hnm.trans hl;have e4:((w.ai.Names.length:Int) !=(ns.length:Int))=false:=by rw[hln];simp
  have hle:ns.length<=2097152:=by rw[<-hl];exact hlen
  refine⟨⟨_,?_,O' (f:=λn=>!(n.Kind==50&&n.At==a)) (b:=0) hnm hl h (λn e=>by simpa using e)⟩,⟨_,?_,O' (f:=λ_=>true) (b:=a) hnm hl h (λn e=>by cases e)⟩⟩
  ·rw[wF];show(((kn Pu) 25).bind _)=_;rw[o1,aq];show(((ko Pu) 25).bind _)=_;rw[o2,aq];show(bif (w.ai.Names.length:Int) !=(ns.length:Int)then some ((⟨51,dc,0,a,ns⟩:af),false)else(jk Pu) ⟨25,w,0,[],a,kids⟩ ns dc [] 0)=_;rw[e4];exact Xh hln hle
  ·rw[iq];show(((ka Pu) 25).bind _)=_;rw[o3,aq];show(((eD Pu) 25).bind _)=_;rw[o4,aq];show(bif (w.ai.Names.length:Int) !=(ns.length:Int)then some ((⟨51,dc,0,a,ns⟩:af),false)else(jR Pu) ⟨25,w,0,[],a,kids⟩ ns dc ns 0)=_;rw[e4];exact We hln hle
 |iX _ h1 h2 h3=>
  refine jV (.inl (by simp)) hlen ih (λns hl h=>?_);obtain⟨c',x',y',rfl⟩:=nH (l:=ns) (by simpa using hl.symm);refine⟨⟨_,qM (kd:=30) (m:=3) (by rw[mL,jF];rfl) (by decide) (by decide) rfl,.ite (h 0 _ _ rfl rfl) (h 1 _ _ rfl rfl) (h 2 _ _ rfl rfl)⟩,⟨_,?_,.ite (h 0 _ _ rfl rfl) (h 1 _ _ rfl rfl) (h 2 _ _ rfl rfl)⟩⟩;rw[iq,(lit (op:=7) (by simp)).1,aq];show(((eD Pu) 7).bind _)=_;rw[(lit (op:=7) (by simp)).2];rfl
 |kY _ h1 h2 h3=>
  refine jV (.inl (by simp)) hlen ih (λns hl h=>?_);obtain⟨c',x',y',rfl⟩:=nH (l:=ns) (by simpa using hl.symm);refine⟨⟨_,qM (kd:=30) (m:=3) (by rw[mL,jF];rfl) (by decide) (by decide) rfl,.ite (h 0 _ _ rfl rfl) (h 1 _ _ rfl rfl) (h 2 _ _ rfl rfl)⟩,⟨_,?_,.ite (h 0 _ _ rfl rfl) (h 1 _ _ rfl rfl) (h 2 _ _ rfl rfl)⟩⟩;rw[iq,(lit (op:=7) (by simp)).1,aq];show(((eD Pu) 7).bind _)=_;rw[(lit (op:=7) (by simp)).2];rfl
 |kZ _ h1 h2 h3=>
  refine jV (.inl (by simp)) hlen ih (λns hl h=>?_);obtain⟨c',x',y',rfl⟩:=nH (l:=ns) (by simpa using hl.symm);refine⟨⟨_,qM (kd:=30) (m:=3) (by rw[mL,jF];rfl) (by decide) (by decide) rfl,.ite (h 0 _ _ rfl rfl) (h 1 _ _ rfl rfl) (h 2 _ _ rfl rfl)⟩,⟨_,?_,.ite (h 0 _ _ rfl rfl) (h 1 _ _ rfl rfl) (h 2 _ _ rfl rfl)⟩⟩;rw[iq,(lit (op:=7) (by simp)).1,aq];show(((eD Pu) 7).bind _)=_;rw[(lit (op:=7) (by simp)).2];rfl
 |conn ho _ _ _=>exact ml (by rcases ho with rfl|rfl;exact⟨31,by simp[eF]⟩;exact⟨32,by simp[eF]⟩) ih
 |less ho _ _ _=>exact ml (by rcases ho with rfl|rfl;exact⟨34,by simp[eF]⟩;exact⟨35,by simp[eF]⟩) ih
 |jA ho _ _ _=>exact ml (by rcases ho with rfl|rfl;exact⟨40,by simp[eF]⟩;exact⟨41,by simp[eF]⟩) ih
 |equal=>exact ml ⟨36,by simp[eF]⟩ ih
 |mC=>exact ml ⟨37,by simp[eF]⟩ ih
 |mD=>exact ml ⟨38,by simp[eF]⟩ ih
 |mE=>exact ml ⟨38,by simp[eF]⟩ ih
 |jt=>exact ml ⟨39,by simp[eF]⟩ ih
 |kQ=>exact ml ⟨39,by simp[eF]⟩ ih
 |kR=>exact ml ⟨39,by simp[eF]⟩ ih
 |at_=>exact ml ⟨43,by simp[eF]⟩ ih
 |flag=>exact ru ⟨_,by simp[eO];rfl⟩ ih
 |num=>exact ru ⟨_,by simp[eO];rfl⟩ ih
 |one=>exact ru ⟨_,by simp[eO];rfl⟩ ih
 |size=>exact ru ⟨_,by simp[eO];rfl⟩ ih
 |sum=>exact ru ⟨_,by simp[eO];rfl⟩ ih
 |lj hm=>
  simp only[cu,gx,or_false,ck]at hm;rcases hm with⟨rfl,_⟩|⟨rfl,_⟩|⟨rfl,_⟩|⟨rfl,_⟩|⟨rfl,_⟩<;>exact ru ⟨_,by simp[eO];rfl⟩ ih
 |part ho=>rcases ho with⟨rfl,_⟩|⟨rfl,_⟩<;>exact ru ⟨_,by simp[eO];rfl⟩ ih
end
def G2 (B:Nat) (n:af):Prop:=WN B n/\CN n
section
variable {B:Nat}
theorem xk {n:af} (h51:n.Kind≠51) (hs:dL n) (hl:n.Kids.length<=B) (h44:n.Kind=44-> -1000000000000000<=n.N/\n.N<=1000000000000000) (h47:n.Kind=47->NV n.Text) (hk:∀k∈n.Kids,G2 B k):G2 B n:=by
 have e:fj n=n.Kids:=nC h51;exact⟨.mk hs hl h44 h47 (by rw[e];exactλk hm=>(hk k hm).1),.mk (λh=>absurd h h51) (by rw[e];exactλk hm=>(hk k hm).2)⟩
theorem Yi {s:List UInt8} {a:Int} {l:List af} (hs:s∈kP) (h1:s≠dD) (h2:s≠dc) (hl:l.length<=B) (hk:∀k∈l,G2 B k):G2 B ⟨51,s,0,a,l⟩:=by
 have e:fj ⟨51,s,0,a,l⟩=l:=Cb h1 h2;exact⟨.mk (.inr (.inr (.inr (.inr ⟨rfl,λe=>absurd e h1,λe=>absurd e h2⟩)))) hl (λe=>by simp at e) (λe=>by simp at e) (by rw[e];exactλk hm=>(hk k hm).1),.mk (λ_=>hs) (by rw[e];exactλk hm=>(hk k hm).2)⟩
theorem PM {s:List UInt8} {a:Int} {l:List af} (hs:s=dD\/s=dc) (hl:l.length<=B) (h1:s=dD->∀e∈l,e.Kids.length=2) (h2:s=dc->∀e∈l,e.Kids.length=1) (hk:∀e∈l,∀k∈e.Kids,G2 B k):G2 B ⟨51,s,0,a,l⟩:=by
 have e:fj ⟨51,s,0,a,l⟩=l.flatMap (·.Kids):=xz rfl hs;have all:∀k∈fj ⟨51,s,0,a,l⟩,G2 B k:=by
  rw[e];intro k hm;obtain⟨x,g1,g2⟩:=eH.1 hm;exact hk x g1 k g2
 exact⟨.mk (.inr (.inr (.inr (.inr ⟨rfl,h1,h2⟩)))) hl (λe=>by simp at e) (λe=>by simp at e) (λk hm=>(all k hm).1),.mk (λ_=>by rcases hs with h|h<;>(show s∈kP;rw[h];decide)) (λk hm=>(all k hm).2)⟩
theorem UK (op:Int):ag ((ka Pu) op) (λr=>r≠0->31<=r/\r<=43/\r≠33/\r≠42):=by
 rw[yH,oK]
 repeat' (first|refine ag.bif (λ_=>?_) (λ_=>?_)|refine ag.ret ?_)
 all_goals decide
variable (hB:B<=1048576) {ps:List TParam}
include hB
theorem Wt {y:ab} {ns:List af} {t:List UInt8} (ht:t=dD) (hl:ns.length<=B) (hk:∀k∈ns,G2 B k):ag ((mi Pu) y ns t 0 []) (λr=>r.2=true->G2 B r.1):=by
 have key:∀m i:Nat,ns.length<=i+m->i<=ns.length->∀b:List af,b.length<=i->b.length<=B->(∀e∈b,e.Kids.length=2/\∀k∈e.Kids,G2 B k)->ag ((mi Pu) y ns t (i:Int) b) (λr=>r.2=true->G2 B r.1):=by
  intro m
  induction m using Nat.strongRecOn with
  |_ m im=>
   intro i hi hil b hb hbB hI;by_cases hlt:i+1<ns.length
   ·rw[B7,pR,af.aB,bO i (by omega),aU];have:decide (i+1<ns.length)=true:=by simpa using hlt
    obtain⟨p,hp⟩:=bg (by omega:i<ns.length);obtain⟨q,hq⟩:=bg hlt;have e2:IntKind.i64.wrap ((i:Int)+2)=((i+2:Nat):Int):=by rw[wrap64 (by omega) (by omega)];omega
    rw[this,aO,bc hp,aq,aq,bc hq,aq,e2];refine ag.bif (λ_=>?_) (λh=>by simp at h;omega);refine im (m-2) (by omega) (i+2) (by omega) (by omega) _ (by simp;omega) (by simp;omega) (λe he=>?_);rcases cL.1 he with he|he
    ·exact hI e he
    ·simp at he;subst he;refine⟨rfl,λk hm=>?_⟩;simp at hm;rcases hm with rfl|rfl
     ·exact hk _ (bh hp)
     ·exact hk _ (bh hq)
   ·rw[B7,pR,af.aB,wrap64 (by omega) (by omega)];refine ag.bif (λh=>by simp at h;omega) (λ_=>ag.ret λ_=>?_);exact PM (.inl ht) hbB (λ_ e he=>(hI e he).1) (λe=>by rw[ht]at e;exact absurd e (by decide)) (λe he=>(hI e he).2)
 exact key ns.length 0 (by omega) (by omega) [] (by simp) (by simp) (by simp)
theorem Wu {y:ab} {ns:List af} {t:List UInt8} (ht:t=dc) (he:y.aj.ai.Names.length=ns.length) (hl:ns.length<=B) (hk:∀k∈ns,G2 B k):ag ((jR Pu) y ns t ns 0) (λr=>r.2=true->G2 B r.1):=by
 have h:=eS (L:=λi (b:List af)=>(jR Pu) y ns t b i) (P:=λr=>r.2=true->G2 B r.1) (len:=ns.length) (λi b=>b.length=ns.length/\(∀(j:Nat) e,j<i->b[j]? =some e->e.Kids.length=1/\∀k∈e.Kids,G2 B k)/\∀(j:Nat) e,i<=j->b[j]? =some e->G2 B e) (λi b hi hI k=>by
   show ag ((jR Pu) y ns t b _) _;obtain⟨x,hx⟩:=bg (l:=b) (i:=i) (by rw[hI.1];exact hi);obtain⟨s,hs⟩:=bg (l:=y.aj.ai.Names) (i:=i) (by omega);rw[B',pS,af.aB,aU];have:decide (i<ns.length)=true:=by simpa using hi
   rw[this,aO,bc hs,aq,bc hx,aq,aq,fv,bO i (by omega)];have hxg:=hI.2.2 i x (bU _) hx;refine k _ ⟨by simp[hI.1],λj e hj h=>?_,λj e hj h=>?_⟩
   ·by_cases ej:j=i
    ·subst ej;rw[mQ (by rw[hI.1];exact hi)]at h;cases h;exact⟨rfl,by simp;exact hxg⟩
    ·rw[ky (by omega)]at h;exact hI.2.1 j e (by omega) h
   ·rw[ky (by omega)]at h;exact hI.2.2 j e (by omega) h) (λb hI=>by
   show ag ((jR Pu) y ns t b _) _;rw[B',pS,af.aB,aU];have:decide (ns.length<ns.length)=false:=by simp
   rw[this,a6];have all:∀e∈b,e.Kids.length=1/\∀k∈e.Kids,G2 B k:=λe hm=>by
    obtain⟨j,hj⟩:=fR hm;exact hI.2.1 j e (by rw[<-hI.1];exact(cy.1 hj).1) hj
   exact ag.ret λ_=>PM (.inr ht) (by rw[hI.1];exact hl) (λe=>by rw[ht]at e;exact absurd e (by decide)) (λ_ e hm=>(all e hm).1) (λe hm=>(all e hm).2)) 0 ns (by omega) ⟨rfl,λj e hj=>by omega,λj e _ h=>hk e (bh h)⟩
 exact h
theorem Vj:∀x:ab,x.ok B->ag ((lh Pu) ps x) (λr=>r.2=true->G2 B r.1):=by
 refine ab.ind λx ih hx=>?_;rw[ab.cM]at hx;obtain⟨_,_,_,ht,_,hkl,hkk⟩:=hx;have no:∀n:af,ag (some (n,false)) (λr=>r.2=true->G2 B r.1):=λn=>ag.ret λe=>by cases e
 rw[JS,qt];have h:=eS (L:=λi (b:List af)=>(iT Pu) ps x false i b) (P:=λr=>r.2=true->G2 B r.1) (len:=x.Kids.length) (λi b=>b.length=i/\∀k∈b,G2 B k) (λi b hi hI k=>by
   show ag ((iT Pu) ps x false i b) _;rw[Fv,rk,ab.aB,aU];have:decide (i<x.Kids.length)=true:=by simpa using hi
   obtain⟨p,hp⟩:=bg hi;have hm:=bh hp;rw[this,aO,bc hp,aq];refine ag.bind (ih p hm (ab.gF hkk hm)) (λy hy=>?_);refine ag.bif (λ_=>no _) (λh1=>?_);have hlen:decide ((b++[y.1]).length<=274877906944)=true:=by simp;omega
   rw[hlen,aO,bO i (by omega)];refine k _ ⟨by simp[hI.1],λz hz=>?_⟩;rcases cL.1 hz with hz|hz
   ·exact hI.2 z hz
   ·simp at hz;subst hz;exact hy (by simpa using h1)) (λb hI=>by
   show ag ((iT Pu) ps x false (x.Kids.length:Int) b) _;rw[iq];have hbl:b.length<=B:=by omega
   have leafG:∀{n:af},44<=n.Kind/\n.Kind<=50->n.Kids=b->(n.Kind=44-> -1000000000000000<=n.N/\n.N<=1000000000000000)->(n.Kind=47->NV n.Text)->G2 B n:=λ{n} h hk h1 h2=>xk (by omega) (.inr (.inr (.inr (.inl h)))) (by rw[hk];exact hbl) h1 h2 (by rw[hk];exact hI.2);refine ag.bind (UK x.Op) (λkd hkd=>ag.bif (λh0=>ag.ret λe2=>?_) (λ_=>?_))
   ·have hkd:=hkd (by simpa using h0);have e2:b.length=2:=by have:((b.length:Int)==2)=true:=e2;simp at this;omega
    exact xk (by show kd≠51;omega) (.inr (.inr (.inl ⟨⟨hkd.1,hkd.2.1,hkd.2.2⟩,e2⟩))) hbl (λe=>by have e:kd=44:=e;omega) (λe=>by have e:kd=47:=e;omega) hI.2
   obtain⟨s,_,es,hs,hmap,hrec⟩:=Vq x.Op;rw[es,aq];refine ag.bif (λhne=>?_) (λ_=>?_)
   ·have hsN:s∈kP:=by
     rcases hs with h|h
     ·rw[h]at hne;cases hne
     ·exact h
    refine ag.bif (λh24=>?_) (λh24=>?_)
    ·exact Wt hB (hmap.2 (by simpa using h24)) hbl hI.2
    refine ag.bif (λh25=>?_) (λh25=>?_)
    ·refine ag.bif (λ_=>no _) (λhn=>?_);exact Wu hB (hrec.2 (by simpa using h25)) (by simp at hn;omega) hbl hI.2
    ·exact ag.ret λ_=>Yi hsN (λe=>by have:=hmap.1 e;simp at h24;omega) (λe=>by have:=hrec.1 e;simp at h25;omega) hbl hI.2
   refine ag.bif (λ_=>?_) (λ_=>?_)
   ·refine ag.bif (λh0=>ag.bif (λh1=>ag.ret λh2=>?_) (λ_=>no _)) (λ_=>no _);have h2:decide (x.N<=1000000000000000)=true:=h2;simp at h1 h2;exact leafG (by simp) rfl (λ_=>⟨h1,h2⟩) (λe=>by simp at e)
   refine ag.bif (λ_=>?_) (λ_=>?_)
   ·exact ag.bif (λ_=>ag.ret λ_=>leafG (by simp) rfl (λe=>by simp at e) (λe=>by simp at e)) (λ_=>ag.ret λ_=>leafG (by simp) rfl (λe=>by simp at e) (λe=>by simp at e))
   refine ag.bif (λ_=>?_) (λ_=>?_)
   ·refine ag.bif (λ_=>?_) (λ_=>no _);rw[wj _ (by omega),aq];exact ag.ret λh=>leafG (by simp) rfl (λe=>by simp at e) (λ_=>BR.1 h)
   refine ag.bif (λ_=>?_) (λ_=>?_)
   ·refine ag.bif (λ_=>no _) (λh1=>ag.bif (λ_=>no _) (λh2=>?_));refine ag.bind (ag.idx (by simpa using h1) (by simpa using h2)) (λy _=>ag.ret λ_=>leafG (by simp) rfl (λe=>by simp at e) (λe=>by simp at e))
   refine ag.bif (λ_=>ag.ret λ_=>leafG (by simp) rfl (λe=>by simp at e) (λe=>by simp at e)) (λ_=>?_);refine ag.bif (λ_=>ag.ret λ_=>leafG (by simp) rfl (λe=>by simp at e) (λe=>by simp at e)) (λ_=>?_);refine ag.bif (λ_=>ag.ret λe=>?_) (λ_=>?_)
   ·have e:b.length=3:=by have:((b.length:Int)==3)=true:=e;simp at this;omega
    exact xk (by simp) (.inl ⟨rfl,e⟩) hbl (λe=>by simp at e) (λe=>by simp at e) hI.2
   refine ag.bif (λ_=>ag.ret λe=>?_) (λ_=>?_)
   ·have e:b.length=1:=by have:((b.length:Int)==1)=true:=e;simp at this;omega
    exact xk (by simp) (.inr (.inl ⟨.inl rfl,e⟩)) hbl (λe=>by simp at e) (λe=>by simp at e) hI.2
   refine ag.bif (λ_=>?_) (λ_=>no _);refine ag.bif (λ_=>no _) (λh1=>ag.bif (λ_=>no _) (λh2=>?_));have h1:b.length=1:=by simp at h1;omega
   obtain⟨p,hp⟩:=bg (l:=x.Kids) (i:=0) (by omega);have e0:ao x.Kids 0=some p:=hp;rw[e0,aq,aq];refine ag.bif (λ_=>no _) (λh3=>?_);refine ag.bind (ag.idx (by simpa using h2) (by simpa using h3)) (λy _=>ag.ret λ_=>?_);exact xk (by simp) (.inr (.inl ⟨.inr rfl,h1⟩)) hbl (λe=>by simp at e) (λe=>by simp at e) hI.2) 0 [] (by omega) ⟨rfl,by simp⟩
 simpa using h
end
def VX (l:ah) (f:bD):Prop:=ef l/\oE f/\W l f.Params f.Body (iE l f)
theorem oE.SR {f:bD} (h:oE f):∀(i j:Nat) p q,f.Params[i]? =some p->f.Params[j]? =some q->p.Name=q.Name->i=j:=by
 intro i j p q hi hj e;rcases J0 i j with g|g|g
 ·exact absurd e ((h.2.2.2.2.2 j q hj).2.2.2 i p g hi)
 ·exact g
 ·exact absurd e.symm ((h.2.2.2.2.2 i p hi).2.2.2 j q g hj)
section
variable {B:Nat} (hB:B<=1048576)
include hB
theorem Vi {f:bD} (hf:f.ok B) (h:oE f):(u32 Pu) f=some true:=by
 obtain⟨hn,ho,⟨hpl,hp⟩,_,hb⟩:=hf;obtain⟨f1,f2,f3,f4,f5,f6⟩:=h;refine ag.of ?_;rw[SL,vn,mY _ (by omega),mY _ (by omega),TParam.aB,f1,f2];simp only[aq];refine ag.bif (λh=>by cases h) (λ_=>ag.bif (λh=>by cases h) (λ_=>?_));refine ag.bif (λh=>by simp at h;omega) (λ_=>ag.bif (λh=>by simp at h;omega) (λ_=>ag.bif (λh=>by simp at h;omega) (λ_=>?_)));have h:=kF (L:=λi=>(nz Pu) f i) (P:=(·=true)) (len:=f.Params.length) (λ_=>True) (λi hi _ k=>by
  show ag ((nz Pu) f i) _;obtain⟨x,hx⟩:=bg hi;obtain⟨x1,x2,x3,x4⟩:=f6 i x hx;have hd:((f.Params.take i).any λq:TParam=>q.Name==x.Name)=false:=by
   rw[vO];intro q hq e;obtain⟨j,hj⟩:=fR hq;have hji:j<i:=by have:=(cy.1 hj).1;rw[gw]at this;omega
   rw[DU hji]at hj;exact x4 j q hji hj (by simpa using e)
  rw[B2,pM,TParam.aB,aU];have:decide (i<f.Params.length)=true:=by simpa using hi
  rw[this,aO,bc hx,aq,mY _ (by have:=(hp x (bh hx)).1;omega),aq,tO (by omega),aq,O4 _ _ (by rw[gw];omega),aq,bO i (by omega),x1,hd];refine ag.bif (λh=>by cases h) (λ_=>ag.bif (λh=>by simp at h;omega) (λ_=>ag.bif (λh=>by simp at h;omega) (λ_=>ag.bif (λh=>by cases h) (λ_=>k trivial))))) (λ_=>by
  show ag ((nz Pu) f _) _;rw[B2,pM,TParam.aB,aU];have:decide (f.Params.length<f.Params.length)=false:=by simp
  rw[this];exact ag.ret rfl) 0 (by omega) trivial
 exact h
theorem VX.ce {l:ah} {f:bD} (hl:l.ok B) (hf:f.ok B) (h:VX l f):CE B ⟨l,f.Params⟩/\bW B (iE l f)/\TT B f.Body:=by
 have hce:CE B ⟨l,f.Params⟩:=⟨h.1,hl,λp hm=>by
  obtain⟨i,hi⟩:=fR hm;have:=h.2.1.2.2.2.2.2 i p hi;exact⟨this.2.1,this.2.2.1⟩,hf.2.2.1.1⟩
 have hww:bW B (iE l f):=by
  unfold iE;cases h':f.Result==0 with
  |true=>exact .inr (a7.of h.1 hl)
  |false=>
   have h0:f.Result≠0:=by simpa using h'
   have:=h.2.1.2.2.2;exact .inr (a7.sort (by omega))
 exact⟨hce,hww,W.tt hce h.2.2 hww⟩
theorem Vb {l:ah} {f:bD} (hl:l.ok B) (hf:f.ok B):ag ((so Pu) l f) (λr=>r=true↔VX l f):=by
 obtain⟨r,e,h⟩:=Vd hB hl hf;refine⟨r,e,λg=>⟨(h g).ce.du,(h g).form,(h g).body⟩,λg=>?_⟩;obtain⟨hce,hww,htt⟩:=g.ce hB hl hf;obtain⟨n,hn,hbr⟩:=(O6 hce f.Body _ hww g.2.2).1;have hel:=(O7 hB hce g.2.1.SR f.Body _ n hww g.2.2 hbr).eq;have hE:(C2 Pu) l f.Params (iE l f) n=some (f.Body,⟨0,0⟩):=by rw[SM,vD,hel];rfl
 have hb:=hf.2.2.2.2;have:(so Pu) l f=some true:=by
  refine ag.of ?_;rw[SN,vE,V' (by omega) hl g.1,Vi hB hf g.2.1,hn,NM];refine ag.aC rfl (ag.bif (λh=>by cases h) (λ_=>ag.aC rfl (ag.bif (λh=>by cases h) (λ_=>ag.aC rfl (ag.bif (λh=>by cases h) (λ_=>?_))))));refine ag.aC rfl (ag.aC hE ?_);refine ag.bif (λ_=>?_) (λh=>(by simp at h));rw[Mn hB f.Body htt f.Body hb];exact ag.ret (by simp[cF])
 rw[this]at e;cases e;rfl
theorem Uq {l:ah} {f:bD} (hl:l.ok B) (hf:f.ok B):ag ((C' Pu) l f) (λr=>r=true↔VX l f):=by
 have hf':=hf;obtain⟨hn,ho,⟨hpl,hp⟩,_,hb⟩:=hf';have no:¬VX l f->ag (some false) (λr=>r=true↔VX l f):=λh=>ag.ret ⟨λe=>(by cases e),λe=>absurd e h⟩;rw[e28,zX,wj _ (by omega),wj _ (by omega),TParam.aB];refine ag.bind (UD (by omega) hl) (λy1 h1=>?_);refine ag.bif (λg=>no λh=>?_) (λg1=>?_)
 ·rw[h1.2 h.1]at g;cases g
 have hlat:=h1.1 (by simpa using g1);refine ag.aC rfl (ag.bif (λg=>no λh=>?_) (λg2=>ag.aC rfl (ag.bif (λg=>no λh=>?_) (λg3=>?_))))
 ·rw[h.2.1.1]at g;cases g
 ·rw[h.2.1.2.1]at g;cases g
 refine ag.bif (λg=>no λh=>?_) (λg4=>ag.bif (λg=>no λh=>?_) (λg5=>ag.bif (λg=>no λh=>?_) (λg6=>?_)))
 ·have:=h.2.1.2.2.1;simp at g;omega
 ·have:=h.2.1.2.2.2.1;simp at g;omega
 ·have:=h.2.1.2.2.2.2.1;simp at g;omega
 have g4:f.Params.length<=8:=by simp at g4;omega
 refine eS (L:=λi s=>(rn Pu) l f s i) (len:=f.Params.length) (λi s=>s=(f.Params.take i).map (·.Name)/\∀(k:Nat) p,k<i->f.Params[k]? =some p->eR p.Name=true/\1<=p.aK/\p.aK<=4/\∀(j:Nat) q,j<k->f.Params[j]? =some q->q.Name≠p.Name) (λi s hi hI k=>?_) (λs hI=>?_) 0 [] (by omega) ⟨by simp,λk p hk=>by omega⟩
 ·show ag ((rn Pu) l f s i) _;obtain⟨x,hx⟩:=bg hi;have hsl:s.length=i:=by rw[hI.1,jI,gw];omega
  rw[Ow,ue,TParam.aB,aU];have:decide (i<f.Params.length)=true:=by simpa using hi
  rw[this,aO,bc hx,aq,wj _ (by have:=(hp x (bh hx)).1;omega),aq,bO i (by omega)];refine ag.bif (λg=>no λh=>?_) (λk1=>ag.aC rfl ?_)
  ·rw[(h.2.1.2.2.2.2.2 i x hx).1]at g;cases g
  rw[NP _ _ (by omega),aq];refine ag.bif (λg=>no λh=>?_) (λk2=>?_)
  ·obtain⟨y,hy,e⟩:=ln.1 g;rw[hI.1]at hy;obtain⟨q,hq,rfl⟩:=dB.1 hy;obtain⟨j,hj⟩:=fR hq;have hji:j<i:=by have:=(cy.1 hj).1;rw[gw]at this;omega
   rw[DU hji]at hj;exact(h.2.1.2.2.2.2.2 i x hx).2.2.2 j q hji hj (by simpa using e)
  refine ag.aC rfl (ag.bif (λg=>no λh=>?_) (λk3=>ag.aC rfl (ag.bif (λg=>no λh=>?_) (λk4=>ag.aC rfl ?_))))
  ·have:=(h.2.1.2.2.2.2.2 i x hx).2.1;simp at g;omega
  ·have:=(h.2.1.2.2.2.2.2 i x hx).2.2.1;simp at g;omega
  have hlen:decide ((s++[x.Name]).length<=274877906944)=true:=by simp;omega
  rw[hlen,aO];refine k _ ⟨by rw[hI.1,<-qH hx,Ag];rfl,λm p hm hp'=>?_⟩;rcases lW.1 hm with h5|rfl
  ·exact hI.2 m p h5 hp'
  ·rw[hx]at hp';cases hp';refine⟨by simpa using k1,by simp at k3;omega,by simp at k4;omega,λj q hj hq e=>?_⟩;rw[vO]at k2;refine k2 q.Name ?_ (by simpa using e);rw[hI.1];exact dB.2 ⟨q,bh (i:=j) (by rw[DU hj];exact hq),rfl⟩
 ·show ag ((rn Pu) l f s _) _;rw[Ow,ue,TParam.aB,aU];have:decide (f.Params.length<f.Params.length)=false:=by simp
  rw[this,a6,cT,lR,aq];have hform:oE f:=⟨by simpa using g2,by simpa using g3,g4,by simp at g5;omega,by simp at g6;omega,λi p hp=>hI.2 i p (cy.1 hp).1 hp⟩;have hce:CE B ⟨l,f.Params⟩:=⟨hlat,hl,λp hm=>by
   obtain⟨i,hi⟩:=fR hm;have:=hform.2.2.2.2.2 i p hi;exact⟨this.2.1,this.2.2.1⟩,hpl⟩
  have tail:∀w:ay,w=iE l f->bW B w->ag (((lh Pu) f.Params f.Body).bind λy33=>(bif !y33.snd then(some (false))else(((vx Pu) l f.Params w y33.fst).bind λy35=>(bif y35.snd.Code==0 then(((mK Pu) y35.fst f.Body).bind λy37=>(some (y37)))else(some (false)))))) (λr=>r=true↔VX l f):=by
   intro w hw hww;refine ag.bind ((Vj hB (ps:=f.Params) f.Body hb).self) (λy hy=>?_);obtain⟨hy1,hy2⟩:=hy;have get:VX l f->∃n,y=(n,true)/\(bR Pu) ⟨l,f.Params⟩ n w=some (.ret f.Body):=λh=>by
    obtain⟨n,hn,hbr⟩:=(O6 hce f.Body _ hww (hw▸h.2.2)).2;have hn:(lh Pu) f.Params f.Body=some (n,true):=hn;rw[hn]at hy1;cases hy1;exact⟨n,rfl,(O7 hB hce hform.SR f.Body _ n hww (hw▸h.2.2) hbr).eq⟩
   refine ag.bif (λg=>no λh=>?_) (λg=>?_)
   ·obtain⟨n,rfl,_⟩:=get h;cases g
   have hg:=hy2 (by simpa using g);have hre:=Xb hB hce hg.1 hg.2 w hww;have hE:∀o,(eb Pu) ⟨l,f.Params⟩ y.1 w=some o->(vx Pu) l f.Params w y.1=some o:=λo h=>by
    rw[e60,zW,h];rfl
   rcases hre with⟨u,z,⟨rfl,hep⟩,e1,e2⟩|⟨a,b,z,ha,e1,e2⟩
   ·rw[hE _ e2,aq];refine ag.bif (λ_=>?_) (λh=>(by simp at h));rw[KV hB z (W.tt hce hep.2.2.2 hww) f.Body hb,aq];refine ag.ret ⟨λe=>⟨hlat,hform,?_⟩,λh=>?_⟩
    ·have e:=nn.1 e;rw[<-hw,<-e];exact hep.2.2.2
    ·obtain⟨n,rfl,he⟩:=get h;have e1:(bR Pu) ⟨l,f.Params⟩ n w=some (.ret z):=e1;rw[he]at e1;cases e1;simp[cF]
   ·rw[hE _ e2,aq];refine ag.bif (λg=>absurd (by simpa using g) ha) (λ_=>no λh=>?_);obtain⟨n,rfl,he⟩:=get h;have e1:(bR Pu) ⟨l,f.Params⟩ n w=some (.aM (FF a b)):=e1;rw[he]at e1;cases e1
  refine ag.bif (λh0=>?_) (λh0=>?_)
  ·rw[aq];exact tail (bN l) (by rw[iE,h0];rfl) (.inr (a7.of hlat hl))
  ·refine tail (aL f.Result) (by rw[iE,h0];rfl) (.inr (a7.sort ?_));have:=hform.2.2.2;simp at h0;omega
