/- Both bare trees of a well-typed expression are trees of it: the theorem. -/
import Derived.Test.YtfgnmgbiijpkiaaGreatKRv
import Derived.Test.YtfgnmgbiijpkiaaGreatKVa9
import Derived.Test.YtfgnmgbiijpkiaaGreatKRa
import Derived.Test.YtfgnmgbiijpkiaaGreatKRk
set_option linter.all false
namespace Go.Proofs.YtfgnmgbiijpkiaaGreat
open Go Go.Bw
section
variable {B:Nat} {c:bO} (hc:CE B c)
def BB (ps:List TParam) (y:ae):Prop:=(∃n,(f62 Pf) ps y=some (n,true)/\Br ps y n)/\∃n,(f104 Pf) ps y=some (n,true)/\Br ps y n
theorem jH {ps:List TParam} {y:ae} (hlf:y.Kids≠[]\/(y.Op≠1/\y.Op≠2/\y.Op≠3/\y.Op≠4)) (hlen:y.Kids.length<=2097152) (ih:∀k∈y.Kids,BB ps k) (ha:∀ns:List ab,y.Kids.length=ns.length->(∀(i:Nat) k n,y.Kids[i]? =some k->ns[i]? =some n->Br ps k n)->Qj ps y ns/\PE ps y ns):BB ps y:=by
 obtain⟨ns,h1,h2⟩:=En (l:=y.Kids) λk hk=>(ih k hk).1;obtain⟨ms,g1,g2⟩:=En (l:=y.Kids) λk hk=>(ih k hk).2;exact⟨Yt hlf hlen h1 (λi k n e f=>(h2 i k n e f).1) (ha ns h1 λi k n e f=>(h2 i k n e f).2).1,Xp hlen g1 (λi k n e f=>(g2 i k n e f).1) (ha ms g1 λi k n e f=>(g2 i k n e f).2).2⟩
theorem l4 {ps:List TParam} {op:Int} {t:az} {a:Int} {x y:ae} (hm:∃kd,(op,kd)∈eE) (ih:∀k∈[x,y],BB ps k):BB ps ⟨op,t,0,[],a,[x,y]⟩:=by
 obtain⟨kd,hm⟩:=hm;obtain⟨o1,o2,o3,o4,_⟩:=Yu _ hm;refine jH (.inl (by simp)) (by simp) ih (λns hl h=>?_);obtain⟨x',y',rfl⟩:=gC (l:=ns) (by simpa using hl.symm);have hb:Br ps ⟨op,t,0,[],a,[x,y]⟩ ⟨kd,[],0,a,[x',y']⟩:= .two hm (h 0 _ _ rfl rfl) (h 1 _ _ rfl rfl);exact⟨⟨_,qv o1 o3 o4 rfl,hb⟩,⟨_,VP o2 o3 rfl,hb⟩⟩
theorem qY {ps:List TParam} {op:Int} {t:az} {a:Int} {x:ae} (hm:∃s,(op,s)∈eQ) (ih:∀k∈[x],BB ps k):BB ps ⟨op,t,0,[],a,[x]⟩:=by
 obtain⟨s,hm⟩:=hm;obtain⟨o1,o2,o3,o4,o5,o6,o7⟩:=Yv _ hm;refine jH (.inl (by simp)) (by simp) ih (λns hl h=>?_);obtain⟨x',rfl⟩:=iZ (l:=ns) (by simpa using hl.symm);have hb:Br ps ⟨op,t,0,[],a,[x]⟩ ⟨51,s,0,a,[x']⟩:= .kH hm (h 0 _ _ rfl rfl);exact⟨⟨_,yK o1 o2 o5 o6 o7,hb⟩,⟨_,yh o3 o4 o5 o6 o7,hb⟩⟩
include hc in
theorem PC:∀(y:ae) (w:az),bY B w->W c.l c.params y w->BB c.params y:=by
 intro y w hw hW;have htt:=W.tt hc hW hw;have hkb:=hW.kb;clear hw;revert w;revert htt hkb;revert y;refine ae.ind λy ih htt hkb w hW=>?_;replace ih:∀k∈y.Kids,BB c.params k:=λk hk=>by
  obtain⟨w',h'⟩:=hW.kids k hk;have hkk:KB k:=by cases hkb with|mk _ h=>exact h k hk
  exact ih k hk (htt.mx hk) hkk w' h'
 have hlen:y.Kids.length<=2097152:=by cases hkb;assumption
 have lit:∀{op:Int},(op=1\/op=2\/op=3\/op=4\/op=5\/op=6\/op=7\/op=10\/op=19)->(f173 Pf) op=some 0/\(f174 Pf) op=some []:=λ{op} h=>Yw op h;have lf:∀{y:ae} {n:ab},(f107 Pf) c.params y=some (n,true)->(f62 Pf) c.params y=some (n,true):=λh=>by rw[I0,rR,h];rfl
 have rl:∀{y:ae} {n:ab},y.Kids=[]->(iC Pf) c.params y false (y.Kids.length:Int) []=some (n,true)->(f104 Pf) c.params y=some (n,true):=λ{y n} hk h=>by
  rw[GQ,pT,<-h,hk];rfl
 cases hW with
 |int h1 h2 hf=>
  refine⟨⟨_,lf ?_,.int⟩,⟨_,rl rfl ?_,.int⟩⟩
  ·rw[rv,ma];rename_i n a;show(bif decide (-1000000000000000<=n)then(bif decide (n<=1000000000000000)then _ else _)else _)=_;rw[show decide (-1000000000000000<=n)=true by simpa using h1,show decide (n<=1000000000000000)=true by simpa using h2];rfl
  ·rename_i n a;rw[gU,(lit (op:=1) (by simp)).1,aw];show(((f174 Pf) 1).bind _)=_;rw[(lit (op:=1) (by simp)).2,aw];show(bif decide (n>= -1000000000000000)then some (_,decide (n<=1000000000000000))else _)=_;rw[show decide (n>= -1000000000000000)=true by simpa using h1,show decide (n<=1000000000000000)=true by simpa using h2];rfl
 |bool h1 hf=>
  rename_i n a;rcases h1 with rfl|rfl
  ·refine⟨⟨_,lf ?_,.fl⟩,⟨_,rl rfl ?_,.fl⟩⟩
   ·rw[rv,ma];rfl
   ·rw[gU,(lit (op:=2) (by simp)).1,aw];show(((f174 Pf) 2).bind _)=_;rw[(lit (op:=2) (by simp)).2];rfl
  ·refine⟨⟨_,lf ?_,.tr⟩,⟨_,rl rfl ?_,.tr⟩⟩
   ·rw[rv,ma];rfl
   ·rw[gU,(lit (op:=2) (by simp)).1,aw];show(((f174 Pf) 2).bind _)=_;rw[(lit (op:=2) (by simp)).2];rfl
 |name h1 hf=>
  rename_i s a;have hs:=h1.1;refine⟨⟨_,lf ?_,.name⟩,⟨_,rl rfl ?_,.name⟩⟩
  ·rw[rv,ma];show(((f53 Pf) s).bind _)=_;rw[lN s (by omega),Au.2 h1];rfl
  ·rw[gU,(lit (op:=3) (by simp)).1,aw];show(((f174 Pf) 3).bind _)=_;rw[(lit (op:=3) (by simp)).2,aw];show(((p7 Pu) s).bind _)=_;rw[sF s (by omega),Au.2 h1];rfl
 |param hp hf=>
  rename_i i p a;have hi:=(cr.1 hp).1;refine⟨⟨_,lf ?_,.param hp⟩,⟨_,rl rfl ?_,.param hp⟩⟩
  ·rw[rv,ma,TParam.aD];show(bif decide ((0:Int)<=(i:Int))then(bif decide ((i:Int)<(c.params.length:Int))then((au c.params (i:Int)).bind λx14=>some ((⟨48,x14.Name,0,a,[]⟩:ab),true))else some ((⟨0,[],0,a,[]⟩:ab),false))else some ((⟨0,[],0,a,[]⟩:ab),false))=_;rw[show decide ((0:Int)<=(i:Int))=true by simp,show decide ((i:Int)<(c.params.length:Int))=true by simpa using hi,bj hp];rfl
  ·rw[gU,(lit (op:=4) (by simp)).1,aw];show(((f174 Pf) 4).bind _)=_;rw[(lit (op:=4) (by simp)).2,aw];show(bif decide ((i:Int)<0)then some ((⟨0,[],0,a,[]⟩:ab),false)else(bif decide ((i:Int)>=(c.params.length:Int))then some ((⟨0,[],0,a,[]⟩:ab),false)else((au c.params (i:Int)).bind λx60=>some ((⟨48,x60.Name,0,a,[]⟩:ab),true))))=_;rw[show decide ((i:Int)<0)=false by simp,show decide ((i:Int)>=(c.params.length:Int))=false by simpa using hi,bj hp];rfl
 |state hf=>
  refine jH (.inr (by simp)) hlen ih (λns hl h=>?_);have:ns=[]:=jU hl.symm;subst this;refine⟨⟨_,qv (kd:=49) (m:=0) (by rw[mb,jb];rfl) (by decide) (by decide) rfl,.state⟩,⟨_,?_,.state⟩⟩;rw[gU,(lit (op:=5) (by simp)).1,aw];show(((f174 Pf) 5).bind _)=_;rw[(lit (op:=5) (by simp)).2];rfl
 |kZ hs hn=>
  refine jH (.inr (by simp)) hlen ih (λns hl h=>?_);have:ns=[]:=jU hl.symm;subst this;refine⟨⟨_,qv (kd:=50) (m:=0) (by rw[mb,jb];rfl) (by decide) (by decide) rfl,.kZ⟩,⟨_,?_,.kZ⟩⟩;rw[gU,(lit (op:=6) (by simp)).1,aw];show(((f174 Pf) 6).bind _)=_;rw[(lit (op:=6) (by simp)).2];rfl
 |not h1 hf=>
  refine jH (.inl (by simp)) hlen ih (λns hl h=>?_);obtain⟨x',rfl⟩:=iZ (l:=ns) (by simpa using hl.symm);refine⟨⟨_,qv (kd:=33) (m:=1) (by rw[mb,jb];rfl) (by decide) (by decide) rfl,.not (h 0 _ _ rfl rfl)⟩,⟨_,?_,.not (h 0 _ _ rfl rfl)⟩⟩;rw[gU,(lit (op:=10) (by simp)).1,aw];show(((f174 Pf) 10).bind _)=_;rw[(lit (op:=10) (by simp)).2];rfl
 |field h1 hs h6 hi hp hf=>
  rename_i x i p a;obtain⟨s,hn⟩:=bh hi;refine jH (.inl (by simp)) hlen ih (λns hl h=>?_);obtain⟨x',rfl⟩:=iZ (l:=ns) (by simpa using hl.symm);refine⟨⟨_,?_,.field hn (h 0 _ _ rfl rfl)⟩,⟨_,?_,.field hn (h 0 _ _ rfl rfl)⟩⟩
  ·rw[vz];have ho:(f108 Pf) 19=some (42,1):=by rw[mb,jb];rfl
   show(((f108 Pf) 19).bind _)=_;rw[ho,aw];show(bif decide ((i:Int)<0)then some ((⟨42,[],0,a,[x']⟩:ab),false)else(bif decide ((i:Int)>=(x.ai.aj.Names.length:Int))then some ((⟨42,[],0,a,[x']⟩:ab),false)else((au x.ai.aj.Names (i:Int)).bind λx26=>some ((⟨42,x26,0,a,[x']⟩:ab),true))))=_;rw[show decide ((i:Int)<0)=false by simp,show decide ((i:Int)>=(x.ai.aj.Names.length:Int))=false by simpa using hi,bj hn];rfl
  ·rw[gU,(lit (op:=19) (by simp)).1,aw];show(((f174 Pf) 19).bind _)=_;rw[(lit (op:=19) (by simp)).2,aw];show(bif decide ((i:Int)<0)then some ((⟨0,[],0,a,[x']⟩:ab),false)else(bif decide ((i:Int)>=(x.ai.aj.Names.length:Int))then some ((⟨0,[],0,a,[x']⟩:ab),false)else((au x.ai.aj.Names (i:Int)).bind λx74=>some ((⟨42,x74,0,a,[x']⟩:ab),true))))=_;rw[show decide ((i:Int)<0)=false by simp,show decide ((i:Int)>=(x.ai.aj.Names.length:Int))=false by simpa using hi,bj hn];rfl
 |pair h0 hk hp hq h1 h2=>
  obtain⟨o1,o2,o3,o4⟩:=vQ 26 A6 (by simp);refine jH (.inl (by simp)) hlen ih (λns hl h=>?_);obtain⟨x',y',rfl⟩:=gC (l:=ns) (by simpa using hl.symm);exact⟨⟨_,yK o1 o2 (by simp) (by simp) rfl,.pair (h 0 _ _ rfl rfl) (h 1 _ _ rfl rfl)⟩,⟨_,yh o3 o4 (by simp) (by simp) rfl,.pair (h 0 _ _ rfl rfl) (h 1 _ _ rfl rfl)⟩⟩
 |write h1 h2 h3 hf=>
  obtain⟨o1,o2,o3,o4⟩:=vQ 28 AS (by simp);refine jH (.inl (by simp)) hlen ih (λns hl h=>?_);obtain⟨x',y',z',rfl⟩:=ni (l:=ns) (by simpa using hl.symm);exact⟨⟨_,yK o1 o2 (by simp) (by simp) rfl,.write (h 0 _ _ rfl rfl) (h 1 _ _ rfl rfl) (h 2 _ _ rfl rfl)⟩,⟨_,yh o3 o4 (by simp) (by simp) rfl,.write (h 0 _ _ rfl rfl) (h 1 _ _ rfl rfl) (h 2 _ _ rfl rfl)⟩⟩
 |jO h0 hk hn h1 hs=>
  obtain⟨o1,o2,o3,o4⟩:=vQ 23 w9 (by simp);refine jH (.inr (by simp)) hlen ih (λns hl h=>?_);exact⟨⟨_,yK o1 o2 (by simp) (by simp) rfl,.jO hl h⟩,⟨_,yh o3 o4 (by simp) (by simp) rfl,.jO hl h⟩⟩
 |map h0 hk hn hp h1 h2=>
  rename_i qs p a;obtain⟨o1,o2,o3,o4⟩:=vQ 24 dC (by simp);refine jH (.inr (by simp)) hlen ih (λns hl h=>?_);have hl2:2*qs.length=ns.length:=by rw[<-hl];exact(sG qs).symm
  have e4:((ns.length:Int).tmod 2 !=0)=false:=by
   rw[UC (by omega)];simp;omega
  refine⟨⟨_,?_,PG (g:=λ_=>0) hl h⟩,⟨_,?_,PG (g:=λx=>x.At) hl h⟩⟩
  ·rw[vz];show(((f108 Pf) 24).bind _)=_;rw[o1,aw];show(((f109 Pf) 24).bind _)=_;rw[o2,aw,e4];exact Xq (by omega) (by omega)
  ·rw[gU];show(((f173 Pf) 24).bind _)=_;rw[o3,aw];show(((f174 Pf) 24).bind _)=_;rw[o4,aw];exact WC (by omega) (by omega)
 |kI h0 h6 hn hl' h1=>
  rename_i kids a;obtain⟨o1,o2,o3,o4⟩:=vQ 25 dg (by simp);have hnm:w.aj.Names.length=kids.length:=by rw[hl',qZ (htt.ty.dy h0).1 h6]
  refine jH (.inr (by simp)) hlen ih (λns hl h=>?_);have hln:w.aj.Names.length=ns.length:=hnm.trans hl;have e4:((w.aj.Names.length:Int) !=(ns.length:Int))=false:=by rw[hln];simp
  have hle:ns.length<=2097152:=by rw[<-hl];exact hlen
  refine⟨⟨_,?_,PH (f:=λn=>!(n.Kind==50&&n.At==a)) (b:=0) hnm hl h (λn e=>by simpa using e)⟩,⟨_,?_,PH (f:=λ_=>true) (b:=a) hnm hl h (λn e=>by cases e)⟩⟩
  ·rw[vz];show(((f108 Pf) 25).bind _)=_;rw[o1,aw];show(((f109 Pf) 25).bind _)=_;rw[o2,aw];show(bif (w.aj.Names.length:Int) !=(ns.length:Int)then some ((⟨51,dg,0,a,ns⟩:ab),false)else(iU Pf) ⟨25,w,0,[],a,kids⟩ ns dg [] 0)=_;rw[e4];exact Yx hln hle
  ·rw[gU];show(((f173 Pf) 25).bind _)=_;rw[o3,aw];show(((f174 Pf) 25).bind _)=_;rw[o4,aw];show(bif (w.aj.Names.length:Int) !=(ns.length:Int)then some ((⟨51,dg,0,a,ns⟩:ab),false)else(jA Pf) ⟨25,w,0,[],a,kids⟩ ns dg ns 0)=_;rw[e4];exact Xr hln hle
 |nD _ h1 h2 h3=>
  refine jH (.inl (by simp)) hlen ih (λns hl h=>?_);obtain⟨c',x',y',rfl⟩:=ni (l:=ns) (by simpa using hl.symm);refine⟨⟨_,qv (kd:=30) (m:=3) (by rw[mb,jb];rfl) (by decide) (by decide) rfl,.ite (h 0 _ _ rfl rfl) (h 1 _ _ rfl rfl) (h 2 _ _ rfl rfl)⟩,⟨_,?_,.ite (h 0 _ _ rfl rfl) (h 1 _ _ rfl rfl) (h 2 _ _ rfl rfl)⟩⟩;rw[gU,(lit (op:=7) (by simp)).1,aw];show(((f174 Pf) 7).bind _)=_;rw[(lit (op:=7) (by simp)).2];rfl
 |nE _ h1 h2 h3=>
  refine jH (.inl (by simp)) hlen ih (λns hl h=>?_);obtain⟨c',x',y',rfl⟩:=ni (l:=ns) (by simpa using hl.symm);refine⟨⟨_,qv (kd:=30) (m:=3) (by rw[mb,jb];rfl) (by decide) (by decide) rfl,.ite (h 0 _ _ rfl rfl) (h 1 _ _ rfl rfl) (h 2 _ _ rfl rfl)⟩,⟨_,?_,.ite (h 0 _ _ rfl rfl) (h 1 _ _ rfl rfl) (h 2 _ _ rfl rfl)⟩⟩;rw[gU,(lit (op:=7) (by simp)).1,aw];show(((f174 Pf) 7).bind _)=_;rw[(lit (op:=7) (by simp)).2];rfl
 |nF _ h1 h2 h3=>
  refine jH (.inl (by simp)) hlen ih (λns hl h=>?_);obtain⟨c',x',y',rfl⟩:=ni (l:=ns) (by simpa using hl.symm);refine⟨⟨_,qv (kd:=30) (m:=3) (by rw[mb,jb];rfl) (by decide) (by decide) rfl,.ite (h 0 _ _ rfl rfl) (h 1 _ _ rfl rfl) (h 2 _ _ rfl rfl)⟩,⟨_,?_,.ite (h 0 _ _ rfl rfl) (h 1 _ _ rfl rfl) (h 2 _ _ rfl rfl)⟩⟩;rw[gU,(lit (op:=7) (by simp)).1,aw];show(((f174 Pf) 7).bind _)=_;rw[(lit (op:=7) (by simp)).2];rfl
 |conn ho _ _ _=>exact l4 (by rcases ho with rfl|rfl;exact⟨31,by simp[eE]⟩;exact⟨32,by simp[eE]⟩) ih
 |less ho _ _ _=>exact l4 (by rcases ho with rfl|rfl;exact⟨34,by simp[eE]⟩;exact⟨35,by simp[eE]⟩) ih
 |ml ho _ _ _=>exact l4 (by rcases ho with rfl|rfl;exact⟨40,by simp[eE]⟩;exact⟨41,by simp[eE]⟩) ih
 |equal=>exact l4 ⟨36,by simp[eE]⟩ ih
 |oD=>exact l4 ⟨37,by simp[eE]⟩ ih
 |oE=>exact l4 ⟨38,by simp[eE]⟩ ih
 |oF=>exact l4 ⟨38,by simp[eE]⟩ ih
 |nj=>exact l4 ⟨39,by simp[eE]⟩ ih
 |nk=>exact l4 ⟨39,by simp[eE]⟩ ih
 |nq=>exact l4 ⟨39,by simp[eE]⟩ ih
 |at_=>exact l4 ⟨43,by simp[eE]⟩ ih
 |flag=>exact qY ⟨_,by simp[eQ];rfl⟩ ih
 |num=>exact qY ⟨_,by simp[eQ];rfl⟩ ih
 |one=>exact qY ⟨_,by simp[eQ];rfl⟩ ih
 |size=>exact qY ⟨_,by simp[eQ];rfl⟩ ih
 |sum=>exact qY ⟨_,by simp[eQ];rfl⟩ ih
 |oN hm=>
  simp only[cm,fM,or_false,cu]at hm;rcases hm with⟨rfl,_⟩|⟨rfl,_⟩|⟨rfl,_⟩|⟨rfl,_⟩|⟨rfl,_⟩<;>exact qY ⟨_,by simp[eQ];rfl⟩ ih
 |part ho=>rcases ho with⟨rfl,_⟩|⟨rfl,_⟩<;>exact qY ⟨_,by simp[eQ];rfl⟩ ih
end
theorem KM:∀{a:List (List UInt8)} {j:Nat} {x y:List UInt8},rising a=true->a[j]? =some x->a[j+1]? =some y->Op.bytesLess x y=true
 |u::v::r,0,x,y,h,h1,h2=>by
  simp only[lD,qd,aE]at h1 h2;subst h1;subst h2;have h:(Op.bytesLess u v&&rising (v::r))=true:=h;exact(bL _ _▸h).1
 |u::v::r,j+1,x,y,h,h1,h2=>by
  have h:(Op.bytesLess u v&&rising (v::r))=true:=h;exact KM (a:=v::r) (j:=j) ((bL _ _▸h).2) (by simpa using h1) (by simpa using h2)
 |[u],j,x,y,h,h1,h2=>by simp at h2
 |[],j,x,y,h,h1,h2=>by simp at h1
theorem KN {a:List (List UInt8)} (ha:a.length<9223372036854775807) (hs:∀s∈a,s.length<9223372036854775807) (hv:∀s∈a,ek s=true) (hr:rising a=true):(f196 Pf) a=some true:=by
 refine ag.of ?_;rw[Rw,ru];refine kS (L:=λi=>(lS Pf) a i) (len:=a.length) (λ_=>True) (λi hi _ k=>?_) (λ_=>?_) 0 (by omega) trivial
 ·show ag ((lS Pf) a i) _;obtain⟨x,hx⟩:=bh hi;rw[Ac,pf,cj,aY];have:decide (i<a.length)=true:=by simpa using hi
  rw[this,aV,bj hx,aw,zO x (hs x (bw hx)),aw,bP i (by omega),hv x (bw hx)];refine ag.bif (λh=>by cases h) (λ_=>?_);refine ag.bif (λh2=>?_) (λ_=>k trivial);have h2:0<i:=by simp at h2;omega
  obtain⟨w,hw⟩:=bh (l:=a) (i:=i-1) (by omega);have e:IntKind.i64.wrap ((i:Int)-1)=((i-1:Nat):Int):=by rw[wrap64 (by omega) (by omega)];omega
  rw[e,bj hw,aw,aw];have hl:=KM hr hw (by rw[show i-1+1=i by omega];exact hx);refine ag.bif (λh=>?_) (λ_=>k trivial);rw[hl]at h;cases h
 ·show ag ((lS Pf) a a.length) _;rw[Ac,pf,cj,aY];have:decide (a.length<a.length)=false:=by simp
  rw[this];exact ag.ret rfl
theorem WV {l:ah} (h:eV l):(f153 Pf) l=some true:=by
 rw[Rv,uD];simp only[cj,ah.aD,aU.aD];rcases h with⟨h1|h1,h2,h3,h4,h5,h6⟩|⟨h1|h1,h2,h3,h4⟩|⟨h1|h1,h2,h3,h4,h5⟩|⟨h1,h2,h3,h4,h5⟩|⟨h1,h2,h3,h4,h5,h6⟩|⟨h1,h2,h3,h4,h5,h6⟩|⟨h1,h2,h3,h4,h5⟩<;>(try have np:=xL.2 h3)<;>simp[*]
theorem WW {l:ah} (h:kP l):(f155 Pf) l=some true:=by
 induction h with
 |one hk=>
  rw[GP,rA];rcases hk with hk|hk|hk<;>simp[hk]
 |lex hk hp _ _ i1 i2=>
  rw[GP,rA,ah.aD,hp];simp[hk,au,i1,i2]
theorem aaJ {P:ah->Prop} (h:∀x:ah,(∀k∈x.ax,P k)->P x):∀x,P x:=by
 intro x;refine ah.rec (motive_1:=P) (motive_2:=λks=>∀k∈ks,P k) ?_ ?_ ?_ x
 ·intro k lo hi ns ps rs ih;exact h ⟨k,lo,hi,ns,ps,rs⟩ ih
 ·intro k hk;cases hk
 ·intro k ks h1 h2 x hx;rcases cm.1 hx with rfl|hx
  ·exact h1
  ·exact h2 x hx
section
variable {B:Nat} (hB:B<1099511627776)
include hB
theorem WX {l:ah} (hl:l.ok B) (h:na l):(f154 Pf) l=some true:=by
 refine ag.of ?_;rw[Rx,uE];rw[ah.c8]at hl;obtain⟨_,_,_,⟨hn,hnn⟩,_,⟨hr,hrr⟩⟩:=hl;obtain⟨n1,n2,n3,n4⟩:=h;refine ag.bif (λh6=>?_) (λh6=>?_)
 ·have h6:l.Kind=6:=by simpa using h6
  refine kS (L:=λi=>(mO Pf) l i) (len:=l.Names.length) (λ_=>True) (λi hi _ k=>?_) (λ_=>?_) 0 (by omega) trivial
  ·show ag ((mO Pf) l i) _;obtain⟨x,hx⟩:=bh hi;have hm:=bw hx;have hxl:=hnn x hm;rw[Ad,pg,cj,aY];have:decide (i<l.Names.length)=true:=by simpa using hi
   rw[this,aV,bj hx,aw,zO x (by omega),aw,bP i (by omega),tc (by omega),aw,aw,tZ _ _ (by rw[gT];omega),aw,n1 x hm,n3 h6 i x hx];exact ag.bif (λh=>by cases h) (λ_=>ag.bif (λh=>by cases h) (λ_=>k trivial))
  ·show ag ((mO Pf) l l.Names.length) _;rw[Ad,pg,cj,aY];have:decide (l.Names.length<l.Names.length)=false:=by simp
   rw[this];exact ag.ret rfl
 ·have h6:l.Kind≠6:=by simpa using h6
  rw[KN (a:=l.Names) (by omega) (λs h=>by have:=hnn s h;omega) n1 (n2 h6),aw];refine ag.bif (λh=>by cases h) (λ_=>?_);refine eg (L:=λi s=>(mQ Pf) l true s i) (len:=l.aZ.length) (λ_ _=>True) (λi s hi _ k=>?_) (λs _=>?_) 0 false (by omega) trivial
  ·show ag ((mQ Pf) l true s i) _;obtain⟨x,hx⟩:=bh hi;have hxo:=hrr x (bw hx);obtain⟨r1,r2,r3,r4⟩:=n4 x (bw hx);have r3':∀z∈x.If,(l.Names.any λy=>z==y)=true:=λz hz=>iA.1 r3 z hz;have nvI:∀z∈x.If,ek z=true:=λz hz=>by
    obtain⟨y,hy,e⟩:=ka.1 (r3' z hz);have e:z=y:=by simpa using e
    rw[e];exact n1 y hy
   rw[Af,pj,aU.aD,aY];have:decide (i<l.aZ.length)=true:=by simpa using hi
   have hne:((x.If.length:Int)==0)=false:=by cases hxi:x.If;exact absurd hxi r1;simp;omega
   rw[this,aV,bj hx,aw,cj,hne,bp,KN (a:=x.If) (by have:=hxo.1.1;omega) (λs h=>by have:=hxo.1.2 s h;omega) nvI r2,aw,tZ _ _ (by omega),aw,r4];refine ag.bif (λh=>by cases h) (λ_=>ag.bif (λh=>by cases h) (λ_=>?_));refine eg (L:=λi2 s2=>(mP Pf) l true s (i:Int) x true true s2 i2) (len:=x.If.length) (λ_ _=>True) (λi2 s2 hi2 _ k2=>?_) (λs2 _=>?_) 0 s (by omega) trivial
   ·show ag ((mP Pf) l true s (i:Int) x true true s2 i2) _;obtain⟨z,hz⟩:=bh hi2;rw[Ae,ph,cj,aY];have:decide (i2<x.If.length)=true:=by simpa using hi2
    rw[this,aV,bj hz,aw,tZ _ _ (by omega),aw,bP i2 (by have:=hxo.1.1;omega),r3' z (bw hz)];exact ag.bif (λh=>by cases h) (λ_=>k2 s2 trivial)
   ·show ag ((mP Pf) l true s (i:Int) x true true s2 x.If.length) _;rw[Ae,ph,cj,aY];have:decide (x.If.length<x.If.length)=false:=by simp
    rw[this,bp,bP i (by omega)];exact k s2 trivial
  ·show ag ((mQ Pf) l true s l.aZ.length) _;rw[Af,pj,aU.aD,aY];have:decide (l.aZ.length<l.aZ.length)=false:=by simp
   rw[this];exact ag.ret rfl
theorem XM {l:ah} (hl:l.ok B) {d b:Int} (hd:d<=6) (hb:b<64) (h1:eV l) (h2:mm l) (h3:na l) (h4: -1000000000<=l.Lo/\l.Lo<=l.Hi/\l.Hi<=1000000000) (h5:l.Kind=7->∃p,l.ax[0]? =some p/\kP p):(f90 Pf) l d b=some 0:=by
 refine ag.of ?_;rw[TR,uU];simp only[cj,aU.aD,WV h1,WX hB hl h3,aw];unfold mm at h2;have n1:¬d>6:=by omega
 have n2:¬b>=64:=by omega
 have n3:¬l.Lo>l.Hi:=by omega
 have n4:¬l.Lo< -1000000000:=by omega
 have n5:¬l.Hi>1000000000:=by omega
 have n6:¬(l.aZ.length:Int)>32:=by omega
 refine ag.bif (λk6=>?_) (λk6=>ag.bif (λk10=>?_) (λk10=>?_))
 ·have k:l.Kind=6:=by simpa using k6
  rw[k,dj rfl]at h2;have n7:¬(l.Names.length:Int)>8:=by omega
  simp[n1,n2,n3,n4,n5,n6,n7,k,ag]
 ·have k:l.Kind=10:=by simpa using k10
  rw[k,cM (by decide),dj rfl]at h2;have n7:¬(l.Names.length:Int)>12:=by omega
  simp[n1,n2,n3,n4,n5,n6,n7,k,ag]
 ·have k1:l.Kind≠6:=by simpa using k6
  have k2:l.Kind≠10:=by simpa using k10
  rw[cM k1,cM k2]at h2;have n7:¬(l.Names.length:Int)>32:=by omega
  by_cases k7:l.Kind=7
  ·obtain⟨p,hp,hc⟩:=h5 k7;have e0:au l.ax 0=some p:=hp;simp[n1,n2,n3,n4,n5,n6,n7,k7,e0,WW hc,ag]
  ·have e7:(l.Kind==7)=false:=by simpa using k7
   rw[e7];simp[n1,n2,n3,n4,n5,n6,n7,ag]
theorem XN:∀(l:ah),ln l->∀(d b:Int),l.ok B->0<=b->0<=d->b+jj l<=64->d+iK l<=7->(f46 Pf) l d b=some (b+jj l,0):=by
 refine aaJ (λl ih hL d b hl h0 hd0 hc hd=>?_);have hL':=hL;cases hL' with
 |mk h1 h2 h3 h4 h5 h6=>
 rw[te]at hc⊢;rw[qL]at hd;refine ag.of ?_;rw[TU,uV,XM hB hl (by omega) (by omega) h1 h2 h3 h4 h5,aw];refine ag.bif (λh=>by cases h) (λ_=>?_);have hw:IntKind.i64.wrap (b+1)=b+1:=wrap64 (by omega) (by omega);have hwd:IntKind.i64.wrap (d+1)=d+1:=wrap64 (by omega) (by omega);rw[hw];have hl':=hl;rw[ah.c8]at hl';obtain⟨_,_,_,_,⟨hpl,hp⟩,_⟩:=hl';refine eg (L:=λi s=>(mW Pf) l d s i) (len:=l.ax.length) (λi s=>s=b+1+eX (l.ax.take i)) (λi s hi hI k=>?_) (λs hI=>?_) 0 (b+1) (by omega) (by simp[eX])
 ·show ag ((mW Pf) l d s i) _;obtain⟨x,hx⟩:=bh hi;have hm:=bw hx;have t1:=yM hx;have t2:=JQ (ps:=l.ax) (i+1);have t3:=zh hm;rw[AB,pD,ah.aD,aY];have:decide (i<l.ax.length)=true:=by simpa using hi
  rw[this,aV,bj hx,aw,bP i (by omega),hwd,ih x hm (h6 x hm) (d+1) s (ah.iS hp hm) (by omega) (by omega) (by omega) (by omega),aw];refine ag.bif (λh=>by cases h) (λ_=>k _ ?_);show s+jj x=_;omega
 ·show ag ((mW Pf) l d s l.ax.length) _;rw[AB,pD,ah.aD,aY];have:decide (l.ax.length<l.ax.length)=false:=by simp
  rw[this,bp];rw[jW]at hI;refine ag.ret ?_;rw[hI];congr 1;omega
theorem KI {l:ah} (hl:l.ok B):ag ((f15 Pf) l) (λr=>r=0↔dw l):=by
 obtain⟨r,e,h⟩:=VY hB hl;refine⟨r,e,h,λg=>?_⟩;rw[TV,uW,XN hB l g.i 1 0 hl (by simp) (by simp) (by have:=g.eT;omega) (by have:=g.dep;omega)]at e;cases e;rfl
end
def G2 (B:Nat) (n:ab):Prop:=WN B n/\CN n
section
variable {B:Nat}
theorem wk {n:ab} (h51:n.Kind≠51) (hs:dJ n) (hl:n.Kids.length<=B) (h44:n.Kind=44-> -1000000000000000<=n.N/\n.N<=1000000000000000) (h47:n.Kind=47->NV n.Text) (hk:∀k∈n.Kids,G2 B k):G2 B n:=by
 have e:fh n=n.Kids:=nb h51;exact⟨.mk hs hl h44 h47 (by rw[e];exactλk hm=>(hk k hm).1),.mk (λh=>absurd h h51) (by rw[e];exactλk hm=>(hk k hm).2)⟩
theorem ZQ {s:List UInt8} {a:Int} {l:List ab} (hs:s∈kx) (h1:s≠dC) (h2:s≠dg) (hl:l.length<=B) (hk:∀k∈l,G2 B k):G2 B ⟨51,s,0,a,l⟩:=by
 have e:fh ⟨51,s,0,a,l⟩=l:=AT h1 h2;exact⟨.mk (.inr (.inr (.inr (.inr ⟨rfl,λe=>absurd e h1,λe=>absurd e h2⟩)))) hl (λe=>by simp at e) (λe=>by simp at e) (by rw[e];exactλk hm=>(hk k hm).1),.mk (λ_=>hs) (by rw[e];exactλk hm=>(hk k hm).2)⟩
theorem Ql {s:List UInt8} {a:Int} {l:List ab} (hs:s=dC\/s=dg) (hl:l.length<=B) (h1:s=dC->∀e∈l,e.Kids.length=2) (h2:s=dg->∀e∈l,e.Kids.length=1) (hk:∀e∈l,∀k∈e.Kids,G2 B k):G2 B ⟨51,s,0,a,l⟩:=by
 have e:fh ⟨51,s,0,a,l⟩=l.flatMap (·.Kids):=wH rfl hs;have all:∀k∈fh ⟨51,s,0,a,l⟩,G2 B k:=by
  rw[e];intro k hm;obtain⟨x,g1,g2⟩:=ef.1 hm;exact hk x g1 k g2
 exact⟨.mk (.inr (.inr (.inr (.inr ⟨rfl,h1,h2⟩)))) hl (λe=>by simp at e) (λe=>by simp at e) (λk hm=>(all k hm).1),.mk (λ_=>by rcases hs with h|h<;>(show s∈kx;rw[h];decide)) (λk hm=>(all k hm).2)⟩
theorem V1 (op:Int):ag ((f173 Pf) op) (λr=>r≠0->31<=r/\r<=43/\r≠33/\r≠42):=by
 rw[wV,oh]
 repeat' (first|refine ag.bif (λ_=>?_) (λ_=>?_)|refine ag.ret ?_)
 all_goals decide
variable (hB:B<=1048576) {ps:List TParam}
include hB
theorem XO {y:ae} {ns:List ab} {t:List UInt8} (ht:t=dC) (hl:ns.length<=B) (hk:∀k∈ns,G2 B k):ag ((lT Pf) y ns t 0 []) (λr=>r.2=true->G2 B r.1):=by
 have key:∀m i:Nat,ns.length<=i+m->i<=ns.length->∀b:List ab,b.length<=i->b.length<=B->(∀e∈b,e.Kids.length=2/\∀k∈e.Kids,G2 B k)->ag ((lT Pf) y ns t (i:Int) b) (λr=>r.2=true->G2 B r.1):=by
  intro m
  induction m using Nat.strongRecOn with
  |_ m im=>
   intro i hi hil b hb hbB hI;by_cases hlt:i+1<ns.length
   ·rw[Ag,pk,ab.aD,bP i (by omega),aY];have:decide (i+1<ns.length)=true:=by simpa using hlt
    obtain⟨p,hp⟩:=bh (by omega:i<ns.length);obtain⟨q,hq⟩:=bh hlt;have e2:IntKind.i64.wrap ((i:Int)+2)=((i+2:Nat):Int):=by rw[wrap64 (by omega) (by omega)];omega
    rw[this,aV,bj hp,aw,aw,bj hq,aw,e2];refine ag.bif (λ_=>?_) (λh=>by simp at h;omega);refine im (m-2) (by omega) (i+2) (by omega) (by omega) _ (by simp;omega) (by simp;omega) (λe he=>?_);rcases cJ.1 he with he|he
    ·exact hI e he
    ·simp at he;subst he;refine⟨rfl,λk hm=>?_⟩;simp at hm;rcases hm with rfl|rfl
     ·exact hk _ (bw hp)
     ·exact hk _ (bw hq)
   ·rw[Ag,pk,ab.aD,wrap64 (by omega) (by omega)];refine ag.bif (λh=>by simp at h;omega) (λ_=>ag.ret λ_=>?_);exact Ql (.inl ht) hbB (λ_ e he=>(hI e he).1) (λe=>by rw[ht]at e;exact absurd e (by decide)) (λe he=>(hI e he).2)
 exact key ns.length 0 (by omega) (by omega) [] (by simp) (by simp) (by simp)
theorem XP {y:ae} {ns:List ab} {t:List UInt8} (ht:t=dg) (he:y.ai.aj.Names.length=ns.length) (hl:ns.length<=B) (hk:∀k∈ns,G2 B k):ag ((jA Pf) y ns t ns 0) (λr=>r.2=true->G2 B r.1):=by
 have h:=eg (L:=λi (b:List ab)=>(jA Pf) y ns t b i) (P:=λr=>r.2=true->G2 B r.1) (len:=ns.length) (λi b=>b.length=ns.length/\(∀(j:Nat) e,j<i->b[j]? =some e->e.Kids.length=1/\∀k∈e.Kids,G2 B k)/\∀(j:Nat) e,i<=j->b[j]? =some e->G2 B e) (λi b hi hI k=>by
   show ag ((jA Pf) y ns t b _) _;obtain⟨x,hx⟩:=bh (l:=b) (i:=i) (by rw[hI.1];exact hi);obtain⟨s,hs⟩:=bh (l:=y.ai.aj.Names) (i:=i) (by omega);rw[Ah,pn,ab.aD,aY];have:decide (i<ns.length)=true:=by simpa using hi
   rw[this,aV,bj hs,aw,bj hx,aw,aw,fj,bP i (by omega)];have hxg:=hI.2.2 i x (bQ _) hx;refine k _ ⟨by simp[hI.1],λj e hj h=>?_,λj e hj h=>?_⟩
   ·by_cases ej:j=i
    ·subst ej;rw[mA (by rw[hI.1];exact hi)]at h;cases h;exact⟨rfl,by simp;exact hxg⟩
    ·rw[jX (by omega)]at h;exact hI.2.1 j e (by omega) h
   ·rw[jX (by omega)]at h;exact hI.2.2 j e (by omega) h) (λb hI=>by
   show ag ((jA Pf) y ns t b _) _;rw[Ah,pn,ab.aD,aY];have:decide (ns.length<ns.length)=false:=by simp
   rw[this,bp];have all:∀e∈b,e.Kids.length=1/\∀k∈e.Kids,G2 B k:=λe hm=>by
    obtain⟨j,hj⟩:=gr hm;exact hI.2.1 j e (by rw[<-hI.1];exact(cr.1 hj).1) hj
   exact ag.ret λ_=>Ql (.inr ht) (by rw[hI.1];exact hl) (λe=>by rw[ht]at e;exact absurd e (by decide)) (λ_ e hm=>(all e hm).1) (λe hm=>(all e hm).2)) 0 ns (by omega) ⟨rfl,λj e hj=>by omega,λj e _ h=>hk e (bw h)⟩
 exact h
theorem WB:∀x:ae,x.ok B->ag ((f104 Pf) ps x) (λr=>r.2=true->G2 B r.1):=by
 refine ae.ind λx ih hx=>?_;rw[ae.c8]at hx;obtain⟨_,_,_,ht,_,hkl,hkk⟩:=hx;have no:∀n:ab,ag (some (n,false)) (λr=>r.2=true->G2 B r.1):=λn=>ag.ret λe=>by cases e
 rw[GQ,pT];have h:=eg (L:=λi (b:List ab)=>(iC Pf) ps x false i b) (P:=λr=>r.2=true->G2 B r.1) (len:=x.Kids.length) (λi b=>b.length=i/\∀k∈b,G2 B k) (λi b hi hI k=>by
   show ag ((iC Pf) ps x false i b) _;rw[DF,qB,p6,ae.aD,aY];have:decide (i<x.Kids.length)=true:=by simpa using hi
   obtain⟨p,hp⟩:=bh hi;have hm:=bw hp;rw[this,aV,bj hp,aw];refine ag.bind (ih p hm (ae.iS hkk hm)) (λy hy=>?_);refine ag.bif (λ_=>no _) (λh1=>?_);have hlen:decide ((b++[y.1]).length<=274877906944)=true:=by simp;omega
   rw[hlen,aV,bP i (by omega)];refine k _ ⟨by simp[hI.1],λz hz=>?_⟩;rcases cJ.1 hz with hz|hz
   ·exact hI.2 z hz
   ·simp at hz;subst hz;exact hy (by simpa using h1)) (λb hI=>by
   show ag ((iC Pf) ps x false (x.Kids.length:Int) b) _;rw[gU];have hbl:b.length<=B:=by omega
   have leafG:∀{n:ab},44<=n.Kind/\n.Kind<=50->n.Kids=b->(n.Kind=44-> -1000000000000000<=n.N/\n.N<=1000000000000000)->(n.Kind=47->NV n.Text)->G2 B n:=λ{n} h hk h1 h2=>wk (by omega) (.inr (.inr (.inr (.inl h)))) (by rw[hk];exact hbl) h1 h2 (by rw[hk];exact hI.2);refine ag.bind (V1 x.Op) (λkd hkd=>ag.bif (λh0=>ag.ret λe2=>?_) (λ_=>?_))
   ·have hkd:=hkd (by simpa using h0);have e2:b.length=2:=by have:((b.length:Int)==2)=true:=e2;simp at this;omega
    exact wk (by show kd≠51;omega) (.inr (.inr (.inl ⟨⟨hkd.1,hkd.2.1,hkd.2.2⟩,e2⟩))) hbl (λe=>by have e:kd=44:=e;omega) (λe=>by have e:kd=47:=e;omega) hI.2
   obtain⟨s,_,es,hs,hmap,hrec⟩:=WJ x.Op;rw[es,aw];refine ag.bif (λhne=>?_) (λ_=>?_)
   ·have hsN:s∈kx:=by
     rcases hs with h|h
     ·rw[h]at hne;cases hne
     ·exact h
    refine ag.bif (λh24=>?_) (λh24=>?_)
    ·exact XO hB (hmap.2 (by simpa using h24)) hbl hI.2
    refine ag.bif (λh25=>?_) (λh25=>?_)
    ·refine ag.bif (λ_=>no _) (λhn=>?_);exact XP hB (hrec.2 (by simpa using h25)) (by simp at hn;omega) hbl hI.2
    ·exact ag.ret λ_=>ZQ hsN (λe=>by have:=hmap.1 e;simp at h24;omega) (λe=>by have:=hrec.1 e;simp at h25;omega) hbl hI.2
   refine ag.bif (λ_=>?_) (λ_=>?_)
   ·refine ag.bif (λh0=>ag.bif (λh1=>ag.ret λh2=>?_) (λ_=>no _)) (λ_=>no _);have h2:decide (x.N<=1000000000000000)=true:=h2;simp at h1 h2;exact leafG (by simp) rfl (λ_=>⟨h1,h2⟩) (λe=>by simp at e)
   refine ag.bif (λ_=>?_) (λ_=>?_)
   ·exact ag.bif (λ_=>ag.ret λ_=>leafG (by simp) rfl (λe=>by simp at e) (λe=>by simp at e)) (λ_=>ag.ret λ_=>leafG (by simp) rfl (λe=>by simp at e) (λe=>by simp at e))
   refine ag.bif (λ_=>?_) (λ_=>?_)
   ·refine ag.bif (λ_=>?_) (λ_=>no _);rw[sF _ (by omega),aw];exact ag.ret λh=>leafG (by simp) rfl (λe=>by simp at e) (λ_=>Au.1 h)
   refine ag.bif (λ_=>?_) (λ_=>?_)
   ·refine ag.bif (λ_=>no _) (λh1=>ag.bif (λ_=>no _) (λh2=>?_));refine ag.bind (ag.idx (by simpa using h1) (by simpa using h2)) (λy _=>ag.ret λ_=>leafG (by simp) rfl (λe=>by simp at e) (λe=>by simp at e))
   refine ag.bif (λ_=>ag.ret λ_=>leafG (by simp) rfl (λe=>by simp at e) (λe=>by simp at e)) (λ_=>?_);refine ag.bif (λ_=>ag.ret λ_=>leafG (by simp) rfl (λe=>by simp at e) (λe=>by simp at e)) (λ_=>?_);refine ag.bif (λ_=>ag.ret λe=>?_) (λ_=>?_)
   ·have e:b.length=3:=by have:((b.length:Int)==3)=true:=e;simp at this;omega
    exact wk (by simp) (.inl ⟨rfl,e⟩) hbl (λe=>by simp at e) (λe=>by simp at e) hI.2
   refine ag.bif (λ_=>ag.ret λe=>?_) (λ_=>?_)
   ·have e:b.length=1:=by have:((b.length:Int)==1)=true:=e;simp at this;omega
    exact wk (by simp) (.inr (.inl ⟨.inl rfl,e⟩)) hbl (λe=>by simp at e) (λe=>by simp at e) hI.2
   refine ag.bif (λ_=>?_) (λ_=>no _);refine ag.bif (λ_=>no _) (λh1=>ag.bif (λ_=>no _) (λh2=>?_));have h1:b.length=1:=by simp at h1;omega
   obtain⟨p,hp⟩:=bh (l:=x.Kids) (i:=0) (by omega);have e0:au x.Kids 0=some p:=hp;rw[e0,aw,aw];refine ag.bif (λ_=>no _) (λh3=>?_);refine ag.bind (ag.idx (by simpa using h2) (by simpa using h3)) (λy _=>ag.ret λ_=>?_);exact wk (by simp) (.inr (.inl ⟨.inr rfl,h1⟩)) hbl (λe=>by simp at e) (λe=>by simp at e) hI.2) 0 [] (by omega) ⟨rfl,by simp⟩
 simpa using h
end
def VX (l:ah) (f:bl):Prop:=dw l/\oc f/\W l f.Params f.Body (kz l f)
theorem oc.Ug {f:bl} (h:oc f):∀(i j:Nat) p q,f.Params[i]? =some p->f.Params[j]? =some q->p.Name=q.Name->i=j:=by
 intro i j p q hi hj e;rcases JH i j with g|g|g
 ·exact absurd e ((h.2.2.2.2.2 j q hj).2.2.2 i p g hi)
 ·exact g
 ·exact absurd e.symm ((h.2.2.2.2.2 i p hi).2.2.2 j q g hj)
section
variable {B:Nat} (hB:B<=1048576)
include hB
theorem Wz {f:bl} (hf:f.ok B) (h:oc f):(f61 Pf) f=some true:=by
 obtain⟨hn,ho,⟨hpl,hp⟩,_,hb⟩:=hf;obtain⟨f1,f2,f3,f4,f5,f6⟩:=h;refine ag.of ?_;rw[TM,uN,lN _ (by omega),lN _ (by omega),TParam.aD,f1,f2];simp only[aw];refine ag.bif (λh=>by cases h) (λ_=>ag.bif (λh=>by cases h) (λ_=>?_));refine ag.bif (λh=>by simp at h;omega) (λ_=>ag.bif (λh=>by simp at h;omega) (λ_=>ag.bif (λh=>by simp at h;omega) (λ_=>?_)));have h:=kS (L:=λi=>(mU Pf) f i) (P:=(·=true)) (len:=f.Params.length) (λ_=>True) (λi hi _ k=>by
  show ag ((mU Pf) f i) _;obtain⟨x,hx⟩:=bh hi;obtain⟨x1,x2,x3,x4⟩:=f6 i x hx;have hd:((f.Params.take i).any λq:TParam=>q.Name==x.Name)=false:=by
   rw[va];intro q hq e;obtain⟨j,hj⟩:=gr hq;have hji:j<i:=by have:=(cr.1 hj).1;rw[gT]at this;omega
   rw[Cj hji]at hj;exact x4 j q hji hj (by simpa using e)
  rw[Ax,pz,TParam.aD,aY];have:decide (i<f.Params.length)=true:=by simpa using hi
  rw[this,aV,bj hx,aw,lN _ (by have:=(hp x (bw hx)).1;omega),aw,tc (by omega),aw,PB _ _ (by rw[gT];omega),aw,bP i (by omega),x1,hd];refine ag.bif (λh=>by cases h) (λ_=>ag.bif (λh=>by simp at h;omega) (λ_=>ag.bif (λh=>by simp at h;omega) (λ_=>ag.bif (λh=>by cases h) (λ_=>k trivial))))) (λ_=>by
  show ag ((mU Pf) f _) _;rw[Ax,pz,TParam.aD,aY];have:decide (f.Params.length<f.Params.length)=false:=by simp
  rw[this];exact ag.ret rfl) 0 (by omega) trivial
 exact h
theorem VX.ce {l:ah} {f:bl} (hl:l.ok B) (hf:f.ok B) (h:VX l f):CE B ⟨l,f.Params⟩/\bY B (kz l f)/\TT B f.Body:=by
 have hce:CE B ⟨l,f.Params⟩:=⟨h.1,hl,λp hm=>by
  obtain⟨i,hi⟩:=gr hm;have:=h.2.1.2.2.2.2.2 i p hi;exact⟨this.2.1,this.2.2.1⟩,hf.2.2.1.1⟩
 have hww:bY B (kz l f):=by
  unfold kz;cases h':f.Result==0 with
  |true=>exact .inr (bq.of h.1 hl)
  |false=>
   have h0:f.Result≠0:=by simpa using h'
   have:=h.2.1.2.2.2;exact .inr (bq.sort (by omega))
 exact⟨hce,hww,W.tt hce h.2.2 hww⟩
theorem Wx {l:ah} {f:bl} (hl:l.ok B) (hf:f.ok B):ag ((f25 Pf) l f) (λr=>r=true↔VX l f):=by
 obtain⟨r,e,h⟩:=WA hB hl hf;refine⟨r,e,λg=>⟨(h g).ce.dy,(h g).form,(h g).body⟩,λg=>?_⟩;obtain⟨hce,hww,htt⟩:=g.ce hB hl hf;obtain⟨n,hn,hbr⟩:=(PC hce f.Body _ hww g.2.2).1;have hel:=(PD hB hce g.2.1.Ug f.Body _ n hww g.2.2 hbr).eq;have hE:(f18 Pf) l f.Params (kz l f) n=some (f.Body,⟨0,0⟩):=by rw[TN,uS,hel];rfl
 have hb:=hf.2.2.2.2;have:(f25 Pf) l f=some true:=by
  refine ag.of ?_;rw[TO,uT,L7 (by omega) hl g.1,Wz hB hf g.2.1,hn,NK];refine ag.aB rfl (ag.bif (λh=>by cases h) (λ_=>ag.aB rfl (ag.bif (λh=>by cases h) (λ_=>ag.aB rfl (ag.bif (λh=>by cases h) (λ_=>?_))))));refine ag.aB rfl (ag.aB hE ?_);refine ag.bif (λ_=>?_) (λh=>(by simp at h));rw[L8 hB f.Body htt f.Body hb];exact ag.ret (by simp[dO])
 rw[this]at e;cases e;rfl
theorem VL {l:ah} {f:bl} (hl:l.ok B) (hf:f.ok B):ag ((f60 Pf) l f) (λr=>r=true↔VX l f):=by
 have hf':=hf;obtain⟨hn,ho,⟨hpl,hp⟩,_,hb⟩:=hf';have no:¬VX l f->ag (some false) (λr=>r=true↔VX l f):=λh=>ag.ret ⟨λe=>(by cases e),λe=>absurd e h⟩;rw[e60,xr,p6,sF _ (by omega),sF _ (by omega),TParam.aD];refine ag.bind (KI (by omega) hl) (λy1 h1=>?_);refine ag.bif (λg=>no λh=>?_) (λg1=>?_)
 ·rw[h1.2 h.1]at g;cases g
 have hlat:=h1.1 (by simpa using g1);refine ag.aB rfl (ag.bif (λg=>no λh=>?_) (λg2=>ag.aB rfl (ag.bif (λg=>no λh=>?_) (λg3=>?_))))
 ·rw[h.2.1.1]at g;cases g
 ·rw[h.2.1.2.1]at g;cases g
 refine ag.bif (λg=>no λh=>?_) (λg4=>ag.bif (λg=>no λh=>?_) (λg5=>ag.bif (λg=>no λh=>?_) (λg6=>?_)))
 ·have:=h.2.1.2.2.1;simp at g;omega
 ·have:=h.2.1.2.2.2.1;simp at g;omega
 ·have:=h.2.1.2.2.2.2.1;simp at g;omega
 have g4:f.Params.length<=8:=by simp at g4;omega
 refine eg (L:=λi s=>(qR Pf) l f s i) (len:=f.Params.length) (λi s=>s=(f.Params.take i).map (·.Name)/\∀(k:Nat) p,k<i->f.Params[k]? =some p->ek p.Name=true/\1<=p.aP/\p.aP<=4/\∀(j:Nat) q,j<k->f.Params[j]? =some q->q.Name≠p.Name) (λi s hi hI k=>?_) (λs hI=>?_) 0 [] (by omega) ⟨by simp,λk p hk=>by omega⟩
 ·show ag ((qR Pf) l f s i) _;obtain⟨x,hx⟩:=bh hi;have hsl:s.length=i:=by rw[hI.1,jt,gT];omega
  rw[N3,tH,p6,TParam.aD,aY];have:decide (i<f.Params.length)=true:=by simpa using hi
  rw[this,aV,bj hx,aw,sF _ (by have:=(hp x (bw hx)).1;omega),aw,bP i (by omega)];refine ag.bif (λg=>no λh=>?_) (λk1=>ag.aB rfl ?_)
  ·rw[(h.2.1.2.2.2.2.2 i x hx).1]at g;cases g
  rw[Ek _ _ (by omega),aw];refine ag.bif (λg=>no λh=>?_) (λk2=>?_)
  ·obtain⟨y,hy,e⟩:=ka.1 g;rw[hI.1]at hy;obtain⟨q,hq,rfl⟩:=cP.1 hy;obtain⟨j,hj⟩:=gr hq;have hji:j<i:=by have:=(cr.1 hj).1;rw[gT]at this;omega
   rw[Cj hji]at hj;exact(h.2.1.2.2.2.2.2 i x hx).2.2.2 j q hji hj (by simpa using e)
  refine ag.aB rfl (ag.bif (λg=>no λh=>?_) (λk3=>ag.aB rfl (ag.bif (λg=>no λh=>?_) (λk4=>ag.aB rfl ?_))))
  ·have:=(h.2.1.2.2.2.2.2 i x hx).2.1;simp at g;omega
  ·have:=(h.2.1.2.2.2.2.2 i x hx).2.2.1;simp at g;omega
  have hlen:decide ((s++[x.Name]).length<=274877906944)=true:=by simp;omega
  rw[hlen,aV];refine k _ ⟨by rw[hI.1,<-lK hx,oQ];rfl,λm p hm hp'=>?_⟩;rcases iQ.1 hm with h5|rfl
  ·exact hI.2 m p h5 hp'
  ·rw[hx]at hp';cases hp';refine⟨by simpa using k1,by simp at k3;omega,by simp at k4;omega,λj q hj hq e=>?_⟩;rw[va]at k2;refine k2 q.Name ?_ (by simpa using e);rw[hI.1];exact cP.2 ⟨q,bw (i:=j) (by rw[Cj hj];exact hq),rfl⟩
 ·show ag ((qR Pf) l f s _) _;rw[N3,tH,p6,TParam.aD,aY];have:decide (f.Params.length<f.Params.length)=false:=by simp
  rw[this,bp,cY,lA,aw];have hform:oc f:=⟨by simpa using g2,by simpa using g3,g4,by simp at g5;omega,by simp at g6;omega,λi p hp=>hI.2 i p (cr.1 hp).1 hp⟩;have hce:CE B ⟨l,f.Params⟩:=⟨hlat,hl,λp hm=>by
   obtain⟨i,hi⟩:=gr hm;have:=hform.2.2.2.2.2 i p hi;exact⟨this.2.1,this.2.2.1⟩,hpl⟩
  have tail:∀w:az,w=kz l f->bY B w->ag (((f104 Pf) f.Params f.Body).bind λy33=>(bif !y33.snd then(some (false))else(((f19 Pf) l f.Params w y33.fst).bind λy35=>(bif y35.snd.Code==0 then(((f20 Pf) y35.fst f.Body).bind λy37=>(some (y37)))else(some (false)))))) (λr=>r=true↔VX l f):=by
   intro w hw hww;refine ag.bind ((WB hB (ps:=f.Params) f.Body hb).self) (λy hy=>?_);obtain⟨hy1,hy2⟩:=hy;have get:VX l f->∃n,y=(n,true)/\(f48 Pf) ⟨l,f.Params⟩ n w=some (.ret f.Body):=λh=>by
    obtain⟨n,hn,hbr⟩:=(PC hce f.Body _ hww (hw▸h.2.2)).2;have hn:(f104 Pf) f.Params f.Body=some (n,true):=hn;rw[hn]at hy1;cases hy1;exact⟨n,rfl,(PD hB hce hform.Ug f.Body _ n hww (hw▸h.2.2) hbr).eq⟩
   refine ag.bif (λg=>no λh=>?_) (λg=>?_)
   ·obtain⟨n,rfl,_⟩:=get h;cases g
   have hg:=hy2 (by simpa using g);have hre:=Ys hB hce hg.1 hg.2 w hww;have hE:∀o,(f49 Pf) ⟨l,f.Params⟩ y.1 w=some o->(f19 Pf) l f.Params w y.1=some o:=λo h=>by
    rw[e19,xp,h];rfl
   rcases hre with⟨u,z,⟨rfl,hep⟩,e1,e2⟩|⟨a,b,z,ha,e1,e2⟩
   ·rw[hE _ e2,aw];refine ag.bif (λ_=>?_) (λh=>(by simp at h));rw[VO hB z (W.tt hce hep.2.2.2 hww) f.Body hb,aw];refine ag.ret ⟨λe=>⟨hlat,hform,?_⟩,λh=>?_⟩
    ·have e:=qK.1 e;rw[<-hw,<-e];exact hep.2.2.2
    ·obtain⟨n,rfl,he⟩:=get h;have e1:(f48 Pf) ⟨l,f.Params⟩ n w=some (.ret z):=e1;rw[he]at e1;cases e1;simp[dO]
   ·rw[hE _ e2,aw];refine ag.bif (λg=>absurd (by simpa using g) ha) (λ_=>no λh=>?_);obtain⟨n,rfl,he⟩:=get h;have e1:(f48 Pf) ⟨l,f.Params⟩ n w=some (.aO (FF a b)):=e1;rw[he]at e1;cases e1
  refine ag.bif (λh0=>?_) (λh0=>?_)
  ·rw[aw];exact tail (b7 l) (by rw[kz,h0];rfl) (.inr (bq.of hlat hl))
  ·refine tail (aL f.Result) (by rw[kz,h0];rfl) (.inr (bq.sort ?_));have:=hform.2.2.2;simp at h0;omega
