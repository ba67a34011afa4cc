/- Both bare trees of a well-typed expression are trees of it: the theorem. -/
import Derived.Test.YtnocmolegijmkaaGreatKRv
import Derived.Test.YtnocmolegijmkaaGreatKVa9
import Derived.Test.YtnocmolegijmkaaGreatKRb
set_option linter.all false
namespace Go.Proofs.YtnocmolegijmkaaGreat
open Go Go.Bw
section
variable {B:Nat} {c:bm} (hc:CE B c)
def BB (ps:List TParam) (y:ab):Prop:=(∃n,(mc Pu) ps y=some (n,true)/\Br ps y n)/\∃n,(oc Pu) ps y=some (n,true)/\Br ps y n
theorem jc {ps:List TParam} {y:ab} (hlf:y.Kids≠[]\/(y.Op≠1/\y.Op≠2/\y.Op≠3/\y.Op≠4)) (hlen:y.Kids.length<=2097152) (ih:∀k∈y.Kids,BB ps k) (ha:∀ns:List af,y.Kids.length=ns.length->(∀(i:Nat) k n,y.Kids[i]? =some k->ns[i]? =some n->Br ps k n)->KG ps y ns/\J2 ps y ns):BB ps y:=by
 obtain⟨ns,h1,h2⟩:=BI (l:=y.Kids) λk hk=>(ih k hk).1;obtain⟨ms,g1,g2⟩:=BI (l:=y.Kids) λk hk=>(ih k hk).2;exact⟨Q5 hlf hlen h1 (λi k n e f=>(h2 i k n e f).1) (ha ns h1 λi k n e f=>(h2 i k n e f).2).1,Qa hlen g1 (λi k n e f=>(g2 i k n e f).1) (ha ms g1 λi k n e f=>(g2 i k n e f).2).2⟩
theorem kR {ps:List TParam} {op:Int} {t:ay} {a:Int} {x y:ab} (hm:∃kd,(op,kd)∈dS) (ih:∀k∈[x,y],BB ps k):BB ps ⟨op,t,0,[],a,[x,y]⟩:=by
 obtain⟨kd,hm⟩:=hm;obtain⟨o1,o2,o3,o4,_⟩:=Q6 _ hm;refine jc (.inl (by simp)) (by simp) ih (λns hl h=>?_);obtain⟨x',y',rfl⟩:=kY (l:=ns) (by simpa using hl.symm);have hb:Br ps ⟨op,t,0,[],a,[x,y]⟩ ⟨kd,[],0,a,[x',y']⟩:= .two hm (h 0 _ _ rfl rfl) (h 1 _ _ rfl rfl);exact⟨⟨_,oE o1 o3 o4 rfl,hb⟩,⟨_,OB o2 o3 rfl,hb⟩⟩
theorem oS {ps:List TParam} {op:Int} {t:ay} {a:Int} {x:ab} (hm:∃s,(op,s)∈eg) (ih:∀k∈[x],BB ps k):BB ps ⟨op,t,0,[],a,[x]⟩:=by
 obtain⟨s,hm⟩:=hm;obtain⟨o1,o2,o3,o4,o5,o6,o7⟩:=Q7 _ hm;refine jc (.inl (by simp)) (by simp) ih (λns hl h=>?_);obtain⟨x',rfl⟩:=nM (l:=ns) (by simpa using hl.symm);have hb:Br ps ⟨op,t,0,[],a,[x]⟩ ⟨51,s,0,a,[x']⟩:= .jO hm (h 0 _ _ rfl rfl);exact⟨⟨_,vV o1 o2 o5 o6 o7,hb⟩,⟨_,vO o3 o4 o5 o6 o7,hb⟩⟩
include hc in
theorem R4:∀(y:ab) (w:ay),cS B w->W c.l c.params y w->BB c.params y:=by
 intro y w hw hW;have htt:=W.tt hc hW hw;have hkb:=hW.kb;clear hw;revert w;revert htt hkb;revert y;refine ab.ind λy ih htt hkb w hW=>?_;replace ih:∀k∈y.Kids,BB c.params k:=λk hk=>by
  obtain⟨w',h'⟩:=hW.kids k hk;have hkk:KB k:=by cases hkb with|mk _ h=>exact h k hk
  exact ih k hk (htt.fT hk) hkk w' h'
 have hlen:y.Kids.length<=2097152:=by cases hkb;assumption
 have lit:∀{op:Int},(op=1\/op=2\/op=3\/op=4\/op=5\/op=6\/op=7\/op=10\/op=19)->(jN Pu) op=some 0/\(eo Pu) op=some []:=λ{op} h=>Q8 op h;have lf:∀{y:ab} {n:af},(se Pu) c.params y=some (n,true)->(mc Pu) c.params y=some (n,true):=λh=>by rw[Fq,pN,h];rfl
 have rl:∀{y:ab} {n:af},y.Kids=[]->(jI Pu) c.params y false (y.Kids.length:Int) []=some (n,true)->(oc Pu) c.params y=some (n,true):=λ{y n} hk h=>by
  rw[MP,pR,<-h,hk];rfl
 cases hW with
 |int h1 h2 hf=>
  refine⟨⟨_,lf ?_,.int⟩,⟨_,rl rfl ?_,.int⟩⟩
  ·rw[pS,lj];rename_i n a;show(bif decide (-1000000000000000<=n)then(bif decide (n<=1000000000000000)then _ else _)else _)=_;rw[show decide (-1000000000000000<=n)=true by simpa using h1,show decide (n<=1000000000000000)=true by simpa using h2];rfl
  ·rename_i n a;rw[gK,(lit (op:=1) (by simp)).1,aE];show(((eo Pu) 1).bind _)=_;rw[(lit (op:=1) (by simp)).2,aE];show(bif decide (n>= -1000000000000000)then some (_,decide (n<=1000000000000000))else _)=_;rw[show decide (n>= -1000000000000000)=true by simpa using h1,show decide (n<=1000000000000000)=true by simpa using h2];rfl
 |bool h1 hf=>
  rename_i n a;rcases h1 with rfl|rfl
  ·refine⟨⟨_,lf ?_,.fl⟩,⟨_,rl rfl ?_,.fl⟩⟩
   ·rw[pS,lj];rfl
   ·rw[gK,(lit (op:=2) (by simp)).1,aE];show(((eo Pu) 2).bind _)=_;rw[(lit (op:=2) (by simp)).2];rfl
  ·refine⟨⟨_,lf ?_,.tr⟩,⟨_,rl rfl ?_,.tr⟩⟩
   ·rw[pS,lj];rfl
   ·rw[gK,(lit (op:=2) (by simp)).1,aE];show(((eo Pu) 2).bind _)=_;rw[(lit (op:=2) (by simp)).2];rfl
 |name h1 hf=>
  rename_i s a;have hs:=h1.1;refine⟨⟨_,lf ?_,.name⟩,⟨_,rl rfl ?_,.name⟩⟩
  ·rw[pS,lj];show(((mJ Pu) s).bind _)=_;rw[lE s (by omega),BF.2 h1];rfl
  ·rw[gK,(lit (op:=3) (by simp)).1,aE];show(((eo Pu) 3).bind _)=_;rw[(lit (op:=3) (by simp)).2,aE];show(((sj Pu) s).bind _)=_;rw[Pe s (by omega),BF.2 h1];rfl
 |param hp hf=>
  rename_i i p a;have hi:=(cX.1 hp).1;refine⟨⟨_,lf ?_,.param hp⟩,⟨_,rl rfl ?_,.param hp⟩⟩
  ·rw[pS,lj,TParam.aH];show(bif decide ((0:Int)<=(i:Int))then(bif decide ((i:Int)<(c.params.length:Int))then((aA c.params (i:Int)).bind λx14=>some ((⟨48,x14.Name,0,a,[]⟩:af),true))else some ((⟨0,[],0,a,[]⟩:af),false))else some ((⟨0,[],0,a,[]⟩:af),false))=_;rw[show decide ((0:Int)<=(i:Int))=true by simp,show decide ((i:Int)<(c.params.length:Int))=true by simpa using hi,bw hp];rfl
  ·rw[gK,(lit (op:=4) (by simp)).1,aE];show(((eo Pu) 4).bind _)=_;rw[(lit (op:=4) (by simp)).2,aE];show(bif decide ((i:Int)<0)then some ((⟨0,[],0,a,[]⟩:af),false)else(bif decide ((i:Int)>=(c.params.length:Int))then some ((⟨0,[],0,a,[]⟩:af),false)else((aA c.params (i:Int)).bind λx60=>some ((⟨48,x60.Name,0,a,[]⟩:af),true))))=_;rw[show decide ((i:Int)<0)=false by simp,show decide ((i:Int)>=(c.params.length:Int))=false by simpa using hi,bw hp];rfl
 |state hf=>
  refine jc (.inr (by simp)) hlen ih (λns hl h=>?_);have:ns=[]:=lv hl.symm;subst this;refine⟨⟨_,oE (kd:=49) (m:=0) (by rw[ll,iK];rfl) (by decide) (by decide) rfl,.state⟩,⟨_,?_,.state⟩⟩;rw[gK,(lit (op:=5) (by simp)).1,aE];show(((eo Pu) 5).bind _)=_;rw[(lit (op:=5) (by simp)).2];rfl
 |iq hs hn=>
  refine jc (.inr (by simp)) hlen ih (λns hl h=>?_);have:ns=[]:=lv hl.symm;subst this;refine⟨⟨_,oE (kd:=50) (m:=0) (by rw[ll,iK];rfl) (by decide) (by decide) rfl,.iq⟩,⟨_,?_,.iq⟩⟩;rw[gK,(lit (op:=6) (by simp)).1,aE];show(((eo Pu) 6).bind _)=_;rw[(lit (op:=6) (by simp)).2];rfl
 |not h1 hf=>
  refine jc (.inl (by simp)) hlen ih (λns hl h=>?_);obtain⟨x',rfl⟩:=nM (l:=ns) (by simpa using hl.symm);refine⟨⟨_,oE (kd:=33) (m:=1) (by rw[ll,iK];rfl) (by decide) (by decide) rfl,.not (h 0 _ _ rfl rfl)⟩,⟨_,?_,.not (h 0 _ _ rfl rfl)⟩⟩;rw[gK,(lit (op:=10) (by simp)).1,aE];show(((eo Pu) 10).bind _)=_;rw[(lit (op:=10) (by simp)).2];rfl
 |field h1 hs h6 hi hp hf=>
  rename_i x i p a;obtain⟨s,hn⟩:=bu hi;refine jc (.inl (by simp)) hlen ih (λns hl h=>?_);obtain⟨x',rfl⟩:=nM (l:=ns) (by simpa using hl.symm);refine⟨⟨_,?_,.field hn (h 0 _ _ rfl rfl)⟩,⟨_,?_,.field hn (h 0 _ _ rfl rfl)⟩⟩
  ·rw[sW];have ho:(jm Pu) 19=some (42,1):=by rw[ll,iK];rfl
   show(((jm Pu) 19).bind _)=_;rw[ho,aE];show(bif decide ((i:Int)<0)then some ((⟨42,[],0,a,[x']⟩:af),false)else(bif decide ((i:Int)>=(x.aq.aw.Names.length:Int))then some ((⟨42,[],0,a,[x']⟩:af),false)else((aA x.aq.aw.Names (i:Int)).bind λx26=>some ((⟨42,x26,0,a,[x']⟩:af),true))))=_;rw[show decide ((i:Int)<0)=false by simp,show decide ((i:Int)>=(x.aq.aw.Names.length:Int))=false by simpa using hi,bw hn];rfl
  ·rw[gK,(lit (op:=19) (by simp)).1,aE];show(((eo Pu) 19).bind _)=_;rw[(lit (op:=19) (by simp)).2,aE];show(bif decide ((i:Int)<0)then some ((⟨0,[],0,a,[x']⟩:af),false)else(bif decide ((i:Int)>=(x.aq.aw.Names.length:Int))then some ((⟨0,[],0,a,[x']⟩:af),false)else((aA x.aq.aw.Names (i:Int)).bind λx74=>some ((⟨42,x74,0,a,[x']⟩:af),true))))=_;rw[show decide ((i:Int)<0)=false by simp,show decide ((i:Int)>=(x.aq.aw.Names.length:Int))=false by simpa using hi,bw hn];rfl
 |pair h0 hk hp hq h1 h2=>
  obtain⟨o1,o2,o3,o4⟩:=tp 26 xU (by simp);refine jc (.inl (by simp)) hlen ih (λns hl h=>?_);obtain⟨x',y',rfl⟩:=kY (l:=ns) (by simpa using hl.symm);exact⟨⟨_,vV o1 o2 (by simp) (by simp) rfl,.pair (h 0 _ _ rfl rfl) (h 1 _ _ rfl rfl)⟩,⟨_,vO o3 o4 (by simp) (by simp) rfl,.pair (h 0 _ _ rfl rfl) (h 1 _ _ rfl rfl)⟩⟩
 |write h1 h2 h3 hf=>
  obtain⟨o1,o2,o3,o4⟩:=tp 28 xI (by simp);refine jc (.inl (by simp)) hlen ih (λns hl h=>?_);obtain⟨x',y',z',rfl⟩:=pd (l:=ns) (by simpa using hl.symm);exact⟨⟨_,vV o1 o2 (by simp) (by simp) rfl,.write (h 0 _ _ rfl rfl) (h 1 _ _ rfl rfl) (h 2 _ _ rfl rfl)⟩,⟨_,vO o3 o4 (by simp) (by simp) rfl,.write (h 0 _ _ rfl rfl) (h 1 _ _ rfl rfl) (h 2 _ _ rfl rfl)⟩⟩
 |gW h0 hk hn h1 hs=>
  obtain⟨o1,o2,o3,o4⟩:=tp 23 uX (by simp);refine jc (.inr (by simp)) hlen ih (λns hl h=>?_);exact⟨⟨_,vV o1 o2 (by simp) (by simp) rfl,.gW hl h⟩,⟨_,vO o3 o4 (by simp) (by simp) rfl,.gW hl h⟩⟩
 |map h0 hk hn hp h1 h2=>
  rename_i qs p a;obtain⟨o1,o2,o3,o4⟩:=tp 24 dR (by simp);refine jc (.inr (by simp)) hlen ih (λns hl h=>?_);have hl2:2*qs.length=ns.length:=by rw[<-hl];exact(mV qs).symm
  have e4:((ns.length:Int).tmod 2 !=0)=false:=by
   rw[Ng (by omega)];simp;omega
  refine⟨⟨_,?_,J3 (g:=λ_=>0) hl h⟩,⟨_,?_,J3 (g:=λx=>x.At) hl h⟩⟩
  ·rw[sW];show(((jm Pu) 24).bind _)=_;rw[o1,aE];show(((lk Pu) 24).bind _)=_;rw[o2,aE,e4];exact Qb (by omega) (by omega)
  ·rw[gK];show(((jN Pu) 24).bind _)=_;rw[o3,aE];show(((eo Pu) 24).bind _)=_;rw[o4,aE];exact Pg (by omega) (by omega)
 |gG h0 h6 hn hl' h1=>
  rename_i kids a;obtain⟨o1,o2,o3,o4⟩:=tp 25 dv (by simp);have hnm:w.aw.Names.length=kids.length:=by rw[hl',xG (htt.ty.eT h0).1 h6]
  refine jc (.inr (by simp)) hlen ih (λns hl h=>?_);have hln:w.aw.Names.length=ns.length:=hnm.trans hl;have e4:((w.aw.Names.length:Int) !=(ns.length:Int))=false:=by rw[hln];simp
  have hle:ns.length<=2097152:=by rw[<-hl];exact hlen
  refine⟨⟨_,?_,J4 (f:=λn=>!(n.Kind==50&&n.At==a)) (b:=0) hnm hl h (λn e=>by simpa using e)⟩,⟨_,?_,J4 (f:=λ_=>true) (b:=a) hnm hl h (λn e=>by cases e)⟩⟩
  ·rw[sW];show(((jm Pu) 25).bind _)=_;rw[o1,aE];show(((lk Pu) 25).bind _)=_;rw[o2,aE];show(bif (w.aw.Names.length:Int) !=(ns.length:Int)then some ((⟨51,dv,0,a,ns⟩:af),false)else(il Pu) ⟨25,w,0,[],a,kids⟩ ns dv [] 0)=_;rw[e4];exact Q9 hln hle
  ·rw[gK];show(((jN Pu) 25).bind _)=_;rw[o3,aE];show(((eo Pu) 25).bind _)=_;rw[o4,aE];show(bif (w.aw.Names.length:Int) !=(ns.length:Int)then some ((⟨51,dv,0,a,ns⟩:af),false)else(lO Pu) ⟨25,w,0,[],a,kids⟩ ns dv ns 0)=_;rw[e4];exact Qc hln hle
 |iH _ h1 h2 h3=>
  refine jc (.inl (by simp)) hlen ih (λns hl h=>?_);obtain⟨c',x',y',rfl⟩:=pd (l:=ns) (by simpa using hl.symm);refine⟨⟨_,oE (kd:=30) (m:=3) (by rw[ll,iK];rfl) (by decide) (by decide) rfl,.ite (h 0 _ _ rfl rfl) (h 1 _ _ rfl rfl) (h 2 _ _ rfl rfl)⟩,⟨_,?_,.ite (h 0 _ _ rfl rfl) (h 1 _ _ rfl rfl) (h 2 _ _ rfl rfl)⟩⟩;rw[gK,(lit (op:=7) (by simp)).1,aE];show(((eo Pu) 7).bind _)=_;rw[(lit (op:=7) (by simp)).2];rfl
 |ku _ h1 h2 h3=>
  refine jc (.inl (by simp)) hlen ih (λns hl h=>?_);obtain⟨c',x',y',rfl⟩:=pd (l:=ns) (by simpa using hl.symm);refine⟨⟨_,oE (kd:=30) (m:=3) (by rw[ll,iK];rfl) (by decide) (by decide) rfl,.ite (h 0 _ _ rfl rfl) (h 1 _ _ rfl rfl) (h 2 _ _ rfl rfl)⟩,⟨_,?_,.ite (h 0 _ _ rfl rfl) (h 1 _ _ rfl rfl) (h 2 _ _ rfl rfl)⟩⟩;rw[gK,(lit (op:=7) (by simp)).1,aE];show(((eo Pu) 7).bind _)=_;rw[(lit (op:=7) (by simp)).2];rfl
 |kv _ h1 h2 h3=>
  refine jc (.inl (by simp)) hlen ih (λns hl h=>?_);obtain⟨c',x',y',rfl⟩:=pd (l:=ns) (by simpa using hl.symm);refine⟨⟨_,oE (kd:=30) (m:=3) (by rw[ll,iK];rfl) (by decide) (by decide) rfl,.ite (h 0 _ _ rfl rfl) (h 1 _ _ rfl rfl) (h 2 _ _ rfl rfl)⟩,⟨_,?_,.ite (h 0 _ _ rfl rfl) (h 1 _ _ rfl rfl) (h 2 _ _ rfl rfl)⟩⟩;rw[gK,(lit (op:=7) (by simp)).1,aE];show(((eo Pu) 7).bind _)=_;rw[(lit (op:=7) (by simp)).2];rfl
 |conn ho _ _ _=>exact kR (by rcases ho with rfl|rfl;exact⟨31,by simp[dS]⟩;exact⟨32,by simp[dS]⟩) ih
 |less ho _ _ _=>exact kR (by rcases ho with rfl|rfl;exact⟨34,by simp[dS]⟩;exact⟨35,by simp[dS]⟩) ih
 |ji ho _ _ _=>exact kR (by rcases ho with rfl|rfl;exact⟨40,by simp[dS]⟩;exact⟨41,by simp[dS]⟩) ih
 |equal=>exact kR ⟨36,by simp[dS]⟩ ih
 |k7=>exact kR ⟨37,by simp[dS]⟩ ih
 |k8=>exact kR ⟨38,by simp[dS]⟩ ih
 |k9=>exact kR ⟨38,by simp[dS]⟩ ih
 |jb=>exact kR ⟨39,by simp[dS]⟩ ih
 |kj=>exact kR ⟨39,by simp[dS]⟩ ih
 |km=>exact kR ⟨39,by simp[dS]⟩ ih
 |at_=>exact kR ⟨43,by simp[dS]⟩ ih
 |flag=>exact oS ⟨_,by simp[eg];rfl⟩ ih
 |num=>exact oS ⟨_,by simp[eg];rfl⟩ ih
 |one=>exact oS ⟨_,by simp[eg];rfl⟩ ih
 |size=>exact oS ⟨_,by simp[eg];rfl⟩ ih
 |sum=>exact oS ⟨_,by simp[eg];rfl⟩ ih
 |kE hm=>
  simp only[cu,jY,or_false,bZ]at hm;rcases hm with⟨rfl,_⟩|⟨rfl,_⟩|⟨rfl,_⟩|⟨rfl,_⟩|⟨rfl,_⟩<;>exact oS ⟨_,by simp[eg];rfl⟩ ih
 |part ho=>rcases ho with⟨rfl,_⟩|⟨rfl,_⟩<;>exact oS ⟨_,by simp[eg];rfl⟩ ih
end
section
variable {B:Nat}
variable (hB:B<=1048576) {ps:List TParam}
include hB
end
def VX (l:ai) (f:bA):Prop:=dO l/\nL f/\W l f.Params f.Body (ja l f)
theorem nL.XS {f:bA} (h:nL f):∀(i j:Nat) p q,f.Params[i]? =some p->f.Params[j]? =some q->p.Name=q.Name->i=j:=by
 intro i j p q hi hj e;rcases M4 i j with g|g|g
 ·exact absurd e ((h.2.2.2.2.2 j q hj).2.2.2 i p g hi)
 ·exact g
 ·exact absurd e.symm ((h.2.2.2.2.2 i p hi).2.2.2 j q g hj)
section
variable {B:Nat} (hB:B<=1048576)
include hB
theorem Pd {f:bA} (hf:f.ok B) (h:nL f):(u32 Pu) f=some true:=by
 obtain⟨hn,ho,⟨hpl,hp⟩,_,hb⟩:=hf;obtain⟨f1,f2,f3,f4,f5,f6⟩:=h;refine ah.of ?_;rw[ML,r8,lE _ (by omega),lE _ (by omega),TParam.aH,f1,f2];simp only[aE];refine ah.bif (λh=>by cases h) (λ_=>ah.bif (λh=>by cases h) (λ_=>?_));refine ah.bif (λh=>by simp at h;omega) (λ_=>ah.bif (λh=>by simp at h;omega) (λ_=>ah.bif (λh=>by simp at h;omega) (λ_=>?_)));have h:=mj (L:=λi=>(lM Pu) f i) (P:=(·=true)) (len:=f.Params.length) (λ_=>True) (λi hi _ k=>by
  show ah ((lM Pu) f i) _;obtain⟨x,hx⟩:=bu hi;obtain⟨x1,x2,x3,x4⟩:=f6 i x hx;have hd:((f.Params.take i).any λq:TParam=>q.Name==x.Name)=false:=by
   rw[Ag];intro q hq e;obtain⟨j,hj⟩:=jW hq;have hji:j<i:=by have:=(cX.1 hj).1;rw[iS]at this;omega
   rw[Nh hji]at hj;exact x4 j q hji hj (by simpa using e)
  rw[xB,nC,TParam.aH,bq];have:decide (i<f.Params.length)=true:=by simpa using hi
  rw[this,a6,bw hx,aE,lE _ (by have:=(hp x (br hx)).1;omega),aE,xn (by omega),aE,J1 _ _ (by rw[iS];omega),aE,cw i (by omega),x1,hd];refine ah.bif (λh=>by cases h) (λ_=>ah.bif (λh=>by simp at h;omega) (λ_=>ah.bif (λh=>by simp at h;omega) (λ_=>ah.bif (λh=>by cases h) (λ_=>k trivial))))) (λ_=>by
  show ah ((lM Pu) f _) _;rw[xB,nC,TParam.aH,bq];have:decide (f.Params.length<f.Params.length)=false:=by simp
  rw[this];exact ah.ret rfl) 0 (by omega) trivial
 exact h
theorem VX.ce {l:ai} {f:bA} (hl:l.ok B) (hf:f.ok B) (h:VX l f):CE B ⟨l,f.Params⟩/\cS B (ja l f)/\TT B f.Body:=by
 have hce:CE B ⟨l,f.Params⟩:=⟨h.1,hl,λp hm=>by
  obtain⟨i,hi⟩:=jW hm;have:=h.2.1.2.2.2.2.2 i p hi;exact⟨this.2.1,this.2.2.1⟩,hf.2.2.1.1⟩
 have hww:cS B (ja l f):=by
  unfold ja;cases h':f.Result==0 with
  |true=>exact .inr (a7.of h.1 hl)
  |false=>
   have h0:f.Result≠0:=by simpa using h'
   have:=h.2.1.2.2.2;exact .inr (a7.sort (by omega))
 exact⟨hce,hww,W.tt hce h.2.2 hww⟩
theorem AO {l:ai} {f:bA} (hl:l.ok B) (hf:f.ok B):ah ((l7 Pu) l f) (λr=>r=true↔VX l f):=by
 obtain⟨r,e,h⟩:=O8 hB hl hf;refine⟨r,e,λg=>⟨(h g).ce.eT,(h g).form,(h g).body⟩,λg=>?_⟩;obtain⟨hce,hww,htt⟩:=g.ce hB hl hf;obtain⟨n,hn,hbr⟩:=(R4 hce f.Body _ hww g.2.2).1;have hel:=(R5 hB hce g.2.1.XS f.Body _ n hww g.2.2 hbr).eq;have hE:(zt Pu) l f.Params (ja l f) n=some (f.Body,⟨0,0⟩):=by rw[MN,sn,hel];rfl
 have hb:=hf.2.2.2.2;have:(l7 Pu) l f=some true:=by
  refine ah.of ?_;rw[MO,so,P6 (by omega) hl g.1,Pd hB hf g.2.1,hn,IZ];refine ah.au rfl (ah.bif (λh=>by cases h) (λ_=>ah.au rfl (ah.bif (λh=>by cases h) (λ_=>ah.au rfl (ah.bif (λh=>by cases h) (λ_=>?_))))));refine ah.au rfl (ah.au hE ?_);refine ah.bif (λ_=>?_) (λh=>(by simp at h));rw[HV hB f.Body htt f.Body hb];exact ah.ret (by simp[cB])
 rw[this]at e;cases e;rfl
