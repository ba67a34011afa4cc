/- Copies; Join and Leq. -/
import Derived.Test.YtnocmolegijmkaaGreatKKf
import Derived.Test.YtnocmolegijmkaaGreatKVa9
set_option linter.all false
namespace Go.Proofs.YtnocmolegijmkaaGreat
open Go Go.Bw
theorem abT:∀v:af,SV v->(f139 Pf) v=some v:=by
 refine af.ind λv ih hv=>?_;cases hv with
 |mk v1 v2 v3 v4 v5 v6=>
 have l2:(pX Pf) v v.Names 0 v.ai []=some v:=by
  refine ae.of (eo (L:=λi s=>(pX Pf) v v.Names i v.ai s) (P:=λr=>r=v) (len:=v.Entries.length) (λi s=>s=v.Entries.take i) (λi s hi hI k=>?_) (λs hI=>?_) 0 [] (by omega) rfl)
  ·show ae ((pX Pf) v v.Names i v.ai s) _;obtain⟨x,hx⟩:=bo hi;have:=(v5 x (aV hx)).1;have hc:(f130 Pf) x.a8=some x.a8:=by rw[WL,wS];exact nM (by omega)
   have:decide (i<v.Entries.length)=true:=by simpa using hi
   rw[SZ,uN,az.aH,a7,this,aB,bf hx,au,hc,au,eN (by rw[hI];simp;omega),aB,bW i (by omega)];exact k _ (by rw[hI,fM,hx];rfl)
  ·show ae ((pX Pf) v v.Names v.Entries.length v.ai s) _;have:decide (v.Entries.length<v.Entries.length)=false:=by simp
   rw[SZ,uN,az.aH,a7,this,aC,hI,eV];exact ae.ret (by cases v;rfl)
 rw[aiN,Ba,show(f129 Pf) v.Names=some v.Names by rw[Gc];exact nM (by omega),au];refine ae.of (eo (L:=λi s=>(rH Pf) v v.Names i s) (P:=λr=>r=v) (len:=v.ai.length) (λi s=>s=v.ai.take i) (λi s hi hI k=>?_) (λs hI=>?_) 0 [] (by omega) rfl)
 ·show ae ((rH Pf) v v.Names i s) _;obtain⟨x,hx⟩:=bo hi;have hm:=aV hx;have:decide (i<v.ai.length)=true:=by simpa using hi
  rw[S0,uO,af.aH,a7,this,aB,bf hx,au,ih x hm (v6 x hm),au,eN (by rw[hI];simp;omega),aB,bW i (by omega)];exact k _ (by rw[hI,fM,hx];rfl)
 ·show ae ((rH Pf) v v.Names v.ai.length s) _;have:decide (v.ai.length<v.ai.length)=false:=by simp
  rw[S0,uO,af.aH,a7,this,aC,hI,eV,l2];exact ae.ret rfl
theorem abN:∀v:af,SV v->(f85 Pf) v=some v:=by
 refine af.ind λv ih hv=>?_;cases hv with
 |mk v1 v2 v3 v4 v5 v6=>
 have l2:(qp Pf) v v.Names 0 v.ai []=some v:=by
  refine ae.of (eo (L:=λi s=>(qp Pf) v v.Names i v.ai s) (P:=λr=>r=v) (len:=v.Entries.length) (λi s=>s=v.Entries.take i) (λi s hi hI k=>?_) (λs hI=>?_) 0 [] (by omega) rfl)
  ·show ae ((qp Pf) v v.Names i v.ai s) _;obtain⟨x,hx⟩:=bo hi;have:=(v5 x (aV hx)).1;have hc:(f130 Pf) x.a8=some x.a8:=by rw[WL,wS];exact nM (by omega)
   have:decide (i<v.Entries.length)=true:=by simpa using hi
   rw[U5,vG,az.aH,a7,this,aB,bf hx,au,hc,au,eN (by rw[hI];simp;omega),aB,bW i (by omega)];exact k _ (by rw[hI,fM,hx];rfl)
  ·show ae ((qp Pf) v v.Names v.Entries.length v.ai s) _;have:decide (v.Entries.length<v.Entries.length)=false:=by simp
   rw[U5,vG,az.aH,a7,this,aC,hI,eV];exact ae.ret (by cases v;rfl)
 rw[e85,CN,show(f129 Pf) v.Names=some v.Names by rw[Gc];exact nM (by omega),au];refine ae.of (eo (L:=λi s=>(rZ Pf) v v.Names i s) (P:=λr=>r=v) (len:=v.ai.length) (λi s=>s=v.ai.take i) (λi s hi hI k=>?_) (λs hI=>?_) 0 [] (by omega) rfl)
 ·show ae ((rZ Pf) v v.Names i s) _;obtain⟨x,hx⟩:=bo hi;have hm:=aV hx;have:decide (i<v.ai.length)=true:=by simpa using hi
  rw[U6,vH,af.aH,a7,this,aB,bf hx,au,ih x hm (v6 x hm),au,eN (by rw[hI];simp;omega),aB,bW i (by omega)];exact k _ (by rw[hI,fM,hx];rfl)
 ·show ae ((rZ Pf) v v.Names v.ai.length s) _;have:decide (v.ai.length<v.ai.length)=false:=by simp
  rw[U6,vH,af.aH,a7,this,aC,hI,eV,l2];exact ae.ret rfl
section
variable {B:Nat} (hB:B<=1048576)
include hB
theorem QI {l:ag} {a b:af} (hl:l.ok B) (hL:cA l) (ha:VE l a) (hb:VE l b) (sa:SV a) (sb:SV b):(f44 Pf) l [a,b]=some 0:=by
 have e:(f91 Pf) l [a,b]=some true:=by
  have i0:IntKind.i64.wrap ((0:Int)+1)=1:=by decide
  have i1:IntKind.i64.wrap ((1:Int)+1)=2:=by decide
  rw[e91,xA,J',r6,af.aH];rw[show decide ((0:Int)<(([a,b]:List af).length:Int))=true by rfl,aB,eO,au,Iq hB hl hL sa ha,au,fL,aC,i0,J',r6,af.aH];rw[show decide ((1:Int)<(([a,b]:List af).length:Int))=true by rfl,aB,show aj [a,b] 1=some b from rfl,au,Iq hB hl hL sb hb,au,fL,aC,i1,J',r6,af.aH];rw[show decide ((2:Int)<(([a,b]:List af).length:Int))=false by rfl,aC]
 rw[e44,CO,EF (by omega) hl hL,au,e];rfl
theorem SL {l:ag} {a b:af} (hl:l.ok B) (hL:cA l) (ha:VE l a) (hb:VE l b) (sa:SV a) (sb:SV b):ae ((f19 Pf) l a b) (λr=>r=true↔aP l a b):=by
 rw[e19,CP,QI hB hl hL ha hb sa sb,au];exact ae.bind (JO l hL a b ha hb sa sb) (λy hy=>ae.ret hy)
theorem Ap:∀l:ag,l.ok B->BV 1048576 (bot l):=by
 refine ag.ind λl ih hl=>?_;rw[ag.dK]at hl;obtain⟨_,_,_,_,⟨hp,hpp⟩,_⟩:=hl;have nil:∀n,BV 1048576 ⟨n,[],[],[]⟩:=λn=> .mk (by simp) (by simp) (by simp) (by simp) (by simp);rw[vx];split
 ·exact nil _
 ·split
  ·exact nil _
  ·split
   ·refine .mk (by simp) (by simp;omega) (by simp) (by simp) λp hp=>?_;simp only[dP]at hp;obtain⟨q,hq,rfl⟩:=hp;exact ih q hq (ag.gH hpp hq)
   ·exact nil _
theorem uw {l:ag} {a b:af} (hl:l.ok B) (hL:cA l) (ha:VE l a) (hb:VE l b) (ba:BV 137438953472 a) (bb:BV 137438953472 b):ae ((f43 Pf) l a b) (λr=>r.2=0/\eQ l a b r.1):=by
 have sa:SV a:=ha.sv (m:=137438953472) (by omega) ba;have sb:SV b:=hb.sv (m:=137438953472) (by omega) bb;have b0:BV 137438953472 (bot l):=(Ap hB l hl).mono (by omega);have h0:=n9 hL;obtain⟨a',e1,g1⟩:=RE l hL (bot l) a h0 ha b0 ba;have:a'=a:=g1.1.unique hL (gO.bot hL ha);subst this;obtain⟨j,e2,g2⟩:=RE l hL a' b ha hb ba bb;have sj:SV j:=g2.1.ve.sv (m:=274877906944) (by omega) (g2.2 _ _ (by omega) ba bb);have i0:IntKind.i64.wrap ((0:Int)+1)=1:=by decide
 have i1:IntKind.i64.wrap ((1:Int)+1)=2:=by decide
 have hle:(f137 Pf) l=some (bot l):=by rw[aiO,Bb,QG hB hl hL];rfl
 rw[e43,CR,e90,CS,QI hB hl hL ha hb sa sb,au];show ae ((((f137 Pf) l).bind _).bind _) _;rw[hle,au,Ka,r7,af.aH];rw[show decide ((0:Int)<(([a',b]:List af).length:Int))=true by rfl,aB,eO,au,e1,au,i0,Ka,r7,af.aH];rw[show decide ((1:Int)<(([a',b]:List af).length:Int))=true by rfl,aB,show aj [a',b] 1=some b from rfl,au,e2,au,i1,Ka,r7,af.aH];rw[show decide ((2:Int)<(([a',b]:List af).length:Int))=false by rfl,aC,abT j sj];exact ae.ret ⟨rfl,g2⟩
end
theorem P1 {v:af} (hl:v.Entries.length<=274877906944):ae ((f189 Pf) v) (λr=>rising r=true/\r.length<=v.Entries.length/\∀s,s∈r↔∃e∈v.Entries,e.Name=s):=by
 rw[aiF,wP];refine eo (L:=λi (s:List (List UInt8)×List (List UInt8))=>(pV Pf) v s.1 i s.2) (P:=λr=>rising r=true/\r.length<=v.Entries.length/\∀s,s∈r↔∃e∈v.Entries,e.Name=s) (len:=v.Entries.length) (λi s=>s.2=s.1/\s.1.Nodup/\s.1.length<=i/\∀x,x∈s.1↔∃e∈v.Entries.take i,e.Name=x) (λi s hi hI k=>?_) (λs hI=>?_) 0 ([],[]) (by omega) ⟨rfl,by simp,by simp,by simp⟩
 ·show ae ((pV Pf) v s.1 i s.2) _;obtain⟨a0,a⟩:=s;obtain⟨h1,h2,h3,h4⟩:=hI;simp only at h1 h2 h3 h4⊢;subst h1;obtain⟨x,hx⟩:=bo hi;have:decide (i<v.Entries.length)=true:=by simpa using hi
  have ht:v.Entries.take (i+1)=v.Entries.take i++[x]:=by rw[fM,hx];rfl
  rw[SU,uI,WK,az.aH,a7,this,aB,bf hx,au,bW i (by omega),eN (by simp;omega),aB];cases hc:a.contains x.Name
  ·rw[DH,aB,aB];have hno:x.Name∉a:=by simpa using hc
   refine k (a++[x.Name],a++[x.Name]) ⟨rfl,?_,by simp;omega,λy=>?_⟩
   ·rw[ly];exact⟨h2,by simp,λp hp q hq e=>by simp at hq;subst hq;subst e;exact hno hp⟩
   ·rw[b7,h4 y,ht,iZ];constructor
    ·rintro (⟨e,he,h⟩|h)
     ·exact⟨e,mE _ he,h⟩
     ·exact⟨x,by simp,h.symm⟩
    ·rintro ⟨e,he,h⟩;rcases b7.1 he with he|he
     ·exact .inl ⟨e,he,h⟩
     ·simp at he;subst he;exact .inr h.symm
  ·rw[fL,aC];have hyes:x.Name∈a:=by simpa using hc
   refine k (a,a) ⟨rfl,h2,by simp only;omega,λy=>?_⟩;rw[h4 y,ht];constructor
   ·rintro ⟨e,he,h⟩;exact⟨e,mE _ he,h⟩
   ·rintro ⟨e,he,h⟩;rcases b7.1 he with he|he
    ·exact⟨e,he,h⟩
    ·simp at he;subst he;rw[<-h];exact(h4 _).1 hyes
 ·show ae ((pV Pf) v s.1 v.Entries.length s.2) _;obtain⟨a0,a⟩:=s;obtain⟨h1,h2,h3,h4⟩:=hI;simp only at h1 h2 h3 h4⊢;subst h1;rw[eV]at h4;have:decide (v.Entries.length<v.Entries.length)=false:=by simp
  have hs:wQ a=some ((),dR eK a):=(ae9 a).trans (by rw[eN (by omega)];rfl);rw[SU,uI,WK,az.aH,a7,this,aC,hs,au,dT (by rw[bN,bN,nL]),aB];refine ae.ret ⟨?_,by rw[nL];exact h3,λx=>by rw[(oL a).mem_iff];exact h4 x⟩;rw[ua];have nd:(dR eK a).Nodup:=(oL a).symm.nodup h2;exact(List.Pairwise.and (tF nN a) nd).imp λ{p q} h=>(Ip.1 h.1).resolve_left h.2
def seen:List ah->List az->List ah
 |c,[]=>c
 |c,e::es=>seen (qN c e.a8) es
theorem RB:∀{es:List az} {c:List ah},cd c->(∀e∈es,cd e.a8)->cd (seen c es)
 |[],_,h,_=>h
 |e::es,c,h,hs=>(RB (I3 h (hs e (by simp))) λf hf=>hs f (by simp[hf]):cd (seen (qN c e.a8) es))
theorem RC {R:Type} {L:List ah->Int->Option R} {K:List ah->Option R} {es:List az} (hl:es.length<=274877906944) (hs:∀e∈es,cd e.a8) (hL:∀c j,L c j=bif decide (j<((az.rows es).length:Int))then((aj es j).bind λx=>((f235 Pf) c x.a8).bind λy=>L y (IntKind.i64.wrap (j+1)))else K c):L [] 0=K (seen [] es):=by
 have key:∀k i c,k=es.length-i->i<=es.length->cd c->L c (i:Int)=K (seen c (es.drop i)):=by
  intro k
  induction k with
  |zero=>
   intro i c hk hi hc;have:i=es.length:=by omega
   subst this;rw[hL,az.aH,a7,HL];simp[seen]
  |succ k ih=>
   intro i c hk hi hc;obtain⟨x,hx⟩:=bo (by omega:i<es.length);have hxc:=hs x (aV hx);have:decide (i<es.length)=true:=by simp;omega
   rw[hL,az.aH,a7,this,aB,bf hx,au,QH hc hxc,au,bW i (by omega),ih (i+1) _ (by omega) (by omega) (I3 hc hxc),kr hx,seen]
 have:=key es.length 0 [] (by omega) (by omega) trivial;simpa using this
theorem acC {v:af} (hl:v.Entries.length<=274877906944) (hs:∀e∈v.Entries,cd e.a8):(f272 Pf) v=some (seen [] v.Entries):=by
 rw[aiG,wR];exact RC (L:=λc j=>(zT Pf) v c j) (K:=λc=>some c) hl hs λc j=>by rw[ae',zU]
theorem SX {c:List ah} {s:List UInt8} (hc:cd c) (hn:c≠[]) (hs:dC s=true):VE fI ⟨0,[],[],[⟨c,s⟩]⟩:= .CM rfl ⟨λe he=>by simp at he;subst he;exact⟨hn,hc,hs⟩,by simp,λe he f hf _=>by simp at he hf;rw[he,hf]⟩
theorem J9 {c:List ah} {s:List UInt8} (hc:cd c):BV 64 ⟨0,[],[],[⟨c,s⟩]⟩:= .mk (by simp) (by simp) (by simp) (λe he=>by simp at he;subst he;exact oT hc) (by simp)
section
variable {B:Nat} (hB:B<=1048576)
include hB
theorem acB {v:af} {n:Int} {s:List UInt8} {m:Nat} (hm:m+64<=137438953472) (hm0:64<=m) (hr:fI.ok B) (hv:VE fI v) (bv:BV m v) (hs:dC s=true):ae ((f185 Pf) v n s) (λr=>VE fI r/\BV (m+64) r):=by
 have sv:SV v:=hv.sv (m:=m) (by omega) bv;have hE:ke v.Entries:=by obtain⟨es,rfl,h⟩:=hv.k9 rfl;exact h
 have hcs:∀e∈v.Entries,cd e.a8:=λe he=>(hE.1 e he).2.1;have hc:=RB (c:=[]) trivial hcs;have hle:=bv.entries;rw[aiH,A4];generalize hp:(if(if n<63 then n else 63)>0 then if n<63 then n else 63 else 0)=p;have p0:0<=p:=by rw[<-hp];split<;>split<;>omega
 have p1:p<=63:=by rw[<-hp];split<;>split<;>omega
 have hw:(f234 Pf) v p s=some (if cg p (seen [] v.Entries)=1000000000000000 then(⟨0,[],[],[]⟩,6)else(⟨0,[],[],[⟨Ge (seen [] v.Entries) p,s⟩]⟩,0)):=by
  have hlat:(f270 Pf)=some fI:=by rw[aiI,A5];rfl
  rw[aiJ,A6,hlat,au,Iq hB hr zm sv hv,au,fL,aC,dH (by omega),aC,dH (by omega),aC,ma s (by have:=uJ hs;omega),au,hs,fL,aC,acC (by omega) hcs,au,age hc p0 p1,au];by_cases e:cg p (seen [] v.Entries)=1000000000000000
  ·rw[bg e,bg e];rfl
  ·rw[aM e,aM e];simp only[bne_self_eq_false,aC,aiK,A7];rfl
 rw[hw,au];by_cases e:cg p (seen [] v.Entries)=1000000000000000
 ·rw[bg e];show ae ((uK Pf) v s [] 0) _;have hne:seen [] v.Entries≠[]:=λe'=>by rw[e']at e;simp[cg]at e
  rw[RC (L:=λc j=>(uK Pf) v s c j) (K:=λc=>((f43 Pf) fI v ⟨0,[],[],[⟨c,s⟩]⟩).bind λy=>some y.1) (by omega) hcs λc j=>by rw[afa];rfl];refine ae.bind (uw hB hr zm hv (SX hc hne hs) (bv.mono (by omega)) ((J9 hc).mono (by omega))) (λy hy=>ae.ret ⟨hy.2.1.ve,hy.2.2 m 64 hm0 bv (J9 hc)⟩)
 ·rw[aM e];have:=adD hc p0 p1 e;exact ae.ret ⟨SX this.1 this.2 hs,(J9 this.1).mono (by omega)⟩
end
theorem ae8 {l:ag} {ns:List (List UInt8)} (hl:l.Names.length<=274877906944) (hn:ns.length<=274877906944):(f233 Pf) l ns=some (ns.filter λs=>eF l.Names s):=by
 have hk:∀x,(f269 Pf) x l=some (!eF l.Names x):=λx=>by rw[aiL,A8,DZ (by omega)];rfl
 have hcl:(qE Pu) ns=some ns:=by rw[Wd,wu];exact nM (by omega)
 have hix:(Ek Pf) ns l=some (idxOf (λx=>!eF l.Names x) ns 0):=by
  rw[acD,ub];refine zr (a:=ns) (L:=λi=>(re Pf) ns l i) (λx=>!eF l.Names x) (λi x hx hi=>?_) ?_
  ·show(re Pf) ns l i=_;have:decide (i<ns.length)=true:=by simpa using hi
   rw[O5,tD,bN,a7,this,aB,bf hx,au,hk,au,bW i (by omega)]
  ·show(re Pf) ns l ns.length=_;have:decide (ns.length<ns.length)=false:=by simp
   rw[O5,tD,bN,a7,this,aC]
 rw[aiM,A9,agW,hcl,au,hix,au];rcases yB (λx=>!eF l.Names x) ns 0 with⟨h1,h2⟩|⟨i0,x0,h1,h2,h3,h4⟩
 ·have e:idxOf (λx=>!eF l.Names x) ns 0= -1:=h1;rw[e,aat.2 λx hx=>by simpa using h2 x hx];rfl
 ·have e:idxOf (λx=>!eF l.Names x) ns 0=((i0:Nat):Int):=by
   have e:idxOf (λx=>!eF l.Names x) ns 0=((0+i0:Nat):Int):=h1;rw[e,kJ]
  have hi0:=(cr.1 h2).1;have hneg:(((i0:Nat):Int)== -1)=false:=by simp
  rw[e,hneg,aC,bW i0 (by omega)];have f0:(ns.take i0).filter (λs=>eF l.Names s)=ns.take i0:=aat.2 λx hx=>by
   obtain⟨j,hj⟩:=jR hx;have hj1:=(cr.1 hj).1;rw[iK]at hj1;rw[OL (by omega)]at hj;simpa using h4 j x (by omega) hj
  have f1:(ns.take (i0+1)).filter (λs=>eF l.Names s)=ns.take i0:=by
   have h3:eF l.Names x0=false:=by simpa using h3
   rw[fM,h2,HM,f0];simp[h3]
  refine ae.of (eo (L:=λi (s:List (List UInt8)×Nat)=>(pW Pf) l s.1 (s.2:Int) i) (P:=λr=>r=ns.filter λs=>eF l.Names s) (len:=ns.length) (λj s=>s.1.length=ns.length/\s.2=((ns.take j).filter λs=>eF l.Names s).length/\s.1.take s.2=(ns.take j).filter (λs=>eF l.Names s)/\s.2<j/\∀k,j<=k->s.1[k]? =ns[k]?) (λj s hj hI k=>?_) (λs hI=>?_) (i0+1) (ns,i0) (by omega) ⟨rfl,by rw[f1,iK];omega,by rw[f1],by simp only;omega,λ_ _=>rfl⟩)
  ·show ae ((pW Pf) l s.1 (s.2:Int) j) _;obtain⟨c,m⟩:=s;obtain⟨g1,g2,g3,g4,g5⟩:=hI;simp only at g1 g2 g3 g4 g5⊢;obtain⟨x,hx⟩:=bo hj;have hx':c[j]? =some x:=by rw[g5 j (bX _)];exact hx
   have:decide (j<c.length)=true:=by simp;omega
   obtain⟨z,hz⟩:=bo (l:=c) (i:=m) (by omega);have ht:ns.take (j+1)=ns.take j++[x]:=by rw[fM,hx];rfl
   rw[SY,uL,bN,a7,this,aB,bf hx',au,hk,au,Bool.not_not,bf hz,au,bW m (by omega),bW j (by omega),mH];refine ae.bif (λh=>k (c.set m x,m+1) ?_) (λh=>k (c,m) ?_)
   ·have hf:(ns.take (j+1)).filter (λs=>eF l.Names s)=(ns.take j).filter (λs=>eF l.Names s)++[x]:=by
     rw[ht,HM];simp[h]
    refine⟨by simp[g1],by rw[hf];simp[g2],?_,by simp only;omega,λk hk=>?_⟩
    ·show(c.set m x).take (m+1)=_;rw[hf,<-g3,fM,OH (by omega),List.take_set_of_le (bX _)];rfl
    ·show(c.set m x)[k]? =_;rw[DI (by omega),g5 k (by omega)]
   ·have hf:(ns.take (j+1)).filter (λs=>eF l.Names s)=(ns.take j).filter (λs=>eF l.Names s):=by
     rw[ht,HM];simp[h]
    exact⟨g1,by rw[hf];exact g2,by rw[hf];exact g3,by simp only;omega,λk hk=>g5 k (by omega)⟩
  ·show ae ((pW Pf) l s.1 (s.2:Int) ns.length) _;obtain⟨c,m⟩:=s;obtain⟨g1,g2,g3,g4,g5⟩:=hI;simp only at g1 g2 g3 g4 g5⊢;rw[eV]at g2 g3;have:decide (ns.length<c.length)=false:=by simp;omega
   have hle:m<=c.length:=by omega
   rw[SY,uL,bN,a7,this,aC,mH,dT ⟨by omega,hle⟩,aB,uM (by simp;omega),au];refine ae.ret ?_;rw[List.take_append_of_le_length (by simp;omega),List.take_take,Nat.min_self,g3]
mutual
def bI:ab->Nat
 |⟨_,_,_,_,_,ks⟩=>1+b8 ks
def b8:List ab->Nat
 |[]=>0
 |k::ks=>bI k+b8 ks
end
theorem gU (x:ab):bI x=1+b8 x.Kids:=by cases x;rw[bI]
theorem lD:∀{ks:List ab} {k:ab},k∈ks->bI k<=b8 ks
 |q::ks,k,h=>by
  rw[b8];rcases cq.1 h with rfl|h
  ·omega
  ·have:=lD h;omega
theorem adB {x k:ab} (h:k∈x.Kids):bI k<bI x:=by rw[gU x];have:=lD h;omega
theorem Ej:∀{a b:List ab},b8 (a++b)=b8 a+b8 b
 |[],b=>by simp[b8]
 |x::a,b=>by rw[ko,b8,b8,Ej];omega
theorem P0 {ks:List ab} {i:Nat} {k:ab} (h:ks[i]? =some k):b8 (ks.take (i+1))=b8 (ks.take i)+bI k:=by
 rw[fM,h,Ej];simp[b8]
theorem aaK {ks:List ab} {i:Nat}:b8 (ks.take i)<=b8 ks:=by
 have:b8 ks=b8 (ks.take i)+b8 (ks.drop i):=by rw[<-Ej,Dx]
 omega
theorem tZ:∀{ks:List ab},ks.length<=b8 ks
 |[]=>by simp
 |k::ks=>by have:= @tZ ks;rw[b8,gU];simp;omega
inductive DV:Int->bD->Prop
 |int {n:Int}: -1000000000000000<=n->n<=1000000000000000->DV 1 ⟨1,n,[],[]⟩
 |bool {n:Int}:(n=0\/n=1)->DV 2 ⟨2,n,[],[]⟩
 |name {s:List UInt8}:dC s=true->DV 3 ⟨3,0,s,[]⟩
 |set {ns:List (List UInt8)}:rising ns=true->(∀s∈ns,dC s=true)->DV 4 ⟨4,0,[],ns⟩
def zV:af:=⟨0,[],[],[]⟩
def zD:bD:=⟨0,0,[],[]⟩
inductive RV (t:aQ) (m:Nat):bZ->Prop
 |v {x:af}:t.a6=0->VE t.aD x->BV m x->RV t m ⟨zD,x⟩
 |d {x:bD}:t.a6≠0->DV t.a6 x->x.Names.length<=m->RV t m ⟨x,zV⟩
theorem RV.mono {t:aQ} {m n:Nat} {r:bZ} (h:m<=n) (g:RV t m r):RV t n r:=by
 cases g with
 |v h1 h2 h3=>exact .v h1 h2 (h3.mono h)
 |d h1 h2 h3=>exact .d h1 h2 (by omega)
theorem RV.val {t:aQ} {m:Nat} {r:bZ} (g:RV t m r) (hs:t.a6=0):∃x,r=⟨zD,x⟩/\VE t.aD x/\BV m x:=by
 cases g with
 |v h1 h2 h3=>exact⟨_,rfl,h2,h3⟩
 |d h1 h2 h3=>exact absurd hs h1
theorem RV.dS {t:aQ} {m:Nat} {r:bZ} (g:RV t m r) (hs:t.a6≠0):∃x,r=⟨x,zV⟩/\DV t.a6 x/\x.Names.length<=m:=by
 cases g with
 |v h1 h2 h3=>exact absurd h1 hs
 |d h1 h2 h3=>exact⟨_,rfl,h2,h3⟩
theorem RV.bool {m:Nat} {r:bZ} (g:RV (br 2) m r):∃n,r=⟨⟨2,n,[],[]⟩,zV⟩/\(n=0\/n=1):=by
 obtain⟨x,rfl,h,_⟩:=g.dS (by decide);have h:DV 2 x:=h;cases h with
 |bool h1=>exact⟨_,rfl,h1⟩
theorem RV.name {m:Nat} {r:bZ} (g:RV (br 3) m r):∃s,r=⟨⟨3,0,s,[]⟩,zV⟩/\dC s=true:=by
 obtain⟨x,rfl,h,_⟩:=g.dS (by decide);have h:DV 3 x:=h;cases h with
 |name h1=>exact⟨_,rfl,h1⟩
theorem RV.set {m:Nat} {r:bZ} (g:RV (br 4) m r):∃ns,r=⟨⟨4,0,[],ns⟩,zV⟩/\rising ns=true/\(∀s∈ns,dC s=true)/\ns.length<=m:=by
 obtain⟨x,rfl,h,hl⟩:=g.dS (by decide);have h:DV 4 x:=h;cases h with
 |set h1 h2=>exact⟨_,rfl,h1,h2,hl⟩
theorem ae.id {D:Type} {o:Option D} {P:D->Prop} (h:ae o P):ae (o.bind λy=>some y) P:=by obtain⟨r,rfl,h⟩:=h;exact⟨r,rfl,h⟩
theorem Fit.eq {w t:aQ} (h:Fit w t) (hn:isNone w=false):t=w:=(h hn).symm
theorem W.ty {l:ag} {ps:List TParam} {x:ab} {w:aQ} (h:W l ps x w) (hn:isNone w=false):x.aO=w:=by
 have no:∀{P:Prop},isNone w=true->P:=λe=>by rw[e]at hn;cases hn
 cases h<;>first|rfl|(apply Fit.eq<;>assumption)|(apply no;assumption)
theorem zQ {n:Int} {m:Nat} (h0: -1000000000000000<=n) (h1:n<=1000000000000000):ae ((f176 Pf) n) (RV (br 1) m):=by
 rw[aiC,A1];exact ae.ret (.d (by decide) (.int h0 h1) (by simp))
theorem jS {b:Bool} {m:Nat}:ae ((f177 Pf) b) (RV (br 2) m):=by
 rw[aiD,A2];cases b
 ·exact ae.ret (.d (by decide) (.bool (.inl rfl)) (by simp))
 ·exact ae.ret (.d (by decide) (.bool (.inr rfl)) (by simp))
theorem SQ (n:Int):ae ((f181 Pf) n) (λr=> -1000000000000000<=r/\r<=1000000000000000):=by
 rw[aiE,A3];refine ae.ret ?_;split<;>split<;>omega
section
variable {fr:cG} {x k:ab} {Q:bZ->Prop}
theorem uH (h:x.Op<=6) (t:ae ((f131 Pf) fr x) Q):ae ((f86 Pf) fr x) Q:=by
 rw[ny,jL,dT h,aB];exact ae.id t
theorem kZ (h:7<=x.Op) (h':x.Op<=18) (t:ae ((f132 Pf) fr x) Q):ae ((f86 Pf) fr x) Q:=by
 rw[ny,jL,dH (by omega),aC,dT h',aB];exact ae.id t
theorem JM (h:x.Op=19\/x.Op=20\/x.Op=35\/x.Op=36) (t:ae ((f133 Pf) fr x) Q):ae ((f86 Pf) fr x) Q:=by
 rw[ny,jL];rcases h with h|h|h|h<;>rw[h]<;>exact ae.id t
theorem qn (h:21<=x.Op) (h':x.Op<=28) (t:ae ((f134 Pf) fr x) Q):ae ((f86 Pf) fr x) Q:=by
 have e1:(x.Op==35)=false:=by simp;omega
 have e2:(x.Op==36)=false:=by simp;omega
 rw[ny,jL,dH (by omega),aC,dH (by omega),aC,dH (by omega),aC,e1,aC,e2,aC,dT h',aB];exact ae.id t
theorem J8 (h:(29<=x.Op/\x.Op<=34)\/x.Op=37) (t:ae ((f135 Pf) fr x) Q):ae ((f86 Pf) fr x) Q:=by
 have e1:(x.Op==35)=false:=by simp;omega
 have e2:(x.Op==36)=false:=by simp;omega
 rw[ny,jL,dH (by omega),aC,dH (by omega),aC,dH (by omega),aC,e1,aC,e2,aC,dH (by omega),aC];exact ae.id t
theorem eE {i:Int} (h:aj x.Kids i=some k) (t:ae ((f86 Pf) fr k) Q):ae ((f179 Pf) i fr x) Q:=by
 rw[WI,qJ,h,au];exact ae.id t
theorem mP {i:Int} (h:aj x.Kids i=some k) (t:ae ((f86 Pf) fr k) Q):ae ((f182 Pf) i fr x) Q:=by
 rw[WJ,qK,h,au];exact ae.id t
