/- Copies; Join and Leq. -/
import Derived.Test.YtnocmolegijmkaaGreatKKf
import Derived.Test.YtnocmolegijmkaaGreatKVa9
set_option linter.all false
namespace Go.Proofs.YtnocmolegijmkaaGreat
open Go Go.Bw
theorem abW:∀v:ah,SV v->(f139 Pf) v=some v:=by
 refine ah.ind λv ih hv=>?_;cases hv with
 |mk v1 v2 v3 v4 v5 v6=>
 have l2:(pB Pf) v v.Names 0 v.ak []=some v:=by
  refine ae.of (dZ (L:=λi s=>(pB Pf) v v.Names i v.ak s) (P:=λr=>r=v) (len:=v.Entries.length) (λi s=>s=v.Entries.take i) (λi s hi hI k=>?_) (λs hI=>?_) 0 [] (by omega) rfl)
  ·show ae ((pB Pf) v v.Names i v.ak s) _;obtain⟨x,hx⟩:=bm hi;have:=(v5 x (aY hx)).1;have hc:(f130 Pf) x.a8=some x.a8:=by rw[XX,wu];exact nf (by omega)
   have:decide (i<v.Entries.length)=true:=by simpa using hi
   rw[Uc,um,az.aF,aW,this,aB,a7 hx,ax,hc,ax,eC (by rw[hI];simp;omega),aB,bO i (by omega)];exact k _ (by rw[hI,fB,hx];rfl)
  ·show ae ((pB Pf) v v.Names v.Entries.length v.ak s) _;have:decide (v.Entries.length<v.Entries.length)=false:=by simp
   rw[Uc,um,az.aF,aW,this,aC,hI,eN];exact ae.ret (by cases v;rfl)
 rw[aiP,AS,show(f129 Pf) v.Names=some v.Names by rw[FZ];exact nf (by omega),ax];refine ae.of (dZ (L:=λi s=>(ra Pf) v v.Names i s) (P:=λr=>r=v) (len:=v.ak.length) (λi s=>s=v.ak.take i) (λi s hi hI k=>?_) (λs hI=>?_) 0 [] (by omega) rfl)
 ·show ae ((ra Pf) v v.Names i s) _;obtain⟨x,hx⟩:=bm hi;have hm:=aY hx;have:decide (i<v.ak.length)=true:=by simpa using hi
  rw[Ud,uo,ah.aF,aW,this,aB,a7 hx,ax,ih x hm (v6 x hm),ax,eC (by rw[hI];simp;omega),aB,bO i (by omega)];exact k _ (by rw[hI,fB,hx];rfl)
 ·show ae ((ra Pf) v v.Names v.ak.length s) _;have:decide (v.ak.length<v.ak.length)=false:=by simp
  rw[Ud,uo,ah.aF,aW,this,aC,hI,eN,l2];exact ae.ret rfl
theorem abV:∀v:ah,SV v->(f85 Pf) v=some v:=by
 refine ah.ind λv ih hv=>?_;cases hv with
 |mk v1 v2 v3 v4 v5 v6=>
 have l2:(pW Pf) v v.Names 0 v.ak []=some v:=by
  refine ae.of (dZ (L:=λi s=>(pW Pf) v v.Names i v.ak s) (P:=λr=>r=v) (len:=v.Entries.length) (λi s=>s=v.Entries.take i) (λi s hi hI k=>?_) (λs hI=>?_) 0 [] (by omega) rfl)
  ·show ae ((pW Pf) v v.Names i v.ak s) _;obtain⟨x,hx⟩:=bm hi;have:=(v5 x (aY hx)).1;have hc:(f130 Pf) x.a8=some x.a8:=by rw[XX,wu];exact nf (by omega)
   have:decide (i<v.Entries.length)=true:=by simpa using hi
   rw[V',vd,az.aF,aW,this,aB,a7 hx,ax,hc,ax,eC (by rw[hI];simp;omega),aB,bO i (by omega)];exact k _ (by rw[hI,fB,hx];rfl)
  ·show ae ((pW Pf) v v.Names v.Entries.length v.ak s) _;have:decide (v.Entries.length<v.Entries.length)=false:=by simp
   rw[V',vd,az.aF,aW,this,aC,hI,eN];exact ae.ret (by cases v;rfl)
 rw[e85,CH,show(f129 Pf) v.Names=some v.Names by rw[FZ];exact nf (by omega),ax];refine ae.of (dZ (L:=λi s=>(rD Pf) v v.Names i s) (P:=λr=>r=v) (len:=v.ak.length) (λi s=>s=v.ak.take i) (λi s hi hI k=>?_) (λs hI=>?_) 0 [] (by omega) rfl)
 ·show ae ((rD Pf) v v.Names i s) _;obtain⟨x,hx⟩:=bm hi;have hm:=aY hx;have:decide (i<v.ak.length)=true:=by simpa using hi
  rw[Wa,vg,ah.aF,aW,this,aB,a7 hx,ax,ih x hm (v6 x hm),ax,eC (by rw[hI];simp;omega),aB,bO i (by omega)];exact k _ (by rw[hI,fB,hx];rfl)
 ·show ae ((rD Pf) v v.Names v.ak.length s) _;have:decide (v.ak.length<v.ak.length)=false:=by simp
  rw[Wa,vg,ah.aF,aW,this,aC,hI,eN,l2];exact ae.ret rfl
section
variable {B:Nat} (hB:B<=1048576)
include hB
theorem RT {l:ai} {a b:ah} (hl:l.ok B) (hL:cx l) (ha:VE l a) (hb:VE l b) (sa:SV a) (sb:SV b):(f44 Pf) l [a,b]=some 0:=by
 have e:(f91 Pf) l [a,b]=some true:=by
  have i0:IntKind.i64.wrap ((0:Int)+1)=1:=by decide
  have i1:IntKind.i64.wrap ((1:Int)+1)=2:=by decide
  rw[e91,xf,JK,rE,ah.aF];rw[show decide ((0:Int)<(([a,b]:List ah).length:Int))=true by rfl,aB,eH,ax,H4 hB hl hL sa ha,ax,fA,aC,i0,JK,rE,ah.aF];rw[show decide ((1:Int)<(([a,b]:List ah).length:Int))=true by rfl,aB,show aq [a,b] 1=some b from rfl,ax,H4 hB hl hL sb hb,ax,fA,aC,i1,JK,rE,ah.aF];rw[show decide ((2:Int)<(([a,b]:List ah).length:Int))=false by rfl,aC]
 rw[e44,CI,Ew (by omega) hl hL,ax,e];rfl
theorem aff {l:ai} {a b:ah} (hl:l.ok B) (hL:cx l) (ha:VE l a) (hb:VE l b) (sa:SV a) (sb:SV b):ae ((f19 Pf) l a b) (λr=>r=true↔aZ l a b):=by
 rw[e19,CJ,RT hB hl hL ha hb sa sb,ax];exact ae.bind (Jo l hL a b ha hb sa sb) (λy hy=>ae.ret hy)
theorem zW:∀l:ai,l.ok B->BV 1048576 (bot l):=by
 refine ai.ind λl ih hl=>?_;rw[ai.dA]at hl;obtain⟨_,_,_,_,⟨hp,hpp⟩,_⟩:=hl;have nil:∀n,BV 1048576 ⟨n,[],[],[]⟩:=λn=> .mk (by simp) (by simp) (by simp) (by simp) (by simp);rw[uZ];split
 ·exact nil _
 ·split
  ·exact nil _
  ·split
   ·refine .mk (by simp) (by simp;omega) (by simp) (by simp) λp hp=>?_;simp only[dy]at hp;obtain⟨q,hq,rfl⟩:=hp;exact ih q hq (ai.fU hpp hq)
   ·exact nil _
theorem IF {l:ai} {a b:ah} (hl:l.ok B) (hL:cx l) (ha:VE l a) (hb:VE l b) (ba:BV 137438953472 a) (bb:BV 137438953472 b):ae ((f43 Pf) l a b) (λr=>r.2=0/\eJ l a b r.1):=by
 have sa:SV a:=ha.sv (m:=137438953472) (by omega) ba;have sb:SV b:=hb.sv (m:=137438953472) (by omega) bb;have b0:BV 137438953472 (bot l):=(zW hB l hl).mono (by omega);have h0:=u0 hL;obtain⟨a',e1,g1⟩:=SZ l hL (bot l) a h0 ha b0 ba;have:a'=a:=g1.1.unique hL (gC.bot hL ha);subst this;obtain⟨j,e2,g2⟩:=SZ l hL a' b ha hb ba bb;have sj:SV j:=g2.1.ve.sv (m:=274877906944) (by omega) (g2.2 _ _ (by omega) ba bb);have i0:IntKind.i64.wrap ((0:Int)+1)=1:=by decide
 have i1:IntKind.i64.wrap ((1:Int)+1)=2:=by decide
 have hle:(f137 Pf) l=some (bot l):=by rw[aiQ,AT,RR hB hl hL];rfl
 rw[e43,CK,e90,CL,RT hB hl hL ha hb sa sb,ax];show ae ((((f137 Pf) l).bind _).bind _) _;rw[hle,ax,JL,rF,ah.aF];rw[show decide ((0:Int)<(([a',b]:List ah).length:Int))=true by rfl,aB,eH,ax,e1,ax,i0,JL,rF,ah.aF];rw[show decide ((1:Int)<(([a',b]:List ah).length:Int))=true by rfl,aB,show aq [a',b] 1=some b from rfl,ax,e2,ax,i1,JL,rF,ah.aF];rw[show decide ((2:Int)<(([a',b]:List ah).length:Int))=false by rfl,aC,abW j sj];exact ae.ret ⟨rfl,g2⟩
end
theorem Rc {v:ah} (hl:v.Entries.length<=274877906944):ae ((f189 Pf) v) (λr=>rising r=true/\r.length<=v.Entries.length/\∀s,s∈r↔∃e∈v.Entries,e.Name=s):=by
 rw[aiH,wj];refine dZ (L:=λi (s:List (List UInt8)×List (List UInt8))=>(pz Pf) v s.1 i s.2) (P:=λr=>rising r=true/\r.length<=v.Entries.length/\∀s,s∈r↔∃e∈v.Entries,e.Name=s) (len:=v.Entries.length) (λi s=>s.2=s.1/\s.1.Nodup/\s.1.length<=i/\∀x,x∈s.1↔∃e∈v.Entries.take i,e.Name=x) (λi s hi hI k=>?_) (λs hI=>?_) 0 ([],[]) (by omega) ⟨rfl,by simp,by simp,by simp⟩
 ·show ae ((pz Pf) v s.1 i s.2) _;obtain⟨a0,a⟩:=s;obtain⟨h1,h2,h3,h4⟩:=hI;simp only at h1 h2 h3 h4⊢;subst h1;obtain⟨x,hx⟩:=bm hi;have:decide (i<v.Entries.length)=true:=by simpa using hi
  have ht:v.Entries.take (i+1)=v.Entries.take i++[x]:=by rw[fB,hx];rfl
  rw[T',ug,XW,az.aF,aW,this,aB,a7 hx,ax,bO i (by omega),eC (by simp;omega),aB];cases hc:a.contains x.Name
  ·rw[Dt,aB,aB];have hno:x.Name∉a:=by simpa using hc
   refine k (a++[x.Name],a++[x.Name]) ⟨rfl,?_,by simp;omega,λy=>?_⟩
   ·rw[kQ];exact⟨h2,by simp,λp hp q hq e=>by simp at hq;subst hq;subst e;exact hno hp⟩
   ·rw[bU,h4 y,ht,iL];constructor
    ·rintro (⟨e,he,h⟩|h)
     ·exact⟨e,mg _ he,h⟩
     ·exact⟨x,by simp,h.symm⟩
    ·rintro ⟨e,he,h⟩;rcases bU.1 he with he|he
     ·exact .inl ⟨e,he,h⟩
     ·simp at he;subst he;exact .inr h.symm
  ·rw[fA,aC];have hyes:x.Name∈a:=by simpa using hc
   refine k (a,a) ⟨rfl,h2,by simp only;omega,λy=>?_⟩;rw[h4 y,ht];constructor
   ·rintro ⟨e,he,h⟩;exact⟨e,mg _ he,h⟩
   ·rintro ⟨e,he,h⟩;rcases bU.1 he with he|he
    ·exact⟨e,he,h⟩
    ·simp at he;subst he;rw[<-h];exact(h4 _).1 hyes
 ·show ae ((pz Pf) v s.1 v.Entries.length s.2) _;obtain⟨a0,a⟩:=s;obtain⟨h1,h2,h3,h4⟩:=hI;simp only at h1 h2 h3 h4⊢;subst h1;rw[eN]at h4;have:decide (v.Entries.length<v.Entries.length)=false:=by simp
  have hs:wm a=some ((),dJ eB a):=(afh a).trans (by rw[eC (by omega)];rfl);rw[T',ug,XW,az.aF,aW,this,aC,hs,ax,dN (by rw[bH,bH,nc]),aB];refine ae.ret ⟨?_,by rw[nc];exact h3,λx=>by rw[(oc a).mem_iff];exact h4 x⟩;rw[tA];have nd:(dJ eB a).Nodup:=(oc a).symm.nodup h2;exact(List.Pairwise.and (sV ng a) nd).imp λ{p q} h=>(H3.1 h.1).resolve_left h.2
def seen:List aj->List az->List aj
 |c,[]=>c
 |c,e::es=>seen (qp c e.a8) es
theorem SX:∀{es:List az} {c:List aj},b6 c->(∀e∈es,b6 e.a8)->b6 (seen c es)
 |[],_,h,_=>h
 |e::es,c,h,hs=>(SX (IH h (hs e (by simp))) λf hf=>hs f (by simp[hf]):b6 (seen (qp c e.a8) es))
theorem SY {R:Type} {L:List aj->Int->Option R} {K:List aj->Option R} {es:List az} (hl:es.length<=274877906944) (hs:∀e∈es,b6 e.a8) (hL:∀c j,L c j=bif decide (j<((az.rows es).length:Int))then((aq es j).bind λx=>((f235 Pf) c x.a8).bind λy=>L y (IntKind.i64.wrap (j+1)))else K c):L [] 0=K (seen [] es):=by
 have key:∀k i c,k=es.length-i->i<=es.length->b6 c->L c (i:Int)=K (seen c (es.drop i)):=by
  intro k
  induction k with
  |zero=>
   intro i c hk hi hc;have:i=es.length:=by omega
   subst this;rw[hL,az.aF,aW,Hr];simp[seen]
  |succ k ih=>
   intro i c hk hi hc;obtain⟨x,hx⟩:=bm (by omega:i<es.length);have hxc:=hs x (aY hx);have:decide (i<es.length)=true:=by simp;omega
   rw[hL,az.aF,aW,this,aB,a7 hx,ax,RS hc hxc,ax,bO i (by omega),ih (i+1) _ (by omega) (by omega) (IH hc hxc),jU hx,seen]
 have:=key es.length 0 [] (by omega) (by omega) trivial;simpa using this
theorem acI {v:ah} (hl:v.Entries.length<=274877906944) (hs:∀e∈v.Entries,b6 e.a8):(f272 Pf) v=some (seen [] v.Entries):=by
 rw[aiI,wo];exact SY (L:=λc j=>(zf Pf) v c j) (K:=λc=>some c) hl hs λc j=>by rw[afi,zh]
theorem Ua {c:List aj} {s:List UInt8} (hc:b6 c) (hn:c≠[]) (hs:dw s=true):VE fx ⟨0,[],[],[⟨c,s⟩]⟩:= .CG rfl ⟨λe he=>by simp at he;subst he;exact⟨hn,hc,hs⟩,by simp,λe he f hf _=>by simp at he hf;rw[he,hf]⟩
theorem JJ {c:List aj} {s:List UInt8} (hc:b6 c):BV 64 ⟨0,[],[],[⟨c,s⟩]⟩:= .mk (by simp) (by simp) (by simp) (λe he=>by simp at he;subst he;exact ov hc) (by simp)
section
variable {B:Nat} (hB:B<=1048576)
include hB
theorem acH {v:ah} {n:Int} {s:List UInt8} {m:Nat} (hm:m+64<=137438953472) (hm0:64<=m) (hr:fx.ok B) (hv:VE fx v) (bv:BV m v) (hs:dw s=true):ae ((f185 Pf) v n s) (λr=>VE fx r/\BV (m+64) r):=by
 have sv:SV v:=hv.sv (m:=m) (by omega) bv;have hE:jM v.Entries:=by obtain⟨es,rfl,h⟩:=hv.k9 rfl;exact h
 have hcs:∀e∈v.Entries,b6 e.a8:=λe he=>(hE.1 e he).2.1;have hc:=SX (c:=[]) trivial hcs;have hle:=bv.entries;rw[aiJ,AJ];generalize hp:(if(if n<63 then n else 63)>0 then if n<63 then n else 63 else 0)=p;have p0:0<=p:=by rw[<-hp];split<;>split<;>omega
 have p1:p<=63:=by rw[<-hp];split<;>split<;>omega
 have hw:(f234 Pf) v p s=some (if bV p (seen [] v.Entries)=1000000000000000 then(⟨0,[],[],[]⟩,6)else(⟨0,[],[],[⟨F2 (seen [] v.Entries) p,s⟩]⟩,0)):=by
  have hlat:(f270 Pf)=some fx:=by rw[aiK,AK];rfl
  rw[aiL,AL,hlat,ax,H4 hB hr yA sv hv,ax,fA,aC,dH (by omega),aC,dH (by omega),aC,lM s (by have:=uh hs;omega),ax,hs,fA,aC,acI (by omega) hcs,ax,agp hc p0 p1,ax];by_cases e:bV p (seen [] v.Entries)=1000000000000000
  ·rw[bf e,bf e];rfl
  ·rw[aM e,aM e];simp only[bne_self_eq_false,aC,aiM,AM];rfl
 rw[hw,ax];by_cases e:bV p (seen [] v.Entries)=1000000000000000
 ·rw[bf e];show ae ((ui Pf) v s [] 0) _;have hne:seen [] v.Entries≠[]:=λe'=>by rw[e']at e;simp[bV]at e
  rw[SY (L:=λc j=>(ui Pf) v s c j) (K:=λc=>((f43 Pf) fx v ⟨0,[],[],[⟨c,s⟩]⟩).bind λy=>some y.1) (by omega) hcs λc j=>by rw[afj];rfl];refine ae.bind (IF hB hr yA hv (Ua hc hne hs) (bv.mono (by omega)) ((JJ hc).mono (by omega))) (λy hy=>ae.ret ⟨hy.2.1.ve,hy.2.2 m 64 hm0 bv (JJ hc)⟩)
 ·rw[aM e];have:=adL hc p0 p1 e;exact ae.ret ⟨Ua this.1 this.2 hs,(JJ this.1).mono (by omega)⟩
end
theorem afg {l:ai} {ns:List (List UInt8)} (hl:l.Names.length<=274877906944) (hn:ns.length<=274877906944):(f233 Pf) l ns=some (ns.filter λs=>eO l.Names s):=by
 have hk:∀x,(f269 Pf) x l=some (!eO l.Names x):=λx=>by rw[aiN,AN,DL (by omega)];rfl
 have hcl:(qf Pu) ns=some ns:=by rw[Xr,vM];exact nf (by omega)
 have hix:(Ed Pf) ns l=some (idxOf (λx=>!eO l.Names x) ns 0):=by
  rw[acJ,tB];refine yB (a:=ns) (L:=λi=>(qH Pf) ns l i) (λx=>!eO l.Names x) (λi x hx hi=>?_) ?_
  ·show(qH Pf) ns l i=_;have:decide (i<ns.length)=true:=by simpa using hi
   rw[Qh,sT,bH,aW,this,aB,a7 hx,ax,hk,ax,bO i (by omega)]
  ·show(qH Pf) ns l ns.length=_;have:decide (ns.length<ns.length)=false:=by simp
   rw[Qh,sT,bH,aW,this,aC]
 rw[aiO,AO,ag6,hcl,ax,hix,ax];rcases xN (λx=>!eO l.Names x) ns 0 with⟨h1,h2⟩|⟨i0,x0,h1,h2,h3,h4⟩
 ·have e:idxOf (λx=>!eO l.Names x) ns 0= -1:=h1;rw[e,aau.2 λx hx=>by simpa using h2 x hx];rfl
 ·have e:idxOf (λx=>!eO l.Names x) ns 0=((i0:Nat):Int):=by
   have e:idxOf (λx=>!eO l.Names x) ns 0=((0+i0:Nat):Int):=h1;rw[e,mi]
  have hi0:=(cr.1 h2).1;have hneg:(((i0:Nat):Int)== -1)=false:=by simp
  rw[e,hneg,aC,bO i0 (by omega)];have f0:(ns.take i0).filter (λs=>eO l.Names s)=ns.take i0:=aau.2 λx hx=>by
   obtain⟨j,hj⟩:=jB hx;have hj1:=(cr.1 hj).1;rw[iv]at hj1;rw[PX (by omega)]at hj;simpa using h4 j x (by omega) hj
  have f1:(ns.take (i0+1)).filter (λs=>eO l.Names s)=ns.take i0:=by
   have h3:eO l.Names x0=false:=by simpa using h3
   rw[fB,h2,Hs,f0];simp[h3]
  refine ae.of (dZ (L:=λi (s:List (List UInt8)×Nat)=>(pA Pf) l s.1 (s.2:Int) i) (P:=λr=>r=ns.filter λs=>eO l.Names s) (len:=ns.length) (λj s=>s.1.length=ns.length/\s.2=((ns.take j).filter λs=>eO l.Names s).length/\s.1.take s.2=(ns.take j).filter (λs=>eO l.Names s)/\s.2<j/\∀k,j<=k->s.1[k]? =ns[k]?) (λj s hj hI k=>?_) (λs hI=>?_) (i0+1) (ns,i0) (by omega) ⟨rfl,by rw[f1,iv];omega,by rw[f1],by simp only;omega,λ_ _=>rfl⟩)
  ·show ae ((pA Pf) l s.1 (s.2:Int) j) _;obtain⟨c,m⟩:=s;obtain⟨g1,g2,g3,g4,g5⟩:=hI;simp only at g1 g2 g3 g4 g5⊢;obtain⟨x,hx⟩:=bm hj;have hx':c[j]? =some x:=by rw[g5 j (bW _)];exact hx
   have:decide (j<c.length)=true:=by simp;omega
   obtain⟨z,hz⟩:=bm (l:=c) (i:=m) (by omega);have ht:ns.take (j+1)=ns.take j++[x]:=by rw[fB,hx];rfl
   rw[Ub,uj,bH,aW,this,aB,a7 hx',ax,hk,ax,Bool.not_not,a7 hz,ax,bO m (by omega),bO j (by omega),mj];refine ae.bif (λh=>k (c.set m x,m+1) ?_) (λh=>k (c,m) ?_)
   ·have hf:(ns.take (j+1)).filter (λs=>eO l.Names s)=(ns.take j).filter (λs=>eO l.Names s)++[x]:=by
     rw[ht,Hs];simp[h]
    refine⟨by simp[g1],by rw[hf];simp[g2],?_,by simp only;omega,λk hk=>?_⟩
    ·show(c.set m x).take (m+1)=_;rw[hf,<-g3,fB,PS (by omega),List.take_set_of_le (bW _)];rfl
    ·show(c.set m x)[k]? =_;rw[Dv (by omega),g5 k (by omega)]
   ·have hf:(ns.take (j+1)).filter (λs=>eO l.Names s)=(ns.take j).filter (λs=>eO l.Names s):=by
     rw[ht,Hs];simp[h]
    exact⟨g1,by rw[hf];exact g2,by rw[hf];exact g3,by simp only;omega,λk hk=>g5 k (by omega)⟩
  ·show ae ((pA Pf) l s.1 (s.2:Int) ns.length) _;obtain⟨c,m⟩:=s;obtain⟨g1,g2,g3,g4,g5⟩:=hI;simp only at g1 g2 g3 g4 g5⊢;rw[eN]at g2 g3;have:decide (ns.length<c.length)=false:=by simp;omega
   have hle:m<=c.length:=by omega
   rw[Ub,uj,bH,aW,this,aC,mj,dN ⟨by omega,hle⟩,aB,uk (by simp;omega),ax];refine ae.ret ?_;rw[List.take_append_of_le_length (by simp;omega),List.take_take,Nat.min_self,g3]
mutual
def cd:ab->Nat
 |⟨_,_,_,_,_,ks⟩=>1+cV ks
def cV:List ab->Nat
 |[]=>0
 |k::ks=>cd k+cV ks
end
theorem q7 (x:ab):cd x=1+cV x.Kids:=by cases x;rw[cd]
theorem od:∀{ks:List ab} {k:ab},k∈ks->cd k<=cV ks
 |q::ks,k,h=>by
  rw[cV];rcases ck.1 h with rfl|h
  ·omega
  ·have:=od h;omega
theorem adJ {x k:ab} (h:k∈x.Kids):cd k<cd x:=by rw[q7 x];have:=od h;omega
theorem Eb:∀{a b:List ab},cV (a++b)=cV a+cV b
 |[],b=>by simp[cV]
 |x::a,b=>by rw[jR,cV,cV,Eb];omega
theorem Rb {ks:List ab} {i:Nat} {k:ab} (h:ks[i]? =some k):cV (ks.take (i+1))=cV (ks.take i)+cd k:=by
 rw[fB,h,Eb];simp[cV]
theorem aaL {ks:List ab} {i:Nat}:cV (ks.take i)<=cV ks:=by
 have:cV ks=cV (ks.take i)+cV (ks.drop i):=by rw[<-Eb,Dk]
 omega
theorem tv:∀{ks:List ab},ks.length<=cV ks
 |[]=>by simp
 |k::ks=>by have:= @tv ks;rw[cV,q7];simp;omega
inductive DV:Int->br->Prop
 |int {n:Int}: -1000000000000000<=n->n<=1000000000000000->DV 1 ⟨1,n,[],[]⟩
 |bool {n:Int}:(n=0\/n=1)->DV 2 ⟨2,n,[],[]⟩
 |name {s:List UInt8}:dw s=true->DV 3 ⟨3,0,s,[]⟩
 |set {ns:List (List UInt8)}:rising ns=true->(∀s∈ns,dw s=true)->DV 4 ⟨4,0,[],ns⟩
def zV:ah:=⟨0,[],[],[]⟩
def zD:br:=⟨0,0,[],[]⟩
inductive RV (t:aP) (m:Nat):bP->Prop
 |v {x:ah}:t.a6=0->VE t.aJ x->BV m x->RV t m ⟨zD,x⟩
 |d {x:br}:t.a6≠0->DV t.a6 x->x.Names.length<=m->RV t m ⟨x,zV⟩
theorem RV.mono {t:aP} {m n:Nat} {r:bP} (h:m<=n) (g:RV t m r):RV t n r:=by
 cases g with
 |v h1 h2 h3=>exact .v h1 h2 (h3.mono h)
 |d h1 h2 h3=>exact .d h1 h2 (by omega)
theorem RV.val {t:aP} {m:Nat} {r:bP} (g:RV t m r) (hs:t.a6=0):∃x,r=⟨zD,x⟩/\VE t.aJ x/\BV m x:=by
 cases g with
 |v h1 h2 h3=>exact⟨_,rfl,h2,h3⟩
 |d h1 h2 h3=>exact absurd hs h1
theorem RV.dK {t:aP} {m:Nat} {r:bP} (g:RV t m r) (hs:t.a6≠0):∃x,r=⟨x,zV⟩/\DV t.a6 x/\x.Names.length<=m:=by
 cases g with
 |v h1 h2 h3=>exact absurd h1 hs
 |d h1 h2 h3=>exact⟨_,rfl,h2,h3⟩
theorem RV.bool {m:Nat} {r:bP} (g:RV (bo 2) m r):∃n,r=⟨⟨2,n,[],[]⟩,zV⟩/\(n=0\/n=1):=by
 obtain⟨x,rfl,h,_⟩:=g.dK (by decide);have h:DV 2 x:=h;cases h with
 |bool h1=>exact⟨_,rfl,h1⟩
theorem RV.name {m:Nat} {r:bP} (g:RV (bo 3) m r):∃s,r=⟨⟨3,0,s,[]⟩,zV⟩/\dw s=true:=by
 obtain⟨x,rfl,h,_⟩:=g.dK (by decide);have h:DV 3 x:=h;cases h with
 |name h1=>exact⟨_,rfl,h1⟩
theorem RV.set {m:Nat} {r:bP} (g:RV (bo 4) m r):∃ns,r=⟨⟨4,0,[],ns⟩,zV⟩/\rising ns=true/\(∀s∈ns,dw s=true)/\ns.length<=m:=by
 obtain⟨x,rfl,h,hl⟩:=g.dK (by decide);have h:DV 4 x:=h;cases h with
 |set h1 h2=>exact⟨_,rfl,h1,h2,hl⟩
theorem ae.id {D:Type} {o:Option D} {P:D->Prop} (h:ae o P):ae (o.bind λy=>some y) P:=by obtain⟨r,rfl,h⟩:=h;exact⟨r,rfl,h⟩
theorem Fit.eq {w t:aP} (h:Fit w t) (hn:isNone w=false):t=w:=(h hn).symm
theorem W.ty {l:ai} {ps:List TParam} {x:ab} {w:aP} (h:W l ps x w) (hn:isNone w=false):x.aO=w:=by
 have no:∀{P:Prop},isNone w=true->P:=λe=>by rw[e]at hn;cases hn
 cases h<;>first|rfl|(apply Fit.eq<;>assumption)|(apply no;assumption)
theorem zd {n:Int} {m:Nat} (h0: -1000000000000000<=n) (h1:n<=1000000000000000):ae ((f176 Pf) n) (RV (bo 1) m):=by
 rw[aiE,AG];exact ae.ret (.d (by decide) (.int h0 h1) (by simp))
theorem jC {b:Bool} {m:Nat}:ae ((f177 Pf) b) (RV (bo 2) m):=by
 rw[aiF,AH];cases b
 ·exact ae.ret (.d (by decide) (.bool (.inl rfl)) (by simp))
 ·exact ae.ret (.d (by decide) (.bool (.inr rfl)) (by simp))
theorem T4 (n:Int):ae ((f181 Pf) n) (λr=> -1000000000000000<=r/\r<=1000000000000000):=by
 rw[aiG,AI];refine ae.ret ?_;split<;>split<;>omega
section
variable {fr:cL} {x k:ab} {Q:bP->Prop}
theorem uc (h:x.Op<=6) (t:ae ((f131 Pf) fr x) Q):ae ((f86 Pf) fr x) Q:=by
 rw[qz,mb,dN h,aB];exact ae.id t
theorem kD (h:7<=x.Op) (h':x.Op<=18) (t:ae ((f132 Pf) fr x) Q):ae ((f86 Pf) fr x) Q:=by
 rw[qz,mb,dH (by omega),aC,dN h',aB];exact ae.id t
theorem Jm (h:x.Op=19\/x.Op=20\/x.Op=35\/x.Op=36) (t:ae ((f133 Pf) fr x) Q):ae ((f86 Pf) fr x) Q:=by
 rw[qz,mb];rcases h with h|h|h|h<;>rw[h]<;>exact ae.id t
theorem pV (h:21<=x.Op) (h':x.Op<=28) (t:ae ((f134 Pf) fr x) Q):ae ((f86 Pf) fr x) Q:=by
 have e1:(x.Op==35)=false:=by simp;omega
 have e2:(x.Op==36)=false:=by simp;omega
 rw[qz,mb,dH (by omega),aC,dH (by omega),aC,dH (by omega),aC,e1,aC,e2,aC,dN h',aB];exact ae.id t
theorem JI (h:(29<=x.Op/\x.Op<=34)\/x.Op=37) (t:ae ((f135 Pf) fr x) Q):ae ((f86 Pf) fr x) Q:=by
 have e1:(x.Op==35)=false:=by simp;omega
 have e2:(x.Op==36)=false:=by simp;omega
 rw[qz,mb,dH (by omega),aC,dH (by omega),aC,dH (by omega),aC,e1,aC,e2,aC,dH (by omega),aC];exact ae.id t
theorem ei {i:Int} (h:aq x.Kids i=some k) (t:ae ((f86 Pf) fr k) Q):ae ((f179 Pf) i fr x) Q:=by
 rw[XU,vZ,h,ax];exact ae.id t
theorem mr {i:Int} (h:aq x.Kids i=some k) (t:ae ((f86 Pf) fr k) Q):ae ((f182 Pf) i fr x) Q:=by
 rw[XT,vY,h,ax];exact ae.id t
