/- Copies; Join and Leq. -/
import Derived.Test.YtmbalfjhlngncaaGreatKKf
import Derived.Test.YtmbalfjhlngncaaGreatKVa9
set_option linter.all false
namespace Go.Proofs.YtmbalfjhlngncaaGreat
open Go Go.Bw
theorem Z2:∀v:af,SV v->(f190 Pf) v=some v:=by
 refine af.ind λv ih hv=>?_;cases hv with
 |mk v1 v2 v3 v4 v5 v6=>
 have l2:(oM Pf) v v.Names 0 v.aj []=some v:=by
  refine ab.of (dX (L:=λi s=>(oM Pf) v v.Names i v.aj s) (P:=λr=>r=v) (len:=v.Entries.length) (λi s=>s=v.Entries.take i) (λi s hi hI k=>?_) (λs hI=>?_) 0 [] (by omega) rfl)
  ·show ab ((oM Pf) v v.Names i v.aj s) _;obtain⟨x,hx⟩:=bw hi;have:=(v5 x (a7 hx)).1;have hc:(f92 Pf) x.aY=some x.aY:=by rw[Xk,vL];exact mw (by omega)
   have:decide (i<v.Entries.length)=true:=by simpa using hi
   rw[QW,tc,ax.aI,a6,this,aD,bg hx,aw,hc,aw,dW (by rw[hI];simp;omega),aD,bM i (by omega)];exact k _ (by rw[hI,eY,hx];rfl)
  ·show ab ((oM Pf) v v.Names v.Entries.length v.aj s) _;have:decide (v.Entries.length<v.Entries.length)=false:=by simp
   rw[QW,tc,ax.aI,a6,this,aF,hI,eQ];exact ab.ret (by cases v;rfl)
 rw[afI,zh,show(f51 Pf) v.Names=some v.Names by rw[Bd];exact mw (by omega),aw];refine ab.of (dX (L:=λi s=>(qn Pf) v v.Names i s) (P:=λr=>r=v) (len:=v.aj.length) (λi s=>s=v.aj.take i) (λi s hi hI k=>?_) (λs hI=>?_) 0 [] (by omega) rfl)
 ·show ab ((qn Pf) v v.Names i s) _;obtain⟨x,hx⟩:=bw hi;have hm:=a7 hx;have:decide (i<v.aj.length)=true:=by simpa using hi
  rw[QX,te,af.aI,a6,this,aD,bg hx,aw,ih x hm (v6 x hm),aw,dW (by rw[hI];simp;omega),aD,bM i (by omega)];exact k _ (by rw[hI,eY,hx];rfl)
 ·show ab ((qn Pf) v v.Names v.aj.length s) _;have:decide (v.aj.length<v.aj.length)=false:=by simp
  rw[QX,te,af.aI,a6,this,aF,hI,eQ,l2];exact ab.ret rfl
theorem ZZ:∀v:af,SV v->(f52 Pf) v=some v:=by
 refine af.ind λv ih hv=>?_;cases hv with
 |mk v1 v2 v3 v4 v5 v6=>
 have l2:(pe Pf) v v.Names 0 v.aj []=some v:=by
  refine ab.of (dX (L:=λi s=>(pe Pf) v v.Names i v.aj s) (P:=λr=>r=v) (len:=v.Entries.length) (λi s=>s=v.Entries.take i) (λi s hi hI k=>?_) (λs hI=>?_) 0 [] (by omega) rfl)
  ·show ab ((pe Pf) v v.Names i v.aj s) _;obtain⟨x,hx⟩:=bw hi;have:=(v5 x (a7 hx)).1;have hc:(f92 Pf) x.aY=some x.aY:=by rw[Xk,vL];exact mw (by omega)
   have:decide (i<v.Entries.length)=true:=by simpa using hi
   rw[Ti,um,ax.aI,a6,this,aD,bg hx,aw,hc,aw,dW (by rw[hI];simp;omega),aD,bM i (by omega)];exact k _ (by rw[hI,eY,hx];rfl)
  ·show ab ((pe Pf) v v.Names v.Entries.length v.aj s) _;have:decide (v.Entries.length<v.Entries.length)=false:=by simp
   rw[Ti,um,ax.aI,a6,this,aF,hI,eQ];exact ab.ret (by cases v;rfl)
 rw[e52,Bn,show(f51 Pf) v.Names=some v.Names by rw[Bd];exact mw (by omega),aw];refine ab.of (dX (L:=λi s=>(qP Pf) v v.Names i s) (P:=λr=>r=v) (len:=v.aj.length) (λi s=>s=v.aj.take i) (λi s hi hI k=>?_) (λs hI=>?_) 0 [] (by omega) rfl)
 ·show ab ((qP Pf) v v.Names i s) _;obtain⟨x,hx⟩:=bw hi;have hm:=a7 hx;have:decide (i<v.aj.length)=true:=by simpa using hi
  rw[Tj,uo,af.aI,a6,this,aD,bg hx,aw,ih x hm (v6 x hm),aw,dW (by rw[hI];simp;omega),aD,bM i (by omega)];exact k _ (by rw[hI,eY,hx];rfl)
 ·show ab ((qP Pf) v v.Names v.aj.length s) _;have:decide (v.aj.length<v.aj.length)=false:=by simp
  rw[Tj,uo,af.aI,a6,this,aF,hI,eQ,l2];exact ab.ret rfl
section
variable {B:Nat} (hB:B<=1048576)
include hB
theorem OX {l:ah} {a b:af} (hl:l.ok B) (hL:cj l) (ha:VE l a) (hb:VE l b) (sa:SV a) (sb:SV b):(f127 Pf) l [a,b]=some 0:=by
 have e:(f191 Pf) l [a,b]=some true:=by
  have i0:IntKind.i64.wrap ((0:Int)+1)=1:=by decide
  have i1:IntKind.i64.wrap ((1:Int)+1)=2:=by decide
  rw[afJ,uZ,HF,qp,af.aI];rw[show decide ((0:Int)<(([a,b]:List af).length:Int))=true by rfl,aD,dZ,aw,Gn hB hl hL sa ha,aw,fm,aF,i0,HF,qp,af.aI];rw[show decide ((1:Int)<(([a,b]:List af).length:Int))=true by rfl,aD,show ao [a,b] 1=some b from rfl,aw,Gn hB hl hL sb hb,aw,fm,aF,i1,HF,qp,af.aI];rw[show decide ((2:Int)<(([a,b]:List af).length:Int))=false by rfl,aF]
 rw[afK,zj,CO (by omega) hl hL,aw,e];rfl
theorem adq {l:ah} {a b:af} (hl:l.ok B) (hL:cj l) (ha:VE l a) (hb:VE l b) (sa:SV a) (sb:SV b):ab ((f69 Pf) l a b) (λr=>r=true↔aS l a b):=by
 rw[e69,Bo,OX hB hl hL ha hb sa sb,aw];exact ab.bind (HG l hL a b ha hb sa sb) (λy hy=>ab.ret hy)
theorem DS:∀l:ah,l.ok B->BV 1048576 (bot l):=by
 refine ah.ind λl ih hl=>?_;rw[ah.dO]at hl;obtain⟨_,_,_,_,⟨hp,hpp⟩,_⟩:=hl;have nil:∀n,BV 1048576 ⟨n,[],[],[]⟩:=λn=> .mk (by simp) (by simp) (by simp) (by simp) (by simp);rw[DT];split
 ·exact nil _
 ·split
  ·exact nil _
  ·split
   ·refine .mk (by simp) (by simp;omega) (by simp) (by simp) λp hp=>?_;simp only[dE]at hp;obtain⟨q,hq,rfl⟩:=hp;exact ih q hq (ah.gJ hpp hq)
   ·exact nil _
theorem PK {l:ah} {a b:af} (hl:l.ok B) (hL:cj l) (ha:VE l a) (hb:VE l b) (ba:BV 137438953472 a) (bb:BV 137438953472 b):ab ((f68 Pf) l a b) (λr=>r.2=0/\ed l a b r.1):=by
 have sa:SV a:=ha.sv (m:=137438953472) (by omega) ba;have sb:SV b:=hb.sv (m:=137438953472) (by omega) bb;have b0:BV 137438953472 (bot l):=(DS hB l hl).mono (by omega);have h0:=xM hL;obtain⟨a',e1,g1⟩:=PR l hL (bot l) a h0 ha b0 ba;have:a'=a:=g1.1.unique hL (ie.bot hL ha);subst this;obtain⟨j,e2,g2⟩:=PR l hL a' b ha hb ba bb;have sj:SV j:=g2.1.ve.sv (m:=274877906944) (by omega) (g2.2 _ _ (by omega) ba bb);have i0:IntKind.i64.wrap ((0:Int)+1)=1:=by decide
 have i1:IntKind.i64.wrap ((1:Int)+1)=2:=by decide
 have hle:(f188 Pf) l=some (bot l):=by rw[afL,zm,OV hB hl hL];rfl
 rw[e68,Bp,afM,zr,OX hB hl hL ha hb sa sb,aw];show ab ((((f188 Pf) l).bind _).bind _) _;rw[hle,aw,HH,qq,af.aI];rw[show decide ((0:Int)<(([a',b]:List af).length:Int))=true by rfl,aD,dZ,aw,e1,aw,i0,HH,qq,af.aI];rw[show decide ((1:Int)<(([a',b]:List af).length:Int))=true by rfl,aD,show ao [a',b] 1=some b from rfl,aw,e2,aw,i1,HH,qq,af.aI];rw[show decide ((2:Int)<(([a',b]:List af).length:Int))=false by rfl,aF,Z2 j sj];exact ab.ret ⟨rfl,g2⟩
end
theorem Oc {v:af} (hl:v.Entries.length<=274877906944):ab ((f154 Pf) v) (λr=>rising r=true/\r.length<=v.Entries.length/\∀s,s∈r↔∃e∈v.Entries,e.Name=s):=by
 rw[afz,uV];refine dX (L:=λi (s:List (List UInt8)×List (List UInt8))=>(oK Pf) v s.1 i s.2) (P:=λr=>rising r=true/\r.length<=v.Entries.length/\∀s,s∈r↔∃e∈v.Entries,e.Name=s) (len:=v.Entries.length) (λi s=>s.2=s.1/\s.1.Nodup/\s.1.length<=i/\∀x,x∈s.1↔∃e∈v.Entries.take i,e.Name=x) (λi s hi hI k=>?_) (λs hI=>?_) 0 ([],[]) (by omega) ⟨rfl,by simp,by simp,by simp⟩
 ·show ab ((oK Pf) v s.1 i s.2) _;obtain⟨a0,a⟩:=s;obtain⟨h1,h2,h3,h4⟩:=hI;simp only at h1 h2 h3 h4⊢;subst h1;obtain⟨x,hx⟩:=bw hi;have:decide (i<v.Entries.length)=true:=by simpa using hi
  have ht:v.Entries.take (i+1)=v.Entries.take i++[x]:=by rw[eY,hx];rfl
  rw[QT,sW,UK,ax.aI,a6,this,aD,bg hx,aw,bM i (by omega),dW (by simp;omega),aD];cases hc:a.contains x.Name
  ·rw[BU,aD,aD];have hno:x.Name∉a:=by simpa using hc
   refine k (a++[x.Name],a++[x.Name]) ⟨rfl,?_,by simp;omega,λy=>?_⟩
   ·rw[kg];exact⟨h2,by simp,λp hp q hq e=>by simp at hq;subst hq;subst e;exact hno hp⟩
   ·rw[bO,h4 y,ht,gS];constructor
    ·rintro (⟨e,he,h⟩|h)
     ·exact⟨e,ly _ he,h⟩
     ·exact⟨x,by simp,h.symm⟩
    ·rintro ⟨e,he,h⟩;rcases bO.1 he with he|he
     ·exact .inl ⟨e,he,h⟩
     ·simp at he;subst he;exact .inr h.symm
  ·rw[fm,aF];have hyes:x.Name∈a:=by simpa using hc
   refine k (a,a) ⟨rfl,h2,by simp only;omega,λy=>?_⟩;rw[h4 y,ht];constructor
   ·rintro ⟨e,he,h⟩;exact⟨e,ly _ he,h⟩
   ·rintro ⟨e,he,h⟩;rcases bO.1 he with he|he
    ·exact⟨e,he,h⟩
    ·simp at he;subst he;rw[<-h];exact(h4 _).1 hyes
 ·show ab ((oK Pf) v s.1 v.Entries.length s.2) _;obtain⟨a0,a⟩:=s;obtain⟨h1,h2,h3,h4⟩:=hI;simp only at h1 h2 h3 h4⊢;subst h1;rw[eQ]at h4;have:decide (v.Entries.length<v.Entries.length)=false:=by simp
  have hs:uW a=some ((),dw dU a):=(ads a).trans (by rw[dW (by omega)];rfl);rw[QT,sW,UK,ax.aI,a6,this,aF,hs,aw,dI (by rw[bD,bD,mv]),aD];refine ab.ret ⟨?_,by rw[mv];exact h3,λx=>by rw[(nk a).mem_iff];exact h4 x⟩;rw[sD];have nd:(dw dU a).Nodup:=(nk a).symm.nodup h2;exact(List.Pairwise.and (rY mx a) nd).imp λ{p q} h=>(Gm.1 h.1).resolve_left h.2
def seen:List ai->List ax->List ai
 |c,[]=>c
 |c,e::es=>seen (pC c e.aY) es
theorem PO:∀{es:List ax} {c:List ai},bQ c->(∀e∈es,bQ e.aY)->bQ (seen c es)
 |[],_,h,_=>h
 |e::es,c,h,hs=>(PO (G2 h (hs e (by simp))) λf hf=>hs f (by simp[hf]):bQ (seen (pC c e.aY) es))
theorem PQ {R:Type} {L:List ai->Int->Option R} {K:List ai->Option R} {es:List ax} (hl:es.length<=274877906944) (hs:∀e∈es,bQ e.aY) (hL:∀c j,L c j=bif decide (j<((ax.rows es).length:Int))then((ao es j).bind λx=>((f209 Pf) c x.aY).bind λy=>L y (IntKind.i64.wrap (j+1)))else K c):L [] 0=K (seen [] es):=by
 have key:∀k i c,k=es.length-i->i<=es.length->bQ c->L c (i:Int)=K (seen c (es.drop i)):=by
  intro k
  induction k with
  |zero=>
   intro i c hk hi hc;have:i=es.length:=by omega
   subst this;rw[hL,ax.aI,a6,FG];simp[seen]
  |succ k ih=>
   intro i c hk hi hc;obtain⟨x,hx⟩:=bw (by omega:i<es.length);have hxc:=hs x (a7 hx);have:decide (i<es.length)=true:=by simp;omega
   rw[hL,ax.aI,a6,this,aD,bg hx,aw,OW hc hxc,aw,bM i (by omega),ih (i+1) _ (by omega) (by omega) (G2 hc hxc),jq hx,seen]
 have:=key es.length 0 [] (by omega) (by omega) trivial;simpa using this
theorem aaQ {v:af} (hl:v.Entries.length<=274877906944) (hs:∀e∈v.Entries,bQ e.aY):(f269 Pf) v=some (seen [] v.Entries):=by
 rw[afA,uX];exact PQ (L:=λc j=>(xn Pf) v c j) (K:=λc=>some c) hl hs λc j=>by rw[adt,xo]
theorem QU {c:List ai} {s:List UInt8} (hc:bQ c) (hn:c≠[]) (hs:de s=true):VE eN ⟨0,[],[],[⟨c,s⟩]⟩:= .Bm rfl ⟨λe he=>by simp at he;subst he;exact⟨hn,hc,hs⟩,by simp,λe he f hf _=>by simp at he hf;rw[he,hf]⟩
theorem H6 {c:List ai} {s:List UInt8} (hc:bQ c):BV 64 ⟨0,[],[],[⟨c,s⟩]⟩:= .mk (by simp) (by simp) (by simp) (λe he=>by simp at he;subst he;exact ny hc) (by simp)
section
variable {B:Nat} (hB:B<=1048576)
include hB
theorem aaP {v:af} {n:Int} {s:List UInt8} {m:Nat} (hm:m+64<=137438953472) (hm0:64<=m) (hr:eN.ok B) (hv:VE eN v) (bv:BV m v) (hs:de s=true):ab ((f150 Pf) v n s) (λr=>VE eN r/\BV (m+64) r):=by
 have sv:SV v:=hv.sv (m:=m) (by omega) bv;have hE:iZ v.Entries:=by obtain⟨es,rfl,h⟩:=hv.k9 rfl;exact h
 have hcs:∀e∈v.Entries,bQ e.aY:=λe he=>(hE.1 e he).2.1;have hc:=PO (c:=[]) trivial hcs;have hle:=bv.entries;rw[afB,yW];generalize hp:(if(if n<63 then n else 63)>0 then if n<63 then n else 63 else 0)=p;have p0:0<=p:=by rw[<-hp];split<;>split<;>omega
 have p1:p<=63:=by rw[<-hp];split<;>split<;>omega
 have hw:(f208 Pf) v p s=some (if bR p (seen [] v.Entries)=1000000000000000 then(⟨0,[],[],[]⟩,6)else(⟨0,[],[],[⟨Ej (seen [] v.Entries) p,s⟩]⟩,0)):=by
  have hlat:(f267 Pf)=some eN:=by rw[afC,yZ];rfl
  rw[afD,za,hlat,aw,Gn hB hr w5 sv hv,aw,fm,aF,dM (by omega),aF,dM (by omega),aF,kN s (by have:=sX hs;omega),aw,hs,fm,aF,aaQ (by omega) hcs,aw,aey hc p0 p1,aw];by_cases e:bR p (seen [] v.Entries)=1000000000000000
  ·rw[bq e,bq e];rfl
  ·rw[aN e,aN e];simp only[bne_self_eq_false,aF,afE,zc];rfl
 rw[hw,aw];by_cases e:bR p (seen [] v.Entries)=1000000000000000
 ·rw[bq e];show ab ((sY Pf) v s [] 0) _;have hne:seen [] v.Entries≠[]:=λe'=>by rw[e']at e;simp[bR]at e
  rw[PQ (L:=λc j=>(sY Pf) v s c j) (K:=λc=>((f68 Pf) eN v ⟨0,[],[],[⟨c,s⟩]⟩).bind λy=>some y.1) (by omega) hcs λc j=>by rw[adu];rfl];refine ab.bind (PK hB hr w5 hv (QU hc hne hs) (bv.mono (by omega)) ((H6 hc).mono (by omega))) (λy hy=>ab.ret ⟨hy.2.1.ve,hy.2.2 m 64 hm0 bv (H6 hc)⟩)
 ·rw[aN e];have:=abU hc p0 p1 e;exact ab.ret ⟨QU this.1 this.2 hs,(H6 this.1).mono (by omega)⟩
end
theorem adr {l:ah} {ns:List (List UInt8)} (hl:l.Names.length<=274877906944) (hn:ns.length<=274877906944):(f206 Pf) l ns=some (ns.filter λs=>er l.Names s):=by
 have hk:∀x,(f262 Pf) x l=some (!er l.Names x):=λx=>by rw[afF,zd,F4 (by omega)];rfl
 have hcl:(pD Pu) ns=some ns:=by rw[UL,uY];exact mw (by omega)
 have hix:(Cw Pf) ns l=some (idxOf (λx=>!er l.Names x) ns 0):=by
  rw[aaR,sE];refine w9 (a:=ns) (L:=λi=>(pW Pf) ns l i) (λx=>!er l.Names x) (λi x hx hi=>?_) ?_
  ·show(pW Pf) ns l i=_;have:decide (i<ns.length)=true:=by simpa using hi
   rw[Nb,rV,bD,a6,this,aD,bg hx,aw,hk,aw,bM i (by omega)]
  ·show(pW Pf) ns l ns.length=_;have:decide (ns.length<ns.length)=false:=by simp
   rw[Nb,rV,bD,a6,this,aF]
 rw[afG,zf,afH,hcl,aw,hix,aw];rcases wG (λx=>!er l.Names x) ns 0 with⟨h1,h2⟩|⟨i0,x0,h1,h2,h3,h4⟩
 ·have e:idxOf (λx=>!er l.Names x) ns 0= -1:=h1;rw[e,YG.2 λx hx=>by simpa using h2 x hx];rfl
 ·have e:idxOf (λx=>!er l.Names x) ns 0=((i0:Nat):Int):=by
   have e:idxOf (λx=>!er l.Names x) ns 0=((0+i0:Nat):Int):=h1;rw[e,lB]
  have hi0:=(b9.1 h2).1;have hneg:(((i0:Nat):Int)== -1)=false:=by simp
  rw[e,hneg,aF,bM i0 (by omega)];have f0:(ns.take i0).filter (λs=>er l.Names s)=ns.take i0:=YG.2 λx hx=>by
   obtain⟨j,hj⟩:=jk hx;have hj1:=(b9.1 hj).1;rw[gU]at hj1;rw[MT (by omega)]at hj;simpa using h4 j x (by omega) hj
  have f1:(ns.take (i0+1)).filter (λs=>er l.Names s)=ns.take i0:=by
   have h3:er l.Names x0=false:=by simpa using h3
   rw[eY,h2,FH,f0];simp[h3]
  refine ab.of (dX (L:=λi (s:List (List UInt8)×Nat)=>(oL Pf) l s.1 (s.2:Int) i) (P:=λr=>r=ns.filter λs=>er l.Names s) (len:=ns.length) (λj s=>s.1.length=ns.length/\s.2=((ns.take j).filter λs=>er l.Names s).length/\s.1.take s.2=(ns.take j).filter (λs=>er l.Names s)/\s.2<j/\∀k,j<=k->s.1[k]? =ns[k]?) (λj s hj hI k=>?_) (λs hI=>?_) (i0+1) (ns,i0) (by omega) ⟨rfl,by rw[f1,gU];omega,by rw[f1],by simp only;omega,λ_ _=>rfl⟩)
  ·show ab ((oL Pf) l s.1 (s.2:Int) j) _;obtain⟨c,m⟩:=s;obtain⟨g1,g2,g3,g4,g5⟩:=hI;simp only at g1 g2 g3 g4 g5⊢;obtain⟨x,hx⟩:=bw hj;have hx':c[j]? =some x:=by rw[g5 j (bS _)];exact hx
   have:decide (j<c.length)=true:=by simp;omega
   obtain⟨z,hz⟩:=bw (l:=c) (i:=m) (by omega);have ht:ns.take (j+1)=ns.take j++[x]:=by rw[eY,hx];rfl
   rw[QV,sZ,bD,a6,this,aD,bg hx',aw,hk,aw,Bool.not_not,bg hz,aw,bM m (by omega),bM j (by omega),lD];refine ab.bif (λh=>k (c.set m x,m+1) ?_) (λh=>k (c,m) ?_)
   ·have hf:(ns.take (j+1)).filter (λs=>er l.Names s)=(ns.take j).filter (λs=>er l.Names s)++[x]:=by
     rw[ht,FH];simp[h]
    refine⟨by simp[g1],by rw[hf];simp[g2],?_,by simp only;omega,λk hk=>?_⟩
    ·show(c.set m x).take (m+1)=_;rw[hf,<-g3,eY,MP (by omega),List.take_set_of_le (bS _)];rfl
    ·show(c.set m x)[k]? =_;rw[BW (by omega),g5 k (by omega)]
   ·have hf:(ns.take (j+1)).filter (λs=>er l.Names s)=(ns.take j).filter (λs=>er l.Names s):=by
     rw[ht,FH];simp[h]
    exact⟨g1,by rw[hf];exact g2,by rw[hf];exact g3,by simp only;omega,λk hk=>g5 k (by omega)⟩
  ·show ab ((oL Pf) l s.1 (s.2:Int) ns.length) _;obtain⟨c,m⟩:=s;obtain⟨g1,g2,g3,g4,g5⟩:=hI;simp only at g1 g2 g3 g4 g5⊢;rw[eQ]at g2 g3;have:decide (ns.length<c.length)=false:=by simp;omega
   have hle:m<=c.length:=by omega
   rw[QV,sZ,bD,a6,this,aF,lD,dI ⟨by omega,hle⟩,aD,ta (by simp;omega),aw];refine ab.ret ?_;rw[List.take_append_of_le_length (by simp;omega),List.take_take,Nat.min_self,g3]
mutual
def cz:ae->Nat
 |⟨_,_,_,_,_,ks⟩=>1+cU ks
def cU:List ae->Nat
 |[]=>0
 |k::ks=>cz k+cU ks
end
theorem qk (x:ae):cz x=1+cU x.Kids:=by cases x;rw[cz]
theorem sC:∀{ks:List ae} {k:ae},k∈ks->cz k<=cU ks
 |q::ks,k,h=>by
  rw[cU];rcases b6.1 h with rfl|h
  ·omega
  ·have:=sC h;omega
theorem abS {x k:ae} (h:k∈x.Kids):cz k<cz x:=by rw[qk x];have:=sC h;omega
theorem Ct:∀{a b:List ae},cU (a++b)=cU a+cU b
 |[],b=>by simp[cU]
 |x::a,b=>by rw[ke,cU,cU,Ct];omega
theorem Ob {ks:List ae} {i:Nat} {k:ae} (h:ks[i]? =some k):cU (ks.take (i+1))=cU (ks.take i)+cz k:=by
 rw[eY,h,Ct];simp[cU]
theorem YW {ks:List ae} {i:Nat}:cU (ks.take i)<=cU ks:=by
 have:cU ks=cU (ks.take i)+cU (ks.drop i):=by rw[<-Ct,BK]
 omega
theorem Cv:∀{ks:List ae},ks.length<=cU ks
 |[]=>by simp
 |k::ks=>by have:= @Cv ks;rw[cU,qk];simp;omega
inductive DV:Int->aR->Prop
 |int {n:Int}: -1000000000000000<=n->n<=1000000000000000->DV 1 ⟨1,n,[],[]⟩
 |bool {n:Int}:(n=0\/n=1)->DV 2 ⟨2,n,[],[]⟩
 |name {s:List UInt8}:de s=true->DV 3 ⟨3,0,s,[]⟩
 |set {ns:List (List UInt8)}:rising ns=true->(∀s∈ns,de s=true)->DV 4 ⟨4,0,[],ns⟩
def zV:af:=⟨0,[],[],[]⟩
def zD:aR:=⟨0,0,[],[]⟩
inductive RV (t:aP) (m:Nat):bL->Prop
 |v {x:af}:t.aX=0->VE t.aL x->BV m x->RV t m ⟨zD,x⟩
 |d {x:aR}:t.aX≠0->DV t.aX x->x.Names.length<=m->RV t m ⟨x,zV⟩
theorem RV.mono {t:aP} {m n:Nat} {r:bL} (h:m<=n) (g:RV t m r):RV t n r:=by
 cases g with
 |v h1 h2 h3=>exact .v h1 h2 (h3.mono h)
 |d h1 h2 h3=>exact .d h1 h2 (by omega)
theorem RV.val {t:aP} {m:Nat} {r:bL} (g:RV t m r) (hs:t.aX=0):∃x,r=⟨zD,x⟩/\VE t.aL x/\BV m x:=by
 cases g with
 |v h1 h2 h3=>exact⟨_,rfl,h2,h3⟩
 |d h1 h2 h3=>exact absurd hs h1
theorem RV.dj {t:aP} {m:Nat} {r:bL} (g:RV t m r) (hs:t.aX≠0):∃x,r=⟨x,zV⟩/\DV t.aX x/\x.Names.length<=m:=by
 cases g with
 |v h1 h2 h3=>exact absurd h1 hs
 |d h1 h2 h3=>exact⟨_,rfl,h2,h3⟩
theorem RV.int {m:Nat} {r:bL} (g:RV (bm 1) m r):∃n,r=⟨⟨1,n,[],[]⟩,zV⟩/\ -1000000000000000<=n/\n<=1000000000000000:=by
 obtain⟨x,rfl,h,_⟩:=g.dj (by decide);have h:DV 1 x:=h;cases h with
 |int h1 h2=>exact⟨_,rfl,h1,h2⟩
theorem RV.bool {m:Nat} {r:bL} (g:RV (bm 2) m r):∃n,r=⟨⟨2,n,[],[]⟩,zV⟩/\(n=0\/n=1):=by
 obtain⟨x,rfl,h,_⟩:=g.dj (by decide);have h:DV 2 x:=h;cases h with
 |bool h1=>exact⟨_,rfl,h1⟩
theorem RV.name {m:Nat} {r:bL} (g:RV (bm 3) m r):∃s,r=⟨⟨3,0,s,[]⟩,zV⟩/\de s=true:=by
 obtain⟨x,rfl,h,_⟩:=g.dj (by decide);have h:DV 3 x:=h;cases h with
 |name h1=>exact⟨_,rfl,h1⟩
theorem RV.set {m:Nat} {r:bL} (g:RV (bm 4) m r):∃ns,r=⟨⟨4,0,[],ns⟩,zV⟩/\rising ns=true/\(∀s∈ns,de s=true)/\ns.length<=m:=by
 obtain⟨x,rfl,h,hl⟩:=g.dj (by decide);have h:DV 4 x:=h;cases h with
 |set h1 h2=>exact⟨_,rfl,h1,h2,hl⟩
theorem ab.id {α:Type} {o:Option α} {P:α->Prop} (h:ab o P):ab (o.bind λy=>some y) P:=by obtain⟨r,rfl,h⟩:=h;exact⟨r,rfl,h⟩
theorem Fit.eq {w t:aP} (h:Fit w t) (hn:isNone w=false):t=w:=(h hn).symm
theorem W.ty {l:ah} {ps:List TParam} {x:ae} {w:aP} (h:W l ps x w) (hn:isNone w=false):x.aK=w:=by
 have no:∀{P:Prop},isNone w=true->P:=λe=>by rw[e]at hn;cases hn
 cases h<;>first|rfl|(apply Fit.eq<;>assumption)|(apply no;assumption)
theorem xm {n:Int} {m:Nat} (h0: -1000000000000000<=n) (h1:n<=1000000000000000):ab ((f138 Pf) n) (RV (bm 1) m):=by
 rw[afu,yR];exact ab.ret (.d (by decide) (.int h0 h1) (by simp))
theorem iN {b:Bool} {m:Nat}:ab ((f139 Pf) b) (RV (bm 2) m):=by
 rw[afv,yS];cases b
 ·exact ab.ret (.d (by decide) (.bool (.inl rfl)) (by simp))
 ·exact ab.ret (.d (by decide) (.bool (.inr rfl)) (by simp))
theorem QR (n:Int):ab ((f144 Pf) n) (λr=> -1000000000000000<=r/\r<=1000000000000000):=by
 rw[afw,yV];refine ab.ret ?_;split<;>split<;>omega
section
variable {fr:cG} {x k:ae} {Q:bL->Prop}
theorem sU (h:x.Op<=6) (t:ab ((f87 Pf) fr x) Q):ab ((f50 Pf) fr x) Q:=by
 rw[Bl,me,dI h,aD];exact ab.id t
theorem jO (h:7<=x.Op) (h':x.Op<=18) (t:ab ((f88 Pf) fr x) Q):ab ((f50 Pf) fr x) Q:=by
 rw[Bl,me,dM (by omega),aF,dI h',aD];exact ab.id t
theorem HE (h:x.Op=19\/x.Op=20\/x.Op=35\/x.Op=36) (t:ab ((f89 Pf) fr x) Q):ab ((f50 Pf) fr x) Q:=by
 rw[Bl,me];rcases h with h|h|h|h<;>rw[h]<;>exact ab.id t
theorem o9 (h:21<=x.Op) (h':x.Op<=28) (t:ab ((f90 Pf) fr x) Q):ab ((f50 Pf) fr x) Q:=by
 have e1:(x.Op==35)=false:=by simp;omega
 have e2:(x.Op==36)=false:=by simp;omega
 rw[Bl,me,dM (by omega),aF,dM (by omega),aF,dM (by omega),aF,e1,aF,e2,aF,dI h',aD];exact ab.id t
theorem H4 (h:(29<=x.Op/\x.Op<=34)\/x.Op=37) (t:ab ((f91 Pf) fr x) Q):ab ((f50 Pf) fr x) Q:=by
 have e1:(x.Op==35)=false:=by simp;omega
 have e2:(x.Op==36)=false:=by simp;omega
 rw[Bl,me,dM (by omega),aF,dM (by omega),aF,dM (by omega),aF,e1,aF,e2,aF,dM (by omega),aF];exact ab.id t
theorem dQ {i:Int} (h:ao x.Kids i=some k) (t:ab ((f50 Pf) fr k) Q):ab ((f141 Pf) i fr x) Q:=by
 rw[afx,rp,h,aw];exact ab.id t
theorem lK {i:Int} (h:ao x.Kids i=some k) (t:ab ((f50 Pf) fr k) Q):ab ((f146 Pf) i fr x) Q:=by
 rw[afy,rq,h,aw];exact ab.id t
