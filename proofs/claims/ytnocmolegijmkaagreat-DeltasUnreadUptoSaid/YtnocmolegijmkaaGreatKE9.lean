/- The kit's contract of a sort of structs by a comparison, as a call that writes a row of one's own; comparisons in three ways. -/
import Derived.Test.YtnocmolegijmkaaGreatKE7
import Derived.Shelf.SlSortCmp.WholeK
import Derived.Lib.SliceRun
set_option linter.all false
section
noncomputable section
namespace Go.Bw
open Go Go.Proofs
structure fw {D:Type} (c:D->D->Int):Prop where
 fE:∀a b,c a b=0↔a=b
 jI:∀a b,c b a= -c a b
 trans:∀a b d,c a b<0->c b d<0->c a d<0
def gg (x y:Int):Int:=if x=0 then y else x
def cmpL {D:Type} (c:D->D->Int):List D->List D->Int
 |[],[]=>0
 |[],_::_=> -1
 |_::_,[]=>1
 |x::a,y::b=>gg (c x y) (cmpL c a b)
theorem fw.refl {D:Type} {c:D->D->Int} (h:fw c) (a:D):c a a=0:=(h.fE a a).2 rfl
theorem fw.lex {D β:Type} {c:D->D->Int} {d:β->β->Int} (hc:fw c) (hd:fw d):fw λ(p q:D×β)=>gg (c p.1 q.1) (d p.2 q.2) where
 fE:=λ⟨a,b⟩ ⟨a',b'⟩=>by
  have h1:=hc.fE a a';have h2:=hd.fE b b';simp only[gg,cM];split
  ·rw[h2];simp[h1.1 (by assumption)]
  ·constructor
   ·intro e;contradiction
   ·rintro ⟨rfl,_⟩;exact absurd (hc.refl a) (by assumption)
 jI:=λ⟨a,b⟩ ⟨a',b'⟩=>by
  have h1:=hc.jI a a';have h2:=hd.jI b b';simp only[gg];split<;>split<;>omega
 trans:=λ⟨a,b⟩ ⟨a',b'⟩ ⟨a2,b2⟩=>by
  simp only[gg];by_cases h1:c a a'=0
  ·rw[bf h1];have:=(hc.fE a a').1 h1;subst this;by_cases h2:c a a2=0
   ·simp only[bf h2];exact hd.trans b b' b2
   ·simp only[aM h2];exactλ_ h=>h
  ·rw[aM h1];by_cases h2:c a' a2=0
   ·have:=(hc.fE a' a2).1 h2;subst this;simp only[aM h1];exactλh _=>h
   ·rw[aM h2];intro g1 g2;have g3:=hc.trans a a' a2 g1 g2;rw[aM (by omega)];exact g3
theorem fw.map {D β:Type} {c:D->D->Int} (hc:fw c) (g:β->D) (hg:∀x y,g x=g y->x=y):fw λx y=>c (g x) (g y) where
 fE x y:=(hc.fE _ _).trans ⟨hg x y,λe=>by rw[e]⟩
 jI x y:=hc.jI _ _
 trans x y z:=hc.trans _ _ _
theorem Ej {D:Type} {c:D->D->Int} (hc:fw c):fw (cmpL c) where
 fE:=by
  intro a
  induction a with
  |nil=>intro b;cases b<;>simp[cmpL]
  |cons x a ih=>
   intro b;cases b with
   |nil=>simp[cmpL]
   |cons y b=>
    simp only[cmpL,gg,jQ];split
    ·rw[ih];simp[(hc.fE x y).1 (by assumption)]
    ·constructor
     ·intro e;contradiction
     ·rintro ⟨rfl,_⟩;exact absurd (hc.refl x) (by assumption)
 jI:=by
  intro a
  induction a with
  |nil=>intro b;cases b<;>simp[cmpL]
  |cons x a ih=>
   intro b;cases b with
   |nil=>simp[cmpL]
   |cons y b=>
    have h1:=hc.jI x y;have h2:=ih b;simp only[cmpL,gg];split<;>split<;>omega
 trans:=by
  intro a
  induction a with
  |nil=>
   intro b d h g;cases d with
   |nil=>cases b<;>simp[cmpL]at h g
   |cons z d=>simp[cmpL]
  |cons x a ih=>
   intro b d h g;cases b with
   |nil=>simp[cmpL]at h
   |cons y b=>
    cases d with
    |nil=>simp[cmpL]at g
    |cons z d=>
     simp only[cmpL,gg]at*
     by_cases h1:c x y=0
     ·have:=(hc.fE x y).1 h1;subst this;rw[bf h1]at h;by_cases h2:c x z=0
      ·rw[bf h2]at g⊢;exact ih b d h g
      ·rw[aM h2]at g⊢;exact g
     ·rw[aM h1]at h;by_cases h2:c y z=0
      ·have:=(hc.fE y z).1 h2;subst this;rw[aM h1];exact h
      ·rw[aM h2]at g;have g3:=hc.trans x y z h g;rw[aM (by omega)];exact g3
def r6 {D:Type} (c:D->D->Int) (x:D):List D->List D
 |[]=>[x]
 |y::l=>if c x y<=0 then x::y::l else y::r6 c x l
def dJ {D:Type} (c:D->D->Int):List D->List D
 |[]=>[]
 |x::l=>r6 c x (dJ c l)
section
variable {D:Type} {c:D->D->Int}
theorem H6 (x:D):∀l:List D,(r6 c x l).Perm (x::l)
 |[]=> .refl _
 |y::l=>by
  rw[r6];split
  ·exact .refl _
  ·exact((H6 x l).cons y).trans (.swap x y l)
theorem oc:∀l:List D,(dJ c l).Perm l
 |[]=> .refl _
 |x::l=>(H6 x _).trans ((oc l).cons x)
theorem fw.le_trans (hc:fw c) {a b d:D} (h:c a b<=0) (g:c b d<=0):c a d<=0:=by
 by_cases h1:c a b=0
 ·rw[(hc.fE a b).1 h1];exact g
 by_cases h2:c b d=0
 ·rw[<-(hc.fE b d).1 h2];exact h
 have:=hc.trans a b d (by omega) (by omega);omega
theorem Qo (hc:fw c) (x:D):∀{l:List D},l.Pairwise (λa b=>c a b<=0)->(r6 c x l).Pairwise λa b=>c a b<=0
 |[],_=>by simp[r6]
 |y::l,h=>by
  rw[xu]at h;rw[r6];split
  ·rename_i hxy;rw[xu,xu];refine⟨λz hz=>?_,h⟩;rcases ck.1 hz with rfl|hz
   ·exact hxy
   ·exact hc.le_trans hxy (h.1 z hz)
  ·rename_i hxy;rw[xu];refine⟨λz hz=>?_,Qo hc x h.2⟩;rcases ck.1 ((H6 x l).mem_iff.1 hz)with rfl|hz
   ·have:=hc.jI z y;omega
   ·exact h.1 z hz
theorem sV (hc:fw c):∀l:List D,(dJ c l).Pairwise λa b=>c a b<=0
 |[]=>by simp[dJ]
 |x::l=>Qo hc x (sV hc l)
theorem nc (l:List D):(dJ c l).length=l.length:=(oc l).length_eq
theorem Hv (hc:fw c):∀{a b:List D},a.Perm b->a.Pairwise (λa b=>c a b<=0)->b.Pairwise (λa b=>c a b<=0)->a=b
 |[],b,h,_,_=>(List.nil_perm.1 h).symm
 |x::a,[],h,_,_=>absurd (List.perm_nil.1 h) (by simp)
 |x::a,y::b,h,ha,hb=>by
  rw[xu]at ha hb;have e:x=y:=by
   rcases ck.1 (h.mem_iff.1 (PK ..))with e|hx
   ·exact e
   ·rcases ck.1 (h.mem_iff.2 (PK ..))with e|hy
    ·exact e.symm
    ·have h1:=hb.1 x hx;have h2:=ha.1 y hy;have h3:=hc.jI x y;exact(hc.fE x y).1 (by omega)
  subst e;rw[Hv hc (List.perm_cons x|>.1 h) ha.2 hb.2]
end
theorem adk {w w':World} (h:Ext [] w [] w'):∃q os',w'=Go.Sort.grow (w.drewN q) os':=by
 refine⟨w'.drawn-w.drawn,w'.heap.extract w.heap.size w'.heap.size,?_⟩;have h1:=h.os;have h2:=h.tape;have h3:=h.output;have h4:=h.drawn.le;have h5:=h.size;have h6:w'.heap=w.heap++w'.heap.extract w.heap.size w'.heap.size:=by
  apply aad;intro i;rw[Hf];by_cases hi:i<w.heap.size
  ·rw[bf hi];exact h.block i hi (by simp[ids])
  ·rw[aM hi,Array.getElem?_extract];by_cases hi2:i<w'.heap.size
   ·rw[bf (by omega)];congr 1;omega
   ·rw[aM (by omega),sN (by omega)]
 cases w;cases w';simp only at h1 h2 h3 h4 h6;subst h1;subst h2;subst h3;simp only[Go.Sort.grow,World.drewN];rw[<-h6];congr 1;omega
section
variable {T:Type} {cs:T->List AV} {k:Nat}
theorem QW {w:World} {A:Nat->Prop}:∀{es:List T} {vs:List Value},bl w A k (es.map cs) vs->∃ps:List (T×List Value),ps.map Prod.fst=es/\(∀p∈ps,aL w A (cs p.1) p.2/\p.2.length=k)/\vs=ps.flatMap (·.2)
 |[],vs,h=>by simp only[lE,bl]at h;exact⟨[],rfl,by simp,by simpa using h⟩
 |e::es,vs,h=>by
  simp only[dj,bl]at h;obtain⟨v1,v2,rfl,h1,h2,h3⟩:=h;obtain⟨ps,g1,g2,g3⟩:=QW h3;refine⟨(e,v1)::ps,by simp[g1],λp hp=>?_,by simp[g3]⟩;rcases ck.1 hp with rfl|hp
  ·exact⟨h2,by rw[h2.length,h1]⟩
  ·exact g2 p hp
theorem Rl {w:World} {A:Nat->Prop}:∀{ps:List (T×List Value)},(∀p∈ps,aL w A (cs p.1) p.2/\p.2.length=k)->bl w A k ((ps.map Prod.fst).map cs) (ps.flatMap (·.2))
 |[],_=>by simp[bl]
 |p::ps,h=>by
  simp only[dj,sO,bl];have hp:=h p (by simp);exact⟨p.2,_,rfl,by rw[<-hp.1.length,hp.2],hp.1,Rl λq hq=>h q (by simp[hq])⟩
theorem tJ {β:Type} {enc:β->List Value} (hk:∀x,(enc x).length=k) (k0:0<k):∀{L:List β} {t:Nat} {x:β},L[t/k]? =some x->(L.flatMap enc)[t]? =(enc x)[t%k]?
 |[],t,x,h=>by simp at h
 |y::L,t,x,h=>by
  rw[sO];by_cases ht:t<k
  ·rw[Nat.div_eq_of_lt ht]at h;simp only[jz,aD]at h;subst h;rw[mh (by rw[hk];exact ht),Nat.mod_eq_of_lt ht]
  ·have e1:t/k=(t-k)/k+1:=by rw[Nat.div_eq_sub_div k0 (by omega)]
   have e2:t%k=(t-k)%k:=Nat.mod_eq_sub_mod (by omega);rw[e1,mU]at h;rw[xo (by rw[hk];omega),hk,e2];exact tJ hk k0 h
theorem QX {β:Type} [Inhabited β] {enc:β->List Value} (hk:∀x,(enc x).length=k) (k0:0<k) (d:Array β):(Go.Sort.flatK enc k d).toList=d.toList.flatMap enc:=by
 have hl:∀L:List β,(L.flatMap enc).length=L.length*k:=λL=>by
  induction L with
  |nil=>simp
  |cons x L ih=>simp[ih,hk,iN,xv]
 apply nU;intro t;by_cases ht:t<d.size*k
 ·have hq:t/k<d.size:=(Nat.div_lt_iff_lt_mul k0).2 ht;have h1:=Go.Sort.get_flatK enc k d t ht;have h2:t<(Go.Sort.flatK enc k d).size:=by simpa using ht
  have hm:t%k<(enc d[t/k]!).length:=by rw[hk];exact Nat.mod_lt _ k0
  rw[tJ (x:=d[t/k]!) hk k0 (by simp[hq]),Dm,Array.getElem?_eq_getElem h2,Hg hm];simp only[h2,getElem!_pos]at h1;rw[h1];simp[hm]
 ·rw[lH (by simp;omega),lH (by rw[hl];simp;omega)]
end
section
variable {E:Env} {g gc:FuncId} {T:Type} {cs:T->List AV} {k:Nat} {c:T->T->Int}
def H7 (P:Program) (g gc:FuncId) (k:Nat):Prop:=
 (∀(D:Type) [Inhabited D] (enc:D->List Value) (_:∀x,(enc x).length=k) (_:∀x,∀v∈enc x,v.oneCell'=true) (cf:D->D->Int) (_:Go.Sort.SWO (ltOf cf)) (fF off cap:Nat) (d:Array D) (w:World),
  CmpLays P gc #[] enc k cf fF off d.size w->Go.Sort.HoldsK enc k w fF off d->fF<w.heap.size->d.size<4611686018427387904->
  Calls P g #[.slice (some ⟨fF,off,none⟩) d.size cap,.func (.func gc) #[] #[]] w λe w'=>e= .returned (.tuple #[])/\∃d' n os,Go.Sort.PermIn 0 d.size d d'/\Go.Sort.SortedIn (ltOf cf) 0 d.size d'/\w'=sortWorldK enc k w fF off n d' os)/\
 (∀(p:Option Addr) (cap:Nat) (fv:Value) (w:World),Calls P g #[.slice p 0 cap,fv] w λe w'=>e= .returned (.tuple #[])/\w'=w)
theorem af2 {β:Type} (hO:fw c) (f:β->T):Go.Sort.SWO (ltOf λx y:β=>c (f x) (f y)) where
 irrefl x:=by simp[ltOf,hO.refl]
 trans x y z h g:=by
  simp only[ltOf,jA]at*
  exact hO.trans _ _ _ h g
 ntrans x y z h g:=by
  simp only[ltOf,decide_eq_false_iff_not]at*
  have h1:=hO.jI (f x) (f y);have h2:=hO.jI (f y) (f z);have h3:=hO.jI (f x) (f z);have:=hO.le_trans (a:=f z) (b:=f y) (d:=f x) (by omega) (by omega);omega
theorem aa7 (hc:ph E.P g) (hs:H7 E.P g gc k) (k0:0<k) (hO:fw c) (hones:∀t,eT (cs t)=true) {es:List T} (hP:∀x∈es,∀y∈es,Pure E.toCx gc [.agg (cs x),.agg (cs y)] (.ret (.v (.int .i64 (c x y)))))
  {e tag n cp:Nat} {a0:Option Addr} (hn:n=es.length) (hl:es.length<4611686018427387904):
  lh E.toCx g [.os tag a0 n cp,.v (.func (.func gc) #[] #[])] [.row (.slice a0 n cp) e k (es.map cs)] λr L'=>r= .ret (.bQ [])/\L'=[.row (.slice a0 n cp) e k ((dJ c es).map cs)]:=by
 refine⟨hc,λF w vs hk hr=>?_⟩;simp only[aL,Rel]at hr;obtain⟨v,_,rfl,hv,_,_,rfl,rfl,rfl⟩:=hr;subst hn;obtain⟨us,h3,h4⟩:=hk.eo (.row (.slice a0 es.length cp) e k (es.map cs)) (by simp);have hret:∀(w':World) (A:Nat->Prop),AR.rel w' A (.ret (.bQ [])) (.returned (.tuple #[])):=λw' A=>⟨_,rfl,by simp only[Rel,aL];exact⟨[],rfl,rfl⟩⟩;rw[<-hv]at hk h3 h4⊢;obtain⟨h40,h4⟩:=h4;have none:es=[]->(v= .slice a0 0 cp)->Calls E.P g [v,.func (.func gc) #[] #[]].toArray w λe' w'=>∃r L',(r= .ret (.bQ [])/\L'=[.row v e k ((dJ c es).map cs)])/\AR.rel w' (Al F L') r e'/\bG E.toCx.G w' F L'/\Ext [.row v e k (es.map cs)] w L' w':=λe0 ev=>by
  subst e0;rw[ev]at hk⊢;refine(hs.2 a0 cp _ w).mono λe' w' ⟨he,hw⟩=>?_;subst he hw;exact⟨_,_,⟨rfl,rfl⟩,hret _ _,hk,Ext.refl _ _⟩
 rcases h4 with⟨hvn,h0⟩|⟨b,cap,cur,hvg,hbase,hg,hnc,hcm,hcs,htake⟩
 ·have e0:es=[]:=iM (by simpa using h0);exact none e0 (by rw[hv,e0];rfl)
 ·by_cases e0:es=[]
  ·exact none e0 (by rw[hv,e0];rfl)
  obtain⟨ps,hp1,hp2,hp3⟩:=QW h3;have hpl:ps.length=es.length:=by rw[<-hp1];simp
  have hb:b<w.heap.size:=(gE.1 hg).1;have hids:∀rs,aw.ids (.row v e k rs)=[b]:=λrs=>by simp[aw.ids,hvg,Value.ownBlock]
  have hAl:∀rs c,Al F [.row v e k rs] c↔¬F c/\c≠b:=λrs c=>by simp[Al,cC,hids,ids]
  --the rows as they lie there
  let β:Type:={p:T×List Value//p.1∈es/\aL w (Al F [.row v e k (es.map cs)]) (cs p.1) p.2/\p.2.length=k}
  have hall:∀p∈ps,p.1∈es/\aL w (Al F [.row v e k (es.map cs)]) (cs p.1) p.2/\p.2.length=k:=λp hp=>⟨by rw[<-hp1];exact dy.2 ⟨p,hp,rfl⟩,hp2 p hp⟩;obtain⟨qs,hqs⟩:∃qs:List β,qs.map Subtype.val=ps:=by
   refine⟨ps.attach.map λp=>⟨p.1,hall p.1 p.2⟩,?_⟩;rw[aae];exact List.attach_map_subtype_val ps
  have hql:qs.length=es.length:=by rw[<-hpl,<-hqs,jy]
  obtain⟨q0,hq0⟩:∃q,q∈qs:=by
   cases hq:qs with
   |nil=>rw[hq]at hql;exact absurd (iM hql.symm) e0
   |cons q r=>exact⟨q,by simp⟩
  haveI:Inhabited β:=⟨q0⟩
  let enc:β->List Value:=λq=>q.1.2
  have hke:∀x:β,(enc x).length=k:=λx=>x.2.2.2;have hus:us=qs.flatMap enc:=by
   rw[hp3,<-hqs,List.flatMap_map]
  have hcell:∀j u,us[j]? =some u->cur[j]? =some u:=λj u hj=>by
   have h1:cur.toList.take (es.length*k)=us:=by simpa using htake
   rw[<-h1,fI]at hj;split at hj
   ·simpa using hj
   ·cases hj
  have hH:Go.Sort.HoldsK enc k w b 0 qs.toArray:=λj hj=>by
   have hl2:(Go.Sort.flatK enc k qs.toArray).toList=us:=by rw[QX hke k0,hus]
   have hj2:j<us.length:=by rw[<-hl2];simpa using hj
   have h1:=hcell j us[j] (by simp[hj2]);have h2:(Go.Sort.flatK enc k qs.toArray)[j]! =us[j]:=by
    have:(Go.Sort.flatK enc k qs.toArray).toList[j]? =some us[j]:=by rw[hl2];simp[hj2]
    rw[Dm]at this;obtain⟨h5,h6⟩:=gE.1 this;rw[getElem!_pos (Go.Sort.flatK enc k qs.toArray) j h5,h6]
   refine⟨?_,?_⟩
   ·rw[h2];simp[World.cell?,hg,h1]
   ·simp[World.frozen?,hg]
  --worlds of the sort
  have hheapW:∀(m:Nat) (os:Array Obj) (dk:Array β) (j:Nat),j<w.heap.size->j≠b->(sortWorldK enc k w b 0 m dk os).heap[j]? =w.heap[j]? :=λm os dk j hj hne=>by
   show((w.heap.modify b (Go.Sort.onCells (Go.Sort.putCells id 0 (Go.Sort.flatK enc k dk))))++os)[j]? =_;rw[Hf,bf (by simpa using hj),Dl,aM (iW hne)]
  have hsizeW:∀(m:Nat) (os:Array Obj) (dk:Array β),w.heap.size<=(sortWorldK enc k w b 0 m dk os).heap.size:=λm os dk=>by
   show w.heap.size<=((w.heap.modify b (Go.Sort.onCells (Go.Sort.putCells id 0 (Go.Sort.flatK enc k dk))))++os).size;simp
  have hkeep:∀(m:Nat) (os:Array Obj) (dk:Array β) (A':Nat->Prop),(∀j,¬F j->j≠b->A' j)->dC w (Al F [.row v e k (es.map cs)]) (sortWorldK enc k w b 0 m dk os) A':=λm os dk A' hA'=>
   ⟨hsizeW m os dk,λj hj ha=>by
    rw[hAl]at ha;exact⟨hA' j ha.1 ha.2,hheapW m os dk j hj ha.2⟩⟩
  have hcmp:CmpLays E.P gc #[] enc k (λx y:β=>c x.1.1 y.1.1) b 0 qs.toArray.size w:=λm os dk hd x y=>by
   have hA:∀j,¬F j->j≠b->Al (λz=>F z\/z=b) [] j:=λj h1 h2=>by simp[Al,ids,h1,h2]
   have hK:=hkeep m os dk _ hA;have hHO:bG E.toCx.G (sortWorldK enc k w b 0 m dk os) (λz=>F z\/z=b) []:=⟨by simp,by simp[ids],by simp[ids],λz hz=>by
    rcases hz with hz|rfl
    ·exact nV (hk.bound z hz) (hsizeW m os dk)
    ·exact nV hb (hsizeW m os dk),hk.cm.keep hK⟩
   refine((hP x.1.1 x.2.1 y.1.1 y.2.1).2 _ _ [.agg (enc x).toArray,.agg (enc y).toArray] hHO ?_).mono ?_
   ·simp only[aL,Rel];exact⟨_,_,rfl,⟨_,rfl,x.2.2.1.keep hK⟩,_,_,rfl,⟨_,rfl,y.2.2.1.keep hK⟩,rfl⟩
   ·rintro e' w' ⟨r,L',⟨rfl,rfl⟩,hv',_,hx⟩;obtain⟨u,rfl,hu⟩:=hv';simp only[Rel]at hu;subst hu;exact⟨rfl,adk hx⟩
  have h1c:∀(x:β),∀u∈enc x,u.oneCell'=true:=λx u hu=>xO (hones x.1.1) x.2.2.1 u hu;have hcon:=hs.1 β enc hke h1c (λx y:β=>c x.1.1 y.1.1) (af2 hO λx:β=>x.1.1) b 0 cap qs.toArray w hcmp hH hb (by simpa[hql]using hl);rw[hvg];have hqsz:qs.toArray.size=es.length:=by simpa using hql
  have hmap:(es.map cs).length=es.length:=by simp
  rw[hqsz]at hcon;rw[hmap];refine hcon.mono λe' w' ⟨he,d',m,os,hperm,hsorted,hw⟩=>?_;subst he;have hdl:d'.size=es.length:=by rw[hperm.1,hqsz]
  have hpm:d'.toList.Perm qs:=by
   have:=hperm.2.2;have e1:d'.extract 0 es.length=d':=by rw[<-hdl];exact Array.extract_size
   have e2:qs.toArray.extract 0 es.length=qs.toArray:=by rw[<-hqsz];exact Array.extract_size
   rw[e1,e2]at this;simpa using this
  have hnew:d'.toList.map (λq:β=>q.1.1)=dJ c es:=by
   refine Hv hO ?_ ?_ (sV hO es)
   ·refine((hpm.map _).trans ?_).trans (oc es).symm;have h0:qs.map (λq:β=>q.1.1)=(qs.map Subtype.val).map Prod.fst:=by rw[aae];rfl
    rw[h0,hqs,hp1]
   ·rw[List.pairwise_map,Hh];intro i j hi hj hij;have hi':i<d'.size:=by simpa using hi
    have hj':j<d'.size:=by simpa using hj
    have:=hsorted i j (mT _) hij (by omega);simp only[hi',hj',getElem!_pos,ltOf,decide_eq_false_iff_not]at this;have h2:=hO.jI d'[i].1.1 d'[j].1.1;simp only[Array.getElem_toList];omega
  have hheap:w'.heap=w.heap.modify b (Go.Sort.onCells (Go.Sort.putCells id 0 (Go.Sort.flatK enc k d')))++os:=by rw[hw];rfl
  have hwb:w'.heap[b]? =some (.cells (Go.Sort.putCells id 0 (Go.Sort.flatK enc k d') cur) e (0,0)):=by
   rw[hheap,Hf,bf (by simpa using hb),Dl,bf rfl,hg];rfl
  have hwo:∀j,j<w.heap.size->j≠b->w'.heap[j]? =w.heap[j]? :=λj hj hne=>by rw[hw];exact hheapW m os d' j hj hne
  have hws:w.heap.size<=w'.heap.size:=by rw[hw];exact hsizeW m os d'
  have hfl:(Go.Sort.flatK enc k d').toList=d'.toList.flatMap enc:=QX hke k0 d';have hsl:(dJ c es).length=es.length:=nc es;have hnl:((dJ c es).map cs).length=es.length:=by simp[hsl]
  have hflen:(d'.toList.flatMap enc).length=es.length*k:=by rw[<-hfl];simp[hdl]
  have hA2:∀j,¬F j->j≠b->Al F [.row v e k ((dJ c es).map cs)] j:=λj h1 h2=>(hAl _ j).2 ⟨h1,h2⟩;have hKw:dC w (Al F [.row v e k (es.map cs)]) w' (Al F [.row v e k ((dJ c es).map cs)]):=by rw[hw];exact hkeep m os d' _ hA2
  refine⟨_,_,⟨rfl,rfl⟩,hret _ _,?_,?_⟩
  ·rw[<-hmap,<-hvg];refine bG.ly (l:=[]) (r:=[]) hk hws (λj hj hn=>hwo j hj λe=>hn (by rw[hids,e];simp)) (λj hj=> .inl (by rw[hids]at hj⊢;exact hj)) (by rw[hids];simp) ?_;refine⟨d'.toList.flatMap enc,?_,by rw[hflen,hnl],.inr ⟨b,cap,_,by rw[hvg,hnl,hmap],hbase,hwb,by rw[hnl];simpa using hnc,hcm,?_,?_⟩⟩
   ·have:=Rl (cs:=cs) (k:=k) (w:=w') (A:=Al F [.row v e k ((dJ c es).map cs)]) (ps:=d'.toList.map Subtype.val) λp hp=>by
     obtain⟨q,_,rfl⟩:=dy.1 hp;exact⟨q.2.2.1.keep hKw,q.2.2.2⟩
    have e1:(d'.toList.map Subtype.val).map Prod.fst=dJ c es:=by rw[aae];exact hnew
    rw[e1,List.flatMap_map]at this;exact this
   ·simpa[Go.Sort.putCells]using hcs
   ·apply nU;intro i;rw[fI,hnl];by_cases hi:i<es.length*k
    ·rw[bf hi,<-hfl];have hcs2:es.length*k<=cur.size:=by rw[hcs];exact gm k (by simpa using hnc)
     have hi2:i<d'.size*k:=by rw[hdl];exact hi
     have hi3:i<cur.size:=by omega
     simp[Go.Sort.putCells,hi2,hi3]
    ·rw[aM hi,lH (by rw[hflen];omega)]
  ·rw[<-hmap,<-hvg];refine⟨by rw[hw];rfl,by rw[hw];rfl,by rw[hw];rfl,hws,λj hj hn=>hwo j hj λe=>hn (by simp only[cC,bU,hids];left;simp[e]),λj hj=> .inl ?_,.of (by rw[hw];exact PO _ _)⟩;simpa[cC,hids]using hj
theorem jW.adl (hc:ph E.P g) (hs:H7 E.P g gc k) (k0:0<k) (hO:fw c) (hones:∀t,eT (cs t)=true) {es:List T} (hP:∀x∈es,∀y∈es,Pure E.toCx gc [.agg (cs x),.agg (cs y)] (.ret (.v (.int .i64 (c x y)))))
  {e n:Nat} (hn:n=es.length) (hl:es.length<4611686018427387904):
  jW E g [.os 0 n,.d (.v (.func (.func gc) #[] #[]))] (.row e k (es.map cs)) (.bQ []) (.row e k ((dJ c es).map cs)):=λZ ys LB hi hh=>by
 simp only[aR]at hi;obtain⟨y,_,rfl,hy,y2,_,rfl,hy2,rfl⟩:=hi;simp only[aK]at hy hy2;obtain⟨a,cp,t',h3,rfl⟩:=hy;subst hy2;have hget:(jq [(lr.row e k (es.map cs)).c]).e.get 0=some (.row e k (es.map cs)):=rfl;obtain⟨q,h6,h7⟩:=hh.en 0 _ hget;obtain⟨⟨a',c',h8,rfl⟩,h9⟩:=h7;have hm1:(es.map cs).length=es.length:=by simp
 have hm2:((dJ c es).map cs).length=es.length:=by simp[nc]
 rw[hm1]at h8 h9 h6;subst hn;rw[h3]at h8;cases h8;have hlen:LB.length=1:=hh.len;obtain⟨z,rfl⟩:∃z,LB=[z]:=by
  match LB,hlen with
  |[z],_=>exact⟨z,rfl⟩
 simp only[cG,jz,aD]at h6;subst h6;refine(aa7 hc hs k0 hO hones hP rfl hl).mono ?_;rintro r L' ⟨rfl,rfl⟩;refine⟨Z,.ret (.d (.bQ [])),(jq [(lr.row e k (es.map cs)).c]).set 0 (.row e k ((dJ c es).map cs)),?_,⟨_,rfl,rfl⟩,?_,?_⟩
 ·exactλ_ _=>⟨λ_ h=>h,λ_ _ h=>h⟩
 ·have:=hh.set (x:= .row e k ((dJ c es).map cs)) (y:= .row (.slice a es.length cp) e k ((dJ c es).map cs)) (.refl Z) (λ_ _=>rfl) (λ_ _=>rfl) (i:=0) (by show 0<1;omega) ⟨⟨a,cp,by rw[hm2];exact h3,by rw[hm2]⟩,λm hm=>h9 m (by rw[hm2]at hm;omega)⟩
  exact this
 ·exact⟨_,_,_,_,rfl,rfl,aU,rfl,.refl _,.refl _⟩
end
end Go.Bw
end

section
noncomputable section
namespace Go.Bw
open Go
section
variable {N:Nat} {O:Sg} {L:List aw} {E:Env}
theorem TB {P:Program} {t e:TypeId} (h:P.underlying t=some (.slice e)):P.underlying t=some (.slice (P.elem t)):=by
 have:P.elem t=e:=by simp[Program.elem,h]
 rw[this];exact h
theorem aeT {P:Program} {t e:TypeId} (h:P.underlying t=some (.slice e)):P.elem t=e:=by simp[Program.elem,h]
theorem adi {tg:Nat} {o:Oper} {t:TypeId} {p q:Operand} {a0:Option Addr} {i n c e sz by':Nat} {z:List Value} {rows:List (List AV)} {kd:IntKind} (l:Nat) (ho:o.op= .slice t p (some q) none none) (ht:bc E.T t=some ⟨.slice e 1,sz,by',z⟩)
  (hp:ev (look O) p=some (.os tg a0 n c)) (hi:nth L i=some (.row (.slice a0 n c) e 1 rows)) (hq:ev (look O) q=some (.v (.int kd (l:Int)))) (hl:l<=n):
  oQ E.toCx N o O L (λx L'=>x= .v (sliced a0 l n c 1)/\L'=L):=λF a w hs=>by
 have h1:=bC hs.sg hp;have h2:=bC hs.sg hq;simp only[Rel]at h1 h2;obtain⟨hu,hke,hh⟩:=kq (E.tok _ _ ht) rfl;have hsz:(sizeOf (E.P.elem t)).run E.P w= .ok 1 w:=by rw[aeT hu];have:=lJ hh w;rwa[<-hke]at this
 refine⟨sliced a0 l n c 1,w,.v (sliced a0 l n c 1),L,⟨rfl,rfl⟩,?_,by simp only[Rel],hs.hp,Ext.refl _ _⟩;have h3:=run_slice_l (P:=E.P) w t a0 n c (TB hu) kd l (by omega) (by omega);simp only[execOp,ho,h1,h2,PL,PM,Sem.run_bind,run_sliceAt_slice (P:=E.P) w t _ _ _ _ (TB hu),h3,hsz,Result.andThen];simp
theorem acb {o:Oper} {t:TypeId} {p:Operand} {a0:Option Addr} {i c e sz by':Nat} {z:List Value} {zv:Value} {rows:List (List AV)} (l:Nat) (ho:o.op= .call {callee:= .builtin .clear,args:= #[p],argTypes:= #[t]}) (ht:bc E.T t=some ⟨.slice e 1,sz,by',z⟩)
  (hz:∀w,(zeroValue e).run E.P w= .ok zv w) (hzc:zv.cells= #[zv]) (hz1:zv.oneCell'=true) (hp:ev (look O) p=some (.v (sliced a0 l rows.length c 1))) (hi:nth L i=some (.row (.slice a0 rows.length c) e 1 rows)) (hl:l<=rows.length):
  oQ E.toCx N o O L (λx L'=>x= .bQ []/\L'=L.set i (.row (.slice a0 rows.length c) e 1 (rows.take l++List.replicate (rows.length-l) [.v zv]))):=λF a w hs=>by
 obtain⟨v,hvd⟩:∃v,v=Value.slice a0 rows.length c:=⟨_,rfl⟩;have h1:=bC hs.sg hp;simp only[Rel]at h1;obtain⟨hu,hke,hh⟩:=kq (E.tok _ _ ht) rfl;rw[<-hvd]at hi⊢;obtain⟨ll,rr,rfl,hset⟩:=ml hi;simp only[hset];obtain⟨vs,h3,h4⟩:=hs.hp.eo (.row v e 1 rows) (by simp);have hvl:vs.length=rows.length:=by rw[h3.length,xq]
 have hnl:(rows.take l++List.replicate (rows.length-l) [AV.v zv]).length=rows.length:=by simp;omega
 have hrep:∀m,bl w (Al F (ll++aw.row v e 1 rows::rr)) 1 (List.replicate m [AV.v zv]) (List.replicate m zv):=λm=>by
  induction m with
  |zero=>simp[bl]
  |succ m ih=>simp only[anF,bl];exact⟨[zv],_,rfl,rfl,by simp[aL,Rel],ih⟩
 have htk:∀(rows:List (List AV)) (vs:List Value) (l:Nat),bl w (Al F (ll++aw.row v e 1 rows::rr)) 1 rows vs->True:=λ_ _ _ _=>trivial;have htake:∀{A:Nat->Prop} (rows:List (List AV)) (vs:List Value) (l:Nat),bl w A 1 rows vs->bl w A 1 (rows.take l) (vs.take l):=by
  intro A rows
  induction rows with
  |nil=>intro vs l h;simp only[bl]at h;subst h;simp[bl]
  |cons r rows ih=>
   intro vs l h;simp only[bl]at h;obtain⟨v1,v2,rfl,hr,h5,h6⟩:=h;cases l with
   |zero=>simp[bl]
   |succ l=>
    obtain⟨u,rfl⟩:∃u,v1=[u]:=by
     have:=h5.length;rw[hr]at this;exact List.length_eq_one_iff.1 this
    simp only[xr,anG,bl];exact⟨[u],_,rfl,hr,h5,ih v2 l h6⟩
 have hids:∀rs,aw.ids (.row v e 1 rs)=aw.ids (.row v e 1 rows):=λrs=>rfl;have hnd:(aw.ids (.row v e 1 rows)).Nodup:=by cases hob:v.ownBlock<;>simp[aw.ids,hob]
 --the run
 have hrun:∃w',(Builtin.clear_ #[t] o.type #[a.eval p]).run E.P w= .ok (.tuple #[]) w'/\w'.ownsRow 0 e 1 v rows.length (vs.take l++List.replicate (rows.length-l) zv)/\w'.os=w.os/\w'.tape=w.tape/\(w'.output=w.output/\w'.drawn=w.drawn)/\w'.heap.size=w.heap.size/\∀b,b∉aw.ids (.row v e 1 rows)->w'.heap[b]? =w.heap[b]? :=by
  rw[h1];obtain⟨h40,h4⟩:=h4;by_cases hle:l=rows.length
  ·--nothing to clear
   subst hle;refine⟨w,?_,?_,rfl,rfl,⟨rfl,rfl⟩,rfl,λ_ _=>rfl⟩
   ·simp only[sliced,Nat.sub_self];cases a0<;>(split<;>simp[Builtin.clear_,run_underlying hu,hz,hzc,Builtin.zeroCells,storeCells])
   ·rw[anH (by omega),Nat.sub_self,List.replicate_zero,jx];exact⟨h40,h4⟩
  ·rcases h4 with⟨hvn,h0⟩|⟨g,cap,cur,hvg,_,hg,hnc,hcm,hcs,htk2⟩
   ·omega
   ·rw[hvd]at hvg;simp only[Value.slice.injEq]at hvg;obtain⟨rfl,_,rfl⟩:=hvg;have hne:c≠l:=by omega
    have hsl:sliced (some ⟨g,0,none⟩) l rows.length c 1= .slice (some ⟨g,l,none⟩) (rows.length-l) (c-l):=by
     simp only[sliced,aM hne,PL,Addr.add_lit,mi,xq]
    rw[hsl];have hg':w.heap[g]? =some (.cells cur.toList.toArray e (0,0)):=by simpa using hg
    have hcl:cur.toList.length=c:=by simpa using hcs
    obtain⟨w',h6,h7,h8,h9,h10,h11,h12⟩:=xy (P:=E.P) g e (List.replicate (rows.length-l) zv) 0 l cur.toList w hg' (by simp;omega) (λu hu=>by rw[List.eq_of_mem_replicate hu];exact hz1);have hzc2:(Builtin.zeroCells zv.cells (rows.length-l)).toList=List.replicate (rows.length-l) zv:=by
     rw[hzc];simp[Builtin.zeroCells];apply List.ext_getElem
     ·simp
     ·intro i h1 h2;simp[Nat.mod_one]
    have hown:aw.ids (.row v e 1 rows)=[g]:=by rw[hvd];simp[aw.ids,Value.ownBlock]
    obtain⟨m,hm⟩:∃m,rows.length-l=m+1:=⟨rows.length-l-1,by omega⟩;refine⟨w',?_,⟨by simp[hvl];omega,.inr ⟨g,c,_,by rw[hvd],mT _,h7,hnc,hcm,?_,?_⟩⟩,h8,h9,h10,h11,λb hb=>h12 b (λe=>hb (by rw[hown,e];simp))⟩
    ·rw[hm]at hzc2 h6⊢;simp[Builtin.clear_,run_underlying hu,hz,hzc2,h6]
    ·simp only[Hd];rw[qF (by simp;omega)];simpa using hcs
    ·apply nU;intro i;rw[fI,qM (by simp;omega)];have htk3:cur.toList.take rows.length=vs:=by simpa using htk2
     by_cases hi':i<rows.length*1
     ·rw[bf hi'];by_cases hi2:i<l
      ·rw[aM (by omega),mh (by simp;omega),<-htk3,fI,fI,bf hi2,bf (by omega)]
      ·rw[bf (by simp;omega),xo (by simp;omega),iv];have:l+0=l:=rfl;congr 1;omega
     ·rw[aM hi',lH (by simp;omega)]
 obtain⟨w',g1,g2,g3,g4,g5,g6,g7⟩:=hrun;have hext:Ext (ll++aw.row v e 1 rows::rr) w (ll++aw.row v e 1 (rows.take l++List.replicate (rows.length-l) [.v zv])::rr) w':=by
  refine⟨g3,g4,g5.1,by omega,λb _ hn=>g7 b λhb=>hn (by simp[cu,cC,hb]),λb hb=> .inl ?_,.of (He g5.2.symm)⟩;simpa[cu,cC,aw.ids]using hb
 refine⟨.tuple #[],w',_,_,⟨rfl,rfl⟩,?_,by simp only[Rel,aL];exact⟨[],rfl,rfl⟩,?_,hext⟩
 ·simp only[execOp,ho,resolve,invoke,builtin,Sem.run_bind,Sem.run_pure,Result.andThen_ok,PN,dj,lE,g1]
 ·refine hs.hp.ly (by omega) (λb _ hn=>g7 b hn) (λb hb=> .inl hb) hnd ?_;exact⟨vs.take l++List.replicate (rows.length-l) zv,((htake rows vs l h3).append (hrep _)).keep hext.keeps,by rw[hnl];exact g2⟩
end
section
variable {E:Env} {N K:Nat} {Q:DQ} {O:TS} {L:Hp} {all rest:List Oper} {k:List It} {o:Oper}
theorem SS.drop {Z:aN} {s:Sl} (t:Nat) (x:AV) (hs:SS Z O s):SS Z (Tr.put 24 O t none) (λu=>if u=t then some x else s u):=by
 intro u y hy;rcases Tr.fi 24 O t u _ y hy with⟨rfl,e⟩|⟨hne,e⟩
 ·cases e
 ·obtain⟨z,h1,h2⟩:=hs _ _ e;exact⟨z,by simp only;rw[aM (λh=>hne (by first|exact h|exact h.symm))];exact h1,h2⟩
theorem au.acd {i n d e sz by':Nat} {t:TypeId} {p q:Operand} {kd:IntKind} {m:Int} {z:List Value} {zv:Value} {rows:List (List AV)} {ty ty2:TypeId} {pos pos2:String} {after after2:Array Edge} (l:Nat)
  (hp:aX O p=some (.os i n)) (hi:L.e.get i=some (.row e 1 rows)) (hn:n=rows.length) (hq:aX O q=some (.d (.v (.int kd m)))) (hm:m=(l:Int)) (hl:l<=rows.length) (ht:bc E.T t=some ⟨.slice e 1,sz,by',z⟩)
  (hz:∀w,(zeroValue e).run E.P w= .ok zv w) (hzc:zv.cells= #[zv]) (hz1:zv.oneCell'=true) (hd:Nat.blt d N=true)
  {rows2:List (List AV)} (h2r:rows.take l++List.replicate (rows.length-l) [.v zv]=rows2) (kk:au E N K (.ops all rest::k) Q (Tr.put 24 O d none) (L.set i (.row e 1 rows2))):
  au E N K (.ops all (⟨some d,.slice t p (some q) none none,ty,pos,after,none⟩::⟨none,.call {callee:= .builtin .clear,args:= #[.tmp d],argTypes:= #[t]},ty2,pos2,after2,none⟩::rest)::k) Q O L:=by
 subst h2r;unfold au at kk⊢;simp only[dq]at kk⊢;intro Z OB LB hs hh;obtain⟨y,h2,h3⟩:=cg hs hp;simp only[aK]at h3;obtain⟨a,c,t',h3,rfl⟩:=h3;obtain⟨y2,g2,g3⟩:=cg hs hq;simp only[aK]at g3;subst g3;obtain⟨q',h6,h7⟩:=hh.en i _ hi;obtain⟨⟨a',c',h8,rfl⟩,h9⟩:=h7;subst hn;rw[h3]at h8;cases h8;subst hm;have hnl:(rows.take l++List.replicate (rows.length-l) [AV.v zv]).length=rows.length:=by simp;omega
 refine bX.qv rfl hd (adi l rfl ht h2 h6 g2 hl) ?_;rintro x L' ⟨rfl,rfl⟩;refine bX.qv rfl rfl (acb (p:= .tmp d) l rfl ht hz hzc hz1 (by simp[ev,lX,look]) h6 hl) ?_;rintro x L' ⟨rfl,rfl⟩;refine kk _ _ _ ?_ (hh.set (.refl Z) (λ_ _=>rfl) (λ_ _=>rfl) (hh.lt hi) ⟨⟨a,c,by rw[hnl];exact h3,by rw[hnl]⟩,λm hm=>h9 m (by omega)⟩);have:=hs.drop d (.v (sliced a l rows.length c 1));intro u y hy;obtain⟨w,h10,h11⟩:=this u y hy;refine⟨w,?_,h11⟩;simp only[lX,look];by_cases e:u=d
 ·subst e;simp only[if_true]at h10;simp[h10]
 ·simp only[aM e]at h10;have:d.beq u=false:=by
   cases h:d.beq u with
   |false=>rfl
   |true=>exact absurd (bK h).symm e
  rw[this];exact h10
theorem au.ain {c:Code} (t:Nat) {i n m:Nat} (ht:O.get t=some (.os i n)) (h:n=m) (hk:au E N K (.code c::k) Q (Tr.put 24 O t (some (.os i m))) L):au E N K (.code c::k) Q O L:=by
 unfold au at hk⊢;simp only[dq]at hk⊢;exactλZ OB LB hs hh=>hk Z OB LB (hs.nP t ht h) hh
theorem DC.I8 {c:Code} (i c':Nat) {cs:List CV} {j n e kk:Nat} {rows:List (List AV)} (hi:L.e.get i=some (.box cs)) (hc:nth cs c'=some (.os j n)) (hj:L.e.get j=some (.row e kk rows)) (hn:n=rows.length)
  (h:DC E N K c Q O ((L.set j .gone).set i (.box (cs.set c' (.d (.sl kk rows)))))):DC E N K c Q O L:=λZ OB LB hs hh=>by
 obtain⟨y,hy,hE⟩:=hh.en i _ hi;obtain⟨b,cs',hb,rfl,hcs⟩:=hE;obtain⟨z,hz,hI⟩:=hcs.nth hc;simp only[aK]at hI;obtain⟨a,c2,t',h3,rfl⟩:=hI;obtain⟨q,hq,hE2⟩:=hh.en j _ hj;obtain⟨⟨a',c3,h8,rfl⟩,h9⟩:=hE2;subst hn;rw[h3]at h8;cases h8;refine b7.ln (eZ.adj i c' hy hz hq) ?_;refine h Z _ _ hs ?_;have h1:=hh.set (x:= .gone) (y:= .gone) (.refl Z) (λ_ _=>rfl) (λ_ _=>rfl) (hh.lt hj) trivial
 exact h1.set (.refl Z) (λ_ _=>rfl) (λ_ _=>rfl) (hh.lt hi) ⟨b,_,hb,rfl,hcs.Fj (by simp only[aK])⟩
theorem au.I8 {c:Code} (i c':Nat) {cs:List CV} {j n e kk:Nat} {rows:List (List AV)} (hi:L.e.get i=some (.box cs)) (hc:nth cs c'=some (.os j n)) (hj:L.e.get j=some (.row e kk rows)) (hn:n=rows.length)
  (h:au E N K (.code c::k) Q O ((L.set j .gone).set i (.box (cs.set c' (.d (.sl kk rows)))))):au E N K (.code c::k) Q O L:=by
 unfold au at h⊢;simp only[dq]at h⊢;exact DC.I8 i c' hi hc hj hn h
