/- The kit's contract of a sort of structs by a comparison, as a call that writes a row of one's own; comparisons in three ways. -/
import Derived.Test.YtnocmolegijmkaaGreatKE7
import Derived.Shelf.SlSortCmp.WholeK
import Derived.Lib.SliceRun
set_option linter.all false
section
noncomputable section
namespace Go.Bw
open Go Go.Proofs
structure fH {D:Type} (c:D->D->Int):Prop where
 fQ:∀a b,c a b=0↔a=b
 jY:∀a b,c b a= -c a b
 trans:∀a b d,c a b<0->c b d<0->c a d<0
def gx (x y:Int):Int:=if x=0 then y else x
def cmpL {D:Type} (c:D->D->Int):List D->List D->Int
 |[],[]=>0
 |[],_::_=> -1
 |_::_,[]=>1
 |x::a,y::b=>gx (c x y) (cmpL c a b)
theorem fH.refl {D:Type} {c:D->D->Int} (h:fH c) (a:D):c a a=0:=(h.fQ a a).2 rfl
theorem fH.lex {D β:Type} {c:D->D->Int} {d:β->β->Int} (hc:fH c) (hd:fH d):fH λ(p q:D×β)=>gx (c p.1 q.1) (d p.2 q.2) where
 fQ:=λ⟨a,b⟩ ⟨a',b'⟩=>by
  have h1:=hc.fQ a a';have h2:=hd.fQ b b';simp only[gx,cR];split
  ·rw[h2];simp[h1.1 (by assumption)]
  ·constructor
   ·intro e;contradiction
   ·rintro ⟨rfl,_⟩;exact absurd (hc.refl a) (by assumption)
 jY:=λ⟨a,b⟩ ⟨a',b'⟩=>by
  have h1:=hc.jY a a';have h2:=hd.jY b b';simp only[gx];split<;>split<;>omega
 trans:=λ⟨a,b⟩ ⟨a',b'⟩ ⟨a2,b2⟩=>by
  simp only[gx];by_cases h1:c a a'=0
  ·rw[bg h1];have:=(hc.fQ a a').1 h1;subst this;by_cases h2:c a a2=0
   ·simp only[bg h2];exact hd.trans b b' b2
   ·simp only[aM h2];exactλ_ h=>h
  ·rw[aM h1];by_cases h2:c a' a2=0
   ·have:=(hc.fQ a' a2).1 h2;subst this;simp only[aM h1];exactλh _=>h
   ·rw[aM h2];intro g1 g2;have g3:=hc.trans a a' a2 g1 g2;rw[aM (by omega)];exact g3
theorem fH.map {D β:Type} {c:D->D->Int} (hc:fH c) (g:β->D) (hg:∀x y,g x=g y->x=y):fH λx y=>c (g x) (g y) where
 fQ x y:=(hc.fQ _ _).trans ⟨hg x y,λe=>by rw[e]⟩
 jY x y:=hc.jY _ _
 trans x y z:=hc.trans _ _ _
theorem Er {D:Type} {c:D->D->Int} (hc:fH c):fH (cmpL c) where
 fQ:=by
  intro a
  induction a with
  |nil=>intro b;cases b<;>simp[cmpL]
  |cons x a ih=>
   intro b;cases b with
   |nil=>simp[cmpL]
   |cons y b=>
    simp only[cmpL,gx,kn];split
    ·rw[ih];simp[(hc.fQ x y).1 (by assumption)]
    ·constructor
     ·intro e;contradiction
     ·rintro ⟨rfl,_⟩;exact absurd (hc.refl x) (by assumption)
 jY:=by
  intro a
  induction a with
  |nil=>intro b;cases b<;>simp[cmpL]
  |cons x a ih=>
   intro b;cases b with
   |nil=>simp[cmpL]
   |cons y b=>
    have h1:=hc.jY x y;have h2:=ih b;simp only[cmpL,gx];split<;>split<;>omega
 trans:=by
  intro a
  induction a with
  |nil=>
   intro b d h g;cases d with
   |nil=>cases b<;>simp[cmpL]at h g
   |cons z d=>simp[cmpL]
  |cons x a ih=>
   intro b d h g;cases b with
   |nil=>simp[cmpL]at h
   |cons y b=>
    cases d with
    |nil=>simp[cmpL]at g
    |cons z d=>
     simp only[cmpL,gx]at*
     by_cases h1:c x y=0
     ·have:=(hc.fQ x y).1 h1;subst this;rw[bg h1]at h;by_cases h2:c x z=0
      ·rw[bg h2]at g⊢;exact ih b d h g
      ·rw[aM h2]at g⊢;exact g
     ·rw[aM h1]at h;by_cases h2:c y z=0
      ·have:=(hc.fQ y z).1 h2;subst this;rw[aM h1];exact h
      ·rw[aM h2]at g;have g3:=hc.trans x y z h g;rw[aM (by omega)];exact g3
def sG {D:Type} (c:D->D->Int) (x:D):List D->List D
 |[]=>[x]
 |y::l=>if c x y<=0 then x::y::l else y::sG c x l
def dR {D:Type} (c:D->D->Int):List D->List D
 |[]=>[]
 |x::l=>sG c x (dR c l)
section
variable {D:Type} {c:D->D->Int}
theorem Is (x:D):∀l:List D,(sG c x l).Perm (x::l)
 |[]=> .refl _
 |y::l=>by
  rw[sG];split
  ·exact .refl _
  ·exact((Is x l).cons y).trans (.swap x y l)
theorem oL:∀l:List D,(dR c l).Perm l
 |[]=> .refl _
 |x::l=>(Is x _).trans ((oL l).cons x)
theorem fH.le_trans (hc:fH c) {a b d:D} (h:c a b<=0) (g:c b d<=0):c a d<=0:=by
 by_cases h1:c a b=0
 ·rw[(hc.fQ a b).1 h1];exact g
 by_cases h2:c b d=0
 ·rw[<-(hc.fQ b d).1 h2];exact h
 have:=hc.trans a b d (by omega) (by omega);omega
theorem Pa (hc:fH c) (x:D):∀{l:List D},l.Pairwise (λa b=>c a b<=0)->(sG c x l).Pairwise λa b=>c a b<=0
 |[],_=>by simp[sG]
 |y::l,h=>by
  rw[xO]at h;rw[sG];split
  ·rename_i hxy;rw[xO,xO];refine⟨λz hz=>?_,h⟩;rcases cq.1 hz with rfl|hz
   ·exact hxy
   ·exact hc.le_trans hxy (h.1 z hz)
  ·rename_i hxy;rw[xO];refine⟨λz hz=>?_,Pa hc x h.2⟩;rcases cq.1 ((Is x l).mem_iff.1 hz)with rfl|hz
   ·have:=hc.jY z y;omega
   ·exact h.1 z hz
theorem tF (hc:fH c):∀l:List D,(dR c l).Pairwise λa b=>c a b<=0
 |[]=>by simp[dR]
 |x::l=>Pa hc x (tF hc l)
theorem nL (l:List D):(dR c l).length=l.length:=(oL l).length_eq
theorem HP (hc:fH c):∀{a b:List D},a.Perm b->a.Pairwise (λa b=>c a b<=0)->b.Pairwise (λa b=>c a b<=0)->a=b
 |[],b,h,_,_=>(List.nil_perm.1 h).symm
 |x::a,[],h,_,_=>absurd (List.perm_nil.1 h) (by simp)
 |x::a,y::b,h,ha,hb=>by
  rw[xO]at ha hb;have e:x=y:=by
   rcases cq.1 (h.mem_iff.1 (OA ..))with e|hx
   ·exact e
   ·rcases cq.1 (h.mem_iff.2 (OA ..))with e|hy
    ·exact e.symm
    ·have h1:=hb.1 x hx;have h2:=ha.1 y hy;have h3:=hc.jY x y;exact(hc.fQ x y).1 (by omega)
  subst e;rw[HP hc (List.perm_cons x|>.1 h) ha.2 hb.2]
end
theorem adg {w w':World} (h:Ext [] w [] w'):∃q os',w'=Go.Sort.grow (w.drewN q) os':=by
 refine⟨w'.drawn-w.drawn,w'.heap.extract w.heap.size w'.heap.size,?_⟩;have h1:=h.os;have h2:=h.tape;have h3:=h.output;have h4:=h.drawn.le;have h5:=h.size;have h6:w'.heap=w.heap++w'.heap.extract w.heap.size w'.heap.size:=by
  apply aad;intro i;rw[HC];by_cases hi:i<w.heap.size
  ·rw[bg hi];exact h.block i hi (by simp[ids])
  ·rw[aM hi,Array.getElem?_extract];by_cases hi2:i<w'.heap.size
   ·rw[bg (by omega)];congr 1;omega
   ·rw[aM (by omega),tq (by omega)]
 cases w;cases w';simp only at h1 h2 h3 h4 h6;subst h1;subst h2;subst h3;simp only[Go.Sort.grow,World.drewN];rw[<-h6];congr 1;omega
section
variable {T:Type} {cs:T->List AV} {k:Nat}
theorem PK {w:World} {A:Nat->Prop}:∀{es:List T} {vs:List Value},bq w A k (es.map cs) vs->∃ps:List (T×List Value),ps.map Prod.fst=es/\(∀p∈ps,aL w A (cs p.1) p.2/\p.2.length=k)/\vs=ps.flatMap (·.2)
 |[],vs,h=>by simp only[lY,bq]at h;exact⟨[],rfl,by simp,by simpa using h⟩
 |e::es,vs,h=>by
  simp only[dp,bq]at h;obtain⟨v1,v2,rfl,h1,h2,h3⟩:=h;obtain⟨ps,g1,g2,g3⟩:=PK h3;refine⟨(e,v1)::ps,by simp[g1],λp hp=>?_,by simp[g3]⟩;rcases cq.1 hp with rfl|hp
  ·exact⟨h2,by rw[h2.length,h1]⟩
  ·exact g2 p hp
theorem Qa {w:World} {A:Nat->Prop}:∀{ps:List (T×List Value)},(∀p∈ps,aL w A (cs p.1) p.2/\p.2.length=k)->bq w A k ((ps.map Prod.fst).map cs) (ps.flatMap (·.2))
 |[],_=>by simp[bq]
 |p::ps,h=>by
  simp only[dp,tr,bq];have hp:=h p (by simp);exact⟨p.2,_,rfl,by rw[<-hp.1.length,hp.2],hp.1,Qa λq hq=>h q (by simp[hq])⟩
theorem uk {β:Type} {enc:β->List Value} (hk:∀x,(enc x).length=k) (k0:0<k):∀{L:List β} {t:Nat} {x:β},L[t/k]? =some x->(L.flatMap enc)[t]? =(enc x)[t%k]?
 |[],t,x,h=>by simp at h
 |y::L,t,x,h=>by
  rw[tr];by_cases ht:t<k
  ·rw[Nat.div_eq_of_lt ht]at h;simp only[jP,aE]at h;subst h;rw[mF (by rw[hk];exact ht),Nat.mod_eq_of_lt ht]
  ·have e1:t/k=(t-k)/k+1:=by rw[Nat.div_eq_sub_div k0 (by omega)]
   have e2:t%k=(t-k)%k:=Nat.mod_eq_sub_mod (by omega);rw[e1,nD]at h;rw[xK (by rw[hk];omega),hk,e2];exact uk hk k0 h
theorem PL {β:Type} [Inhabited β] {enc:β->List Value} (hk:∀x,(enc x).length=k) (k0:0<k) (d:Array β):(Go.Sort.flatK enc k d).toList=d.toList.flatMap enc:=by
 have hl:∀L:List β,(L.flatMap enc).length=L.length*k:=λL=>by
  induction L with
  |nil=>simp
  |cons x L ih=>simp[ih,hk,jc,xP]
 apply nC;intro t;by_cases ht:t<d.size*k
 ·have hq:t/k<d.size:=(Nat.div_lt_iff_lt_mul k0).2 ht;have h1:=Go.Sort.get_flatK enc k d t ht;have h2:t<(Go.Sort.flatK enc k d).size:=by simpa using ht
  have hm:t%k<(enc d[t/k]!).length:=by rw[hk];exact Nat.mod_lt _ k0
  rw[uk (x:=d[t/k]!) hk k0 (by simp[hq]),Dz,Array.getElem?_eq_getElem h2,OD hm];simp only[h2,getElem!_pos]at h1;rw[h1];simp[hm]
 ·rw[kK (by simp;omega),kK (by rw[hl];simp;omega)]
end
section
variable {E:Env} {g gc:FuncId} {T:Type} {cs:T->List AV} {k:Nat} {c:T->T->Int}
def Iu (P:Program) (g gc:FuncId) (k:Nat):Prop:=
 (∀(D:Type) [Inhabited D] (enc:D->List Value) (_:∀x,(enc x).length=k) (_:∀x,∀v∈enc x,v.oneCell'=true) (cf:D->D->Int) (_:Go.Sort.SWO (ltOf cf)) (fR off cap:Nat) (d:Array D) (w:World),
  CmpLays P gc #[] enc k cf fR off d.size w->Go.Sort.HoldsK enc k w fR off d->fR<w.heap.size->d.size<4611686018427387904->
  Calls P g #[.slice (some ⟨fR,off,none⟩) d.size cap,.func (.func gc) #[] #[]] w λe w'=>e= .returned (.tuple #[])/\∃d' n os,Go.Sort.PermIn 0 d.size d d'/\Go.Sort.SortedIn (ltOf cf) 0 d.size d'/\w'=sortWorldK enc k w fR off n d' os)/\
 (∀(p:Option Addr) (cap:Nat) (fv:Value) (w:World),Calls P g #[.slice p 0 cap,fv] w λe w'=>e= .returned (.tuple #[])/\w'=w)
theorem afW {β:Type} (hO:fH c) (f:β->T):Go.Sort.SWO (ltOf λx y:β=>c (f x) (f y)) where
 irrefl x:=by simp[ltOf,hO.refl]
 trans x y z h g:=by
  simp only[ltOf,jQ]at*
  exact hO.trans _ _ _ h g
 ntrans x y z h g:=by
  simp only[ltOf,decide_eq_false_iff_not]at*
  have h1:=hO.jY (f x) (f y);have h2:=hO.jY (f y) (f z);have h3:=hO.jY (f x) (f z);have:=hO.le_trans (a:=f z) (b:=f y) (d:=f x) (by omega) (by omega);omega
theorem aa5 (hc:pN E.P g) (hs:Iu E.P g gc k) (k0:0<k) (hO:fH c) (hones:∀t,fc (cs t)=true) {es:List T} (hP:∀x∈es,∀y∈es,Pure E.toCx gc [.agg (cs x),.agg (cs y)] (.ret (.v (.int .i64 (c x y)))))
  {e tag n cp:Nat} {a0:Option Addr} (hn:n=es.length) (hl:es.length<4611686018427387904):
  lN E.toCx g [.os tag a0 n cp,.v (.func (.func gc) #[] #[])] [.row (.slice a0 n cp) e k (es.map cs)] λr L'=>r= .ret (.bY [])/\L'=[.row (.slice a0 n cp) e k ((dR c es).map cs)]:=by
 refine⟨hc,λF w vs hk hr=>?_⟩;simp only[aL,Rel]at hr;obtain⟨v,_,rfl,hv,_,_,rfl,rfl,rfl⟩:=hr;subst hn;obtain⟨us,h3,h4⟩:=hk.eG (.row (.slice a0 es.length cp) e k (es.map cs)) (by simp);have hret:∀(w':World) (A:Nat->Prop),AR.rel w' A (.ret (.bY [])) (.returned (.tuple #[])):=λw' A=>⟨_,rfl,by simp only[Rel,aL];exact⟨[],rfl,rfl⟩⟩;rw[<-hv]at hk h3 h4⊢;obtain⟨h40,h4⟩:=h4;have none:es=[]->(v= .slice a0 0 cp)->Calls E.P g [v,.func (.func gc) #[] #[]].toArray w λe' w'=>∃r L',(r= .ret (.bY [])/\L'=[.row v e k ((dR c es).map cs)])/\AR.rel w' (Al F L') r e'/\bM E.toCx.G w' F L'/\Ext [.row v e k (es.map cs)] w L' w':=λe0 ev=>by
  subst e0;rw[ev]at hk⊢;refine(hs.2 a0 cp _ w).mono λe' w' ⟨he,hw⟩=>?_;subst he hw;exact⟨_,_,⟨rfl,rfl⟩,hret _ _,hk,Ext.refl _ _⟩
 rcases h4 with⟨hvn,h0⟩|⟨b,cap,cur,hvg,hbase,hg,hnc,hcm,hcs,htake⟩
 ·have e0:es=[]:=jb (by simpa using h0);exact none e0 (by rw[hv,e0];rfl)
 ·by_cases e0:es=[]
  ·exact none e0 (by rw[hv,e0];rfl)
  obtain⟨ps,hp1,hp2,hp3⟩:=PK h3;have hpl:ps.length=es.length:=by rw[<-hp1];simp
  have hb:b<w.heap.size:=(gQ.1 hg).1;have hids:∀rs,aq.ids (.row v e k rs)=[b]:=λrs=>by simp[aq.ids,hvg,Value.ownBlock]
  have hAl:∀rs c,Al F [.row v e k rs] c↔¬F c/\c≠b:=λrs c=>by simp[Al,cJ,hids,ids]
  --the rows as they lie there
  let β:Type:={p:T×List Value//p.1∈es/\aL w (Al F [.row v e k (es.map cs)]) (cs p.1) p.2/\p.2.length=k}
  have hall:∀p∈ps,p.1∈es/\aL w (Al F [.row v e k (es.map cs)]) (cs p.1) p.2/\p.2.length=k:=λp hp=>⟨by rw[<-hp1];exact dP.2 ⟨p,hp,rfl⟩,hp2 p hp⟩;obtain⟨qs,hqs⟩:∃qs:List β,qs.map Subtype.val=ps:=by
   refine⟨ps.attach.map λp=>⟨p.1,hall p.1 p.2⟩,?_⟩;rw[aae];exact List.attach_map_subtype_val ps
  have hql:qs.length=es.length:=by rw[<-hpl,<-hqs,ja]
  obtain⟨q0,hq0⟩:∃q,q∈qs:=by
   cases hq:qs with
   |nil=>rw[hq]at hql;exact absurd (jb hql.symm) e0
   |cons q r=>exact⟨q,by simp⟩
  haveI:Inhabited β:=⟨q0⟩
  let enc:β->List Value:=λq=>q.1.2
  have hke:∀x:β,(enc x).length=k:=λx=>x.2.2.2;have hus:us=qs.flatMap enc:=by
   rw[hp3,<-hqs,List.flatMap_map]
  have hcell:∀j u,us[j]? =some u->cur[j]? =some u:=λj u hj=>by
   have h1:cur.toList.take (es.length*k)=us:=by simpa using htake
   rw[<-h1,fT]at hj;split at hj
   ·simpa using hj
   ·cases hj
  have hH:Go.Sort.HoldsK enc k w b 0 qs.toArray:=λj hj=>by
   have hl2:(Go.Sort.flatK enc k qs.toArray).toList=us:=by rw[PL hke k0,hus]
   have hj2:j<us.length:=by rw[<-hl2];simpa using hj
   have h1:=hcell j us[j] (by simp[hj2]);have h2:(Go.Sort.flatK enc k qs.toArray)[j]! =us[j]:=by
    have:(Go.Sort.flatK enc k qs.toArray).toList[j]? =some us[j]:=by rw[hl2];simp[hj2]
    rw[Dz]at this;obtain⟨h5,h6⟩:=gQ.1 this;rw[getElem!_pos (Go.Sort.flatK enc k qs.toArray) j h5,h6]
   refine⟨?_,?_⟩
   ·rw[h2];simp[World.cell?,hg,h1]
   ·simp[World.frozen?,hg]
  --worlds of the sort
  have hheapW:∀(m:Nat) (os:Array Obj) (dk:Array β) (j:Nat),j<w.heap.size->j≠b->(sortWorldK enc k w b 0 m dk os).heap[j]? =w.heap[j]? :=λm os dk j hj hne=>by
   show((w.heap.modify b (Go.Sort.onCells (Go.Sort.putCells id 0 (Go.Sort.flatK enc k dk))))++os)[j]? =_;rw[HC,bg (by simpa using hj),Dy,aM (jm hne)]
  have hsizeW:∀(m:Nat) (os:Array Obj) (dk:Array β),w.heap.size<=(sortWorldK enc k w b 0 m dk os).heap.size:=λm os dk=>by
   show w.heap.size<=((w.heap.modify b (Go.Sort.onCells (Go.Sort.putCells id 0 (Go.Sort.flatK enc k dk))))++os).size;simp
  have hkeep:∀(m:Nat) (os:Array Obj) (dk:Array β) (A':Nat->Prop),(∀j,¬F j->j≠b->A' j)->dF w (Al F [.row v e k (es.map cs)]) (sortWorldK enc k w b 0 m dk os) A':=λm os dk A' hA'=>
   ⟨hsizeW m os dk,λj hj ha=>by
    rw[hAl]at ha;exact⟨hA' j ha.1 ha.2,hheapW m os dk j hj ha.2⟩⟩
  have hcmp:CmpLays E.P gc #[] enc k (λx y:β=>c x.1.1 y.1.1) b 0 qs.toArray.size w:=λm os dk hd x y=>by
   have hA:∀j,¬F j->j≠b->Al (λz=>F z\/z=b) [] j:=λj h1 h2=>by simp[Al,ids,h1,h2]
   have hK:=hkeep m os dk _ hA;have hHO:bM E.toCx.G (sortWorldK enc k w b 0 m dk os) (λz=>F z\/z=b) []:=⟨by simp,by simp[ids],by simp[ids],λz hz=>by
    rcases hz with hz|rfl
    ·exact oG (hk.bound z hz) (hsizeW m os dk)
    ·exact oG hb (hsizeW m os dk),hk.gK.keep hK⟩
   refine((hP x.1.1 x.2.1 y.1.1 y.2.1).2 _ _ [.agg (enc x).toArray,.agg (enc y).toArray] hHO ?_).mono ?_
   ·simp only[aL,Rel];exact⟨_,_,rfl,⟨_,rfl,x.2.2.1.keep hK⟩,_,_,rfl,⟨_,rfl,y.2.2.1.keep hK⟩,rfl⟩
   ·rintro e' w' ⟨r,L',⟨rfl,rfl⟩,hv',_,hx⟩;obtain⟨u,rfl,hu⟩:=hv';simp only[Rel]at hu;subst hu;exact⟨rfl,adg hx⟩
  have h1c:∀(x:β),∀u∈enc x,u.oneCell'=true:=λx u hu=>yD (hones x.1.1) x.2.2.1 u hu;have hcon:=hs.1 β enc hke h1c (λx y:β=>c x.1.1 y.1.1) (afW hO λx:β=>x.1.1) b 0 cap qs.toArray w hcmp hH hb (by simpa[hql]using hl);rw[hvg];have hqsz:qs.toArray.size=es.length:=by simpa using hql
  have hmap:(es.map cs).length=es.length:=by simp
  rw[hqsz]at hcon;rw[hmap];refine hcon.mono λe' w' ⟨he,d',m,os,hperm,hsorted,hw⟩=>?_;subst he;have hdl:d'.size=es.length:=by rw[hperm.1,hqsz]
  have hpm:d'.toList.Perm qs:=by
   have:=hperm.2.2;have e1:d'.extract 0 es.length=d':=by rw[<-hdl];exact Array.extract_size
   have e2:qs.toArray.extract 0 es.length=qs.toArray:=by rw[<-hqsz];exact Array.extract_size
   rw[e1,e2]at this;simpa using this
  have hnew:d'.toList.map (λq:β=>q.1.1)=dR c es:=by
   refine HP hO ?_ ?_ (tF hO es)
   ·refine((hpm.map _).trans ?_).trans (oL es).symm;have h0:qs.map (λq:β=>q.1.1)=(qs.map Subtype.val).map Prod.fst:=by rw[aae];rfl
    rw[h0,hqs,hp1]
   ·rw[List.pairwise_map,HD];intro i j hi hj hij;have hi':i<d'.size:=by simpa using hi
    have hj':j<d'.size:=by simpa using hj
    have:=hsorted i j (mG _) hij (by omega);simp only[hi',hj',getElem!_pos,ltOf,decide_eq_false_iff_not]at this;have h2:=hO.jY d'[i].1.1 d'[j].1.1;simp only[Array.getElem_toList];omega
  have hheap:w'.heap=w.heap.modify b (Go.Sort.onCells (Go.Sort.putCells id 0 (Go.Sort.flatK enc k d')))++os:=by rw[hw];rfl
  have hwb:w'.heap[b]? =some (.cells (Go.Sort.putCells id 0 (Go.Sort.flatK enc k d') cur) e (0,0)):=by
   rw[hheap,HC,bg (by simpa using hb),Dy,bg rfl,hg];rfl
  have hwo:∀j,j<w.heap.size->j≠b->w'.heap[j]? =w.heap[j]? :=λj hj hne=>by rw[hw];exact hheapW m os d' j hj hne
  have hws:w.heap.size<=w'.heap.size:=by rw[hw];exact hsizeW m os d'
  have hfl:(Go.Sort.flatK enc k d').toList=d'.toList.flatMap enc:=PL hke k0 d';have hsl:(dR c es).length=es.length:=nL es;have hnl:((dR c es).map cs).length=es.length:=by simp[hsl]
  have hflen:(d'.toList.flatMap enc).length=es.length*k:=by rw[<-hfl];simp[hdl]
  have hA2:∀j,¬F j->j≠b->Al F [.row v e k ((dR c es).map cs)] j:=λj h1 h2=>(hAl _ j).2 ⟨h1,h2⟩;have hKw:dF w (Al F [.row v e k (es.map cs)]) w' (Al F [.row v e k ((dR c es).map cs)]):=by rw[hw];exact hkeep m os d' _ hA2
  refine⟨_,_,⟨rfl,rfl⟩,hret _ _,?_,?_⟩
  ·rw[<-hmap,<-hvg];refine bM.lU (l:=[]) (r:=[]) hk hws (λj hj hn=>hwo j hj λe=>hn (by rw[hids,e];simp)) (λj hj=> .inl (by rw[hids]at hj⊢;exact hj)) (by rw[hids];simp) ?_;refine⟨d'.toList.flatMap enc,?_,by rw[hflen,hnl],.inr ⟨b,cap,_,by rw[hvg,hnl,hmap],hbase,hwb,by rw[hnl];simpa using hnc,hcm,?_,?_⟩⟩
   ·have:=Qa (cs:=cs) (k:=k) (w:=w') (A:=Al F [.row v e k ((dR c es).map cs)]) (ps:=d'.toList.map Subtype.val) λp hp=>by
     obtain⟨q,_,rfl⟩:=dP.1 hp;exact⟨q.2.2.1.keep hKw,q.2.2.2⟩
    have e1:(d'.toList.map Subtype.val).map Prod.fst=dR c es:=by rw[aae];exact hnew
    rw[e1,List.flatMap_map]at this;exact this
   ·simpa[Go.Sort.putCells]using hcs
   ·apply nC;intro i;rw[fT,hnl];by_cases hi:i<es.length*k
    ·rw[bg hi,<-hfl];have hcs2:es.length*k<=cur.size:=by rw[hcs];exact gg k (by simpa using hnc)
     have hi2:i<d'.size*k:=by rw[hdl];exact hi
     have hi3:i<cur.size:=by omega
     simp[Go.Sort.putCells,hi2,hi3]
    ·rw[aM hi,kK (by rw[hflen];omega)]
  ·rw[<-hmap,<-hvg];refine⟨by rw[hw];rfl,by rw[hw];rfl,by rw[hw];rfl,hws,λj hj hn=>hwo j hj λe=>hn (by simp only[cJ,b7,hids];left;simp[e]),λj hj=> .inl ?_,.of (by rw[hw];exact OE _ _)⟩;simpa[cJ,hids]using hj
theorem kv.adh (hc:pN E.P g) (hs:Iu E.P g gc k) (k0:0<k) (hO:fH c) (hones:∀t,fc (cs t)=true) {es:List T} (hP:∀x∈es,∀y∈es,Pure E.toCx gc [.agg (cs x),.agg (cs y)] (.ret (.v (.int .i64 (c x y)))))
  {e n:Nat} (hn:n=es.length) (hl:es.length<4611686018427387904):
  kv E g [.os 0 n,.d (.v (.func (.func gc) #[] #[]))] (.row e k (es.map cs)) (.bY []) (.row e k ((dR c es).map cs)):=λZ ys LB hi hh=>by
 simp only[aS]at hi;obtain⟨y,_,rfl,hy,y2,_,rfl,hy2,rfl⟩:=hi;simp only[aK]at hy hy2;obtain⟨a,cp,t',h3,rfl⟩:=hy;subst hy2;have hget:(jH [(lR.row e k (es.map cs)).c]).e.get 0=some (.row e k (es.map cs)):=rfl;obtain⟨q,h6,h7⟩:=hh.en 0 _ hget;obtain⟨⟨a',c',h8,rfl⟩,h9⟩:=h7;have hm1:(es.map cs).length=es.length:=by simp
 have hm2:((dR c es).map cs).length=es.length:=by simp[nL]
 rw[hm1]at h8 h9 h6;subst hn;rw[h3]at h8;cases h8;have hlen:LB.length=1:=hh.len;obtain⟨z,rfl⟩:∃z,LB=[z]:=by
  match LB,hlen with
  |[z],_=>exact⟨z,rfl⟩
 simp only[cM,jP,aE]at h6;subst h6;refine(aa5 hc hs k0 hO hones hP rfl hl).mono ?_;rintro r L' ⟨rfl,rfl⟩;refine⟨Z,.ret (.d (.bY [])),(jH [(lR.row e k (es.map cs)).c]).set 0 (.row e k ((dR c es).map cs)),?_,⟨_,rfl,rfl⟩,?_,?_⟩
 ·exactλ_ _=>⟨λ_ h=>h,λ_ _ h=>h⟩
 ·have:=hh.set (x:= .row e k ((dR c es).map cs)) (y:= .row (.slice a es.length cp) e k ((dR c es).map cs)) (.refl Z) (λ_ _=>rfl) (λ_ _=>rfl) (i:=0) (by show 0<1;omega) ⟨⟨a,cp,by rw[hm2];exact h3,by rw[hm2]⟩,λm hm=>h9 m (by rw[hm2]at hm;omega)⟩
  exact this
 ·exact⟨_,_,_,_,rfl,rfl,aW,rfl,.refl _,.refl _⟩
end
end Go.Bw
end

section
noncomputable section
namespace Go.Bw
open Go
section
variable {N:Nat} {O:Sg} {L:List aq} {E:Env}
theorem Sq {P:Program} {t e:TypeId} (h:P.underlying t=some (.slice e)):P.underlying t=some (.slice (P.elem t)):=by
 have:P.elem t=e:=by simp[Program.elem,h]
 rw[this];exact h
theorem aeL {P:Program} {t e:TypeId} (h:P.underlying t=some (.slice e)):P.elem t=e:=by simp[Program.elem,h]
theorem ade {tg:Nat} {o:Oper} {t:TypeId} {p q:Operand} {a0:Option Addr} {i n c e sz by':Nat} {z:List Value} {rows:List (List AV)} {kd:IntKind} (l:Nat) (ho:o.op= .slice t p (some q) none none) (ht:bc E.T t=some ⟨.slice e 1,sz,by',z⟩)
  (hp:ev (look O) p=some (.os tg a0 n c)) (hi:nth L i=some (.row (.slice a0 n c) e 1 rows)) (hq:ev (look O) q=some (.v (.int kd (l:Int)))) (hl:l<=n):
  pr E.toCx N o O L (λx L'=>x= .v (sliced a0 l n c 1)/\L'=L):=λF a w hs=>by
 have h1:=bH hs.sg hp;have h2:=bH hs.sg hq;simp only[Rel]at h1 h2;obtain⟨hu,hke,hh⟩:=kO (E.tok _ _ ht) rfl;have hsz:(sizeOf (E.P.elem t)).run E.P w= .ok 1 w:=by rw[aeL hu];have:=l7 hh w;rwa[<-hke]at this
 refine⟨sliced a0 l n c 1,w,.v (sliced a0 l n c 1),L,⟨rfl,rfl⟩,?_,by simp only[Rel],hs.hp,Ext.refl _ _⟩;have h3:=run_slice_l (P:=E.P) w t a0 n c (Sq hu) kd l (by omega) (by omega);simp only[execOp,ho,h1,h2,Hz,OB,Sem.run_bind,run_sliceAt_slice (P:=E.P) w t _ _ _ _ (Sq hu),h3,hsz,Result.andThen];simp
theorem aca {o:Oper} {t:TypeId} {p:Operand} {a0:Option Addr} {i c e sz by':Nat} {z:List Value} {zv:Value} {rows:List (List AV)} (l:Nat) (ho:o.op= .call {callee:= .builtin .clear,args:= #[p],argTypes:= #[t]}) (ht:bc E.T t=some ⟨.slice e 1,sz,by',z⟩)
  (hz:∀w,(zeroValue e).run E.P w= .ok zv w) (hzc:zv.cells= #[zv]) (hz1:zv.oneCell'=true) (hp:ev (look O) p=some (.v (sliced a0 l rows.length c 1))) (hi:nth L i=some (.row (.slice a0 rows.length c) e 1 rows)) (hl:l<=rows.length):
  pr E.toCx N o O L (λx L'=>x= .bY []/\L'=L.set i (.row (.slice a0 rows.length c) e 1 (rows.take l++List.replicate (rows.length-l) [.v zv]))):=λF a w hs=>by
 obtain⟨v,hvd⟩:∃v,v=Value.slice a0 rows.length c:=⟨_,rfl⟩;have h1:=bH hs.sg hp;simp only[Rel]at h1;obtain⟨hu,hke,hh⟩:=kO (E.tok _ _ ht) rfl;rw[<-hvd]at hi⊢;obtain⟨ll,rr,rfl,hset⟩:=mJ hi;simp only[hset];obtain⟨vs,h3,h4⟩:=hs.hp.eG (.row v e 1 rows) (by simp);have hvl:vs.length=rows.length:=by rw[h3.length,xM]
 have hnl:(rows.take l++List.replicate (rows.length-l) [AV.v zv]).length=rows.length:=by simp;omega
 have hrep:∀m,bq w (Al F (ll++aq.row v e 1 rows::rr)) 1 (List.replicate m [AV.v zv]) (List.replicate m zv):=λm=>by
  induction m with
  |zero=>simp[bq]
  |succ m ih=>simp only[anK,bq];exact⟨[zv],_,rfl,rfl,by simp[aL,Rel],ih⟩
 have htk:∀(rows:List (List AV)) (vs:List Value) (l:Nat),bq w (Al F (ll++aq.row v e 1 rows::rr)) 1 rows vs->True:=λ_ _ _ _=>trivial;have htake:∀{A:Nat->Prop} (rows:List (List AV)) (vs:List Value) (l:Nat),bq w A 1 rows vs->bq w A 1 (rows.take l) (vs.take l):=by
  intro A rows
  induction rows with
  |nil=>intro vs l h;simp only[bq]at h;subst h;simp[bq]
  |cons r rows ih=>
   intro vs l h;simp only[bq]at h;obtain⟨v1,v2,rfl,hr,h5,h6⟩:=h;cases l with
   |zero=>simp[bq]
   |succ l=>
    obtain⟨u,rfl⟩:∃u,v1=[u]:=by
     have:=h5.length;rw[hr]at this;exact List.length_eq_one_iff.1 this
    simp only[xN,anL,bq];exact⟨[u],_,rfl,hr,h5,ih v2 l h6⟩
 have hids:∀rs,aq.ids (.row v e 1 rs)=aq.ids (.row v e 1 rows):=λrs=>rfl;have hnd:(aq.ids (.row v e 1 rows)).Nodup:=by cases hob:v.ownBlock<;>simp[aq.ids,hob]
 --the run
 have hrun:∃w',(Builtin.clear_ #[t] o.type #[a.eval p]).run E.P w= .ok (.tuple #[]) w'/\w'.ownsRow 0 e 1 v rows.length (vs.take l++List.replicate (rows.length-l) zv)/\w'.os=w.os/\w'.tape=w.tape/\(w'.output=w.output/\w'.drawn=w.drawn)/\w'.heap.size=w.heap.size/\∀b,b∉aq.ids (.row v e 1 rows)->w'.heap[b]? =w.heap[b]? :=by
  rw[h1];obtain⟨h40,h4⟩:=h4;by_cases hle:l=rows.length
  ·--nothing to clear
   subst hle;refine⟨w,?_,?_,rfl,rfl,⟨rfl,rfl⟩,rfl,λ_ _=>rfl⟩
   ·simp only[sliced,Nat.sub_self];cases a0<;>(split<;>simp[Builtin.clear_,run_underlying hu,hz,hzc,Builtin.zeroCells,storeCells])
   ·rw[anM (by omega),Nat.sub_self,List.replicate_zero,jO];exact⟨h40,h4⟩
  ·rcases h4 with⟨hvn,h0⟩|⟨g,cap,cur,hvg,_,hg,hnc,hcm,hcs,htk2⟩
   ·omega
   ·rw[hvd]at hvg;simp only[Value.slice.injEq]at hvg;obtain⟨rfl,_,rfl⟩:=hvg;have hne:c≠l:=by omega
    have hsl:sliced (some ⟨g,0,none⟩) l rows.length c 1= .slice (some ⟨g,l,none⟩) (rows.length-l) (c-l):=by
     simp only[sliced,aM hne,Hz,Addr.add_lit,kJ,xM]
    rw[hsl];have hg':w.heap[g]? =some (.cells cur.toList.toArray e (0,0)):=by simpa using hg
    have hcl:cur.toList.length=c:=by simpa using hcs
    obtain⟨w',h6,h7,h8,h9,h10,h11,h12⟩:=xS (P:=E.P) g e (List.replicate (rows.length-l) zv) 0 l cur.toList w hg' (by simp;omega) (λu hu=>by rw[List.eq_of_mem_replicate hu];exact hz1);have hzc2:(Builtin.zeroCells zv.cells (rows.length-l)).toList=List.replicate (rows.length-l) zv:=by
     rw[hzc];simp[Builtin.zeroCells];apply List.ext_getElem
     ·simp
     ·intro i h1 h2;simp[Nat.mod_one]
    have hown:aq.ids (.row v e 1 rows)=[g]:=by rw[hvd];simp[aq.ids,Value.ownBlock]
    obtain⟨m,hm⟩:∃m,rows.length-l=m+1:=⟨rows.length-l-1,by omega⟩;refine⟨w',?_,⟨by simp[hvl];omega,.inr ⟨g,c,_,by rw[hvd],mG _,h7,hnc,hcm,?_,?_⟩⟩,h8,h9,h10,h11,λb hb=>h12 b (λe=>hb (by rw[hown,e];simp))⟩
    ·rw[hm]at hzc2 h6⊢;simp[Builtin.clear_,run_underlying hu,hz,hzc2,h6]
    ·simp only[HA];rw[ra (by simp;omega)];simpa using hcs
    ·apply nC;intro i;rw[fT,rj (by simp;omega)];have htk3:cur.toList.take rows.length=vs:=by simpa using htk2
     by_cases hi':i<rows.length*1
     ·rw[bg hi'];by_cases hi2:i<l
      ·rw[aM (by omega),mF (by simp;omega),<-htk3,fT,fT,bg hi2,bg (by omega)]
      ·rw[bg (by simp;omega),xK (by simp;omega),iK];have:l+0=l:=rfl;congr 1;omega
     ·rw[aM hi',kK (by simp;omega)]
 obtain⟨w',g1,g2,g3,g4,g5,g6,g7⟩:=hrun;have hext:Ext (ll++aq.row v e 1 rows::rr) w (ll++aq.row v e 1 (rows.take l++List.replicate (rows.length-l) [.v zv])::rr) w':=by
  refine⟨g3,g4,g5.1,by omega,λb _ hn=>g7 b λhb=>hn (by simp[cB,cJ,hb]),λb hb=> .inl ?_,.of (HB g5.2.symm)⟩;simpa[cB,cJ,aq.ids]using hb
 refine⟨.tuple #[],w',_,_,⟨rfl,rfl⟩,?_,by simp only[Rel,aL];exact⟨[],rfl,rfl⟩,?_,hext⟩
 ·simp only[execOp,ho,resolve,invoke,builtin,Sem.run_bind,Sem.run_pure,Result.andThen_ok,OC,dp,lY,g1]
 ·refine hs.hp.lU (by omega) (λb _ hn=>g7 b hn) (λb hb=> .inl hb) hnd ?_;exact⟨vs.take l++List.replicate (rows.length-l) zv,((htake rows vs l h3).append (hrep _)).keep hext.keeps,by rw[hnl];exact g2⟩
end
section
variable {E:Env} {N K:Nat} {Q:DQ} {O:TS} {L:Hp} {all rest:List Oper} {k:List It} {o:Oper}
theorem SS.drop {Z:aN} {s:Sl} (t:Nat) (x:AV) (hs:SS Z O s):SS Z (Tr.put 24 O t none) (λu=>if u=t then some x else s u):=by
 intro u y hy;rcases Tr.fy 24 O t u _ y hy with⟨rfl,e⟩|⟨hne,e⟩
 ·cases e
 ·obtain⟨z,h1,h2⟩:=hs _ _ e;exact⟨z,by simp only;rw[aM (λh=>hne (by first|exact h|exact h.symm))];exact h1,h2⟩
theorem ao.acb {i n d e sz by':Nat} {t:TypeId} {p q:Operand} {kd:IntKind} {m:Int} {z:List Value} {zv:Value} {rows:List (List AV)} {ty ty2:TypeId} {pos pos2:String} {after after2:Array Edge} (l:Nat)
  (hp:aY O p=some (.os i n)) (hi:L.e.get i=some (.row e 1 rows)) (hn:n=rows.length) (hq:aY O q=some (.d (.v (.int kd m)))) (hm:m=(l:Int)) (hl:l<=rows.length) (ht:bc E.T t=some ⟨.slice e 1,sz,by',z⟩)
  (hz:∀w,(zeroValue e).run E.P w= .ok zv w) (hzc:zv.cells= #[zv]) (hz1:zv.oneCell'=true) (hd:Nat.blt d N=true)
  {rows2:List (List AV)} (h2r:rows.take l++List.replicate (rows.length-l) [.v zv]=rows2) (kk:ao E N K (.ops all rest::k) Q (Tr.put 24 O d none) (L.set i (.row e 1 rows2))):
  ao E N K (.ops all (⟨some d,.slice t p (some q) none none,ty,pos,after,none⟩::⟨none,.call {callee:= .builtin .clear,args:= #[.tmp d],argTypes:= #[t]},ty2,pos2,after2,none⟩::rest)::k) Q O L:=by
 subst h2r;unfold ao at kk⊢;simp only[dq]at kk⊢;intro Z σB LB hs hh;obtain⟨y,h2,h3⟩:=cu hs hp;simp only[aK]at h3;obtain⟨a,c,t',h3,rfl⟩:=h3;obtain⟨y2,g2,g3⟩:=cu hs hq;simp only[aK]at g3;subst g3;obtain⟨q',h6,h7⟩:=hh.en i _ hi;obtain⟨⟨a',c',h8,rfl⟩,h9⟩:=h7;subst hn;rw[h3]at h8;cases h8;subst hm;have hnl:(rows.take l++List.replicate (rows.length-l) [AV.v zv]).length=rows.length:=by simp;omega
 refine cj.qS rfl hd (ade l rfl ht h2 h6 g2 hl) ?_;rintro x L' ⟨rfl,rfl⟩;refine cj.qS rfl rfl (aca (p:= .tmp d) l rfl ht hz hzc hz1 (by simp[ev,mn,look]) h6 hl) ?_;rintro x L' ⟨rfl,rfl⟩;refine kk _ _ _ ?_ (hh.set (.refl Z) (λ_ _=>rfl) (λ_ _=>rfl) (hh.lt hi) ⟨⟨a,c,by rw[hnl];exact h3,by rw[hnl]⟩,λm hm=>h9 m (by omega)⟩);have:=hs.drop d (.v (sliced a l rows.length c 1));intro u y hy;obtain⟨w,h10,h11⟩:=this u y hy;refine⟨w,?_,h11⟩;simp only[mn,look];by_cases e:u=d
 ·subst e;simp only[if_true]at h10;simp[h10]
 ·simp only[aM e]at h10;have:d.beq u=false:=by
   cases h:d.beq u with
   |false=>rfl
   |true=>exact absurd (bQ h).symm e
  rw[this];exact h10
theorem ao.aij {c:Code} (t:Nat) {i n m:Nat} (ht:O.get t=some (.os i n)) (h:n=m) (hk:ao E N K (.code c::k) Q (Tr.put 24 O t (some (.os i m))) L):ao E N K (.code c::k) Q O L:=by
 unfold ao at hk⊢;simp only[dq]at hk⊢;exactλZ σB LB hs hh=>hk Z σB LB (hs.oB t ht h) hh
theorem DC.Jt {c:Code} (i c':Nat) {cs:List CV} {j n e kk:Nat} {rows:List (List AV)} (hi:L.e.get i=some (.box cs)) (hc:nth cs c'=some (.os j n)) (hj:L.e.get j=some (.row e kk rows)) (hn:n=rows.length)
  (h:DC E N K c Q O ((L.set j .gone).set i (.box (cs.set c' (.d (.sl kk rows)))))):DC E N K c Q O L:=λZ σB LB hs hh=>by
 obtain⟨y,hy,hE⟩:=hh.en i _ hi;obtain⟨b,cs',hb,rfl,hcs⟩:=hE;obtain⟨z,hz,hI⟩:=hcs.nth hc;simp only[aK]at hI;obtain⟨a,c2,t',h3,rfl⟩:=hI;obtain⟨q,hq,hE2⟩:=hh.en j _ hj;obtain⟨⟨a',c3,h8,rfl⟩,h9⟩:=hE2;subst hn;rw[h3]at h8;cases h8;refine cm.lQ (fm.adf i c' hy hz hq) ?_;refine h Z _ _ hs ?_;have h1:=hh.set (x:= .gone) (y:= .gone) (.refl Z) (λ_ _=>rfl) (λ_ _=>rfl) (hh.lt hj) trivial
 exact h1.set (.refl Z) (λ_ _=>rfl) (λ_ _=>rfl) (hh.lt hi) ⟨b,_,hb,rfl,hcs.Fy (by simp only[aK])⟩
theorem ao.Jt {c:Code} (i c':Nat) {cs:List CV} {j n e kk:Nat} {rows:List (List AV)} (hi:L.e.get i=some (.box cs)) (hc:nth cs c'=some (.os j n)) (hj:L.e.get j=some (.row e kk rows)) (hn:n=rows.length)
  (h:ao E N K (.code c::k) Q O ((L.set j .gone).set i (.box (cs.set c' (.d (.sl kk rows)))))):ao E N K (.code c::k) Q O L:=by
 unfold ao at h⊢;simp only[dq]at h⊢;exact DC.Jt i c' hi hc hj hn h
