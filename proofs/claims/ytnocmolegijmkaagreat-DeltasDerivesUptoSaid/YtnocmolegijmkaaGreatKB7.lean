/- The program logic, seventh part: slices of the call's own: literals, make, append; handing them on as unchanging; package-level arrays. -/
import Derived.Test.YtnocmolegijmkaaGreatKB4
import Derived.Lib.AppendStr
set_option linter.all false
noncomputable section
namespace Go.Bw
open Go
def chunk:Nat->Nat->List AV->List (List AV)
 |0,_,_=>[]
 |n+1,k,cs=>cs.take k::chunk n k (cs.drop k)
def eK (k:Nat) (O:Sl):List AV->List (Nat×Operand)->Option (List AV)
 |cells,[]=>some cells
 |cells,(i,o)::rest=>match ev O o with
  |some x=>match Nat.beq (cg x).length k,fc cells (i*k) (cg x)with
   |true,some cells'=>eK k O cells' rest
   |_,_=>none
  |none=>none
def gK:Nat->List AV->List AV
 |0,_=>[]
 |n+1,z=>z++gK n z
section
variable {N:Nat} {Q:AQ} {O:Sg} {L:List au} {ops:Array Oper} {rest:List Oper} {E:Env} {w:World} {A:Nat->Prop} {a:Act}
theorem Lj {k:Nat}:∀{n:Nat} {cs:List AV} {vs:List Value},aJ w A cs vs->cs.length=n*k->bz w A k (chunk n k cs) vs
 |0,cs,vs,h,hl=>by simp at hl;subst hl;simp only[aJ]at h;subst h;simp[chunk,bz]
 |n+1,cs,vs,h,hl=>by
  simp only[chunk,bz];refine⟨vs.take k,vs.drop k,(JU k vs).symm,?_,h.take k,Lj (h.drop k) ?_⟩
  ·rw[gw,hl,kz];omega
  ·rw[Tb,hl,kz];omega
theorem gA:∀(n k:Nat) (cs:List AV),(chunk n k cs).length=n
 |0,_,_=>rfl
 |n+1,k,cs=>by simp[chunk,gA n k]
theorem Lk {k:Nat} {s:Sl} (hs:fN w A N a s):
  ∀{parts:List (Nat×Operand)} {cells r:List AV} {vs:List Value},eK k s cells parts=some r->aJ w A cells vs->
   ∃us,Instr.fill (λi=>some (i*k,k)) vs.toArray (parts.map λp=>(p.1,a.eval p.2))=some us/\aJ w A r us.toList/\r.length=cells.length
 |[],cells,r,vs,h,hr=>by simp only[eK,aE]at h;subst h;exact⟨vs.toArray,rfl,by simpa using hr,rfl⟩
 |(i,o)::rest,cells,r,vs,h,hr=>by
  simp only[eK]at h;split at h
  ·rename_i x h2;split at h
   ·rename_i cells' h3 h4;have hx:=bq hs h2;have hc:=vX hx;have hl:=vS h4;have hk:k=(cg x).length:=(bC h3).symm;have hlv:(a.eval o).cells.size=k:=by have:=hc.length;simp at this;omega
    have hlen:i*k+(a.eval o).cells.size<=vs.length:=by rw[hr.length,hlv,hk];rw[hk]at hl;exact hl.1
    have hfold:=Eg (a.eval o).cells.toList vs (i*k) 0 (by simpa using hlen);simp only[JV]at hfold;obtain⟨us,h5,h6,h7⟩:=Lk hs h (vT h4 hr hc);refine⟨us,?_,h6,by rw[h7,hl.2]⟩;simp only[dY,Instr.fill];rw[bK (by simp[hlv];rw[hlv]at hlen;simpa using hlen)];rw[<-h5];congr 1;apply jL;rw[<-hfold];have hz:=Array.foldl_toList (f:=λ(cs:Array Value) (x:Value×Nat)=>cs.setIfInBounds (i*k+x.2) x.1) (init:=vs.toArray) (xs:=(a.eval o).cells.zipIdx);rw[acm]at hz;rw[hz]
   ·cases h
  ·cases h
theorem Kv:∀(n:Nat) (z:List AV),(gK n z).length=n*z.length
 |0,z=>by simp[gK]
 |n+1,z=>by simp[gK,Kv n z,kz,Ao]
def fi:Nat->List Value->List Value
 |0,_=>[]
 |n+1,z=>z++fi n z
theorem vR:∀(n:Nat) (z:List Value),(fi n z).length=n*z.length
 |0,z=>by simp[fi]
 |n+1,z=>by simp[fi,vR n z,kz,Ao]
theorem L8 (z:List Value):∀n,aJ w A (gK n (z.map .v)) (fi n z)
 |0=>by simp[gK,fi,aJ]
 |n+1=>by simp only[gK,fi];exact(nZ z).append (L8 z n)
theorem Ll (z:List Value):∀(n i:Nat),i<n*z.length->(fi n z)[i]? =z[i%z.length]?
 |0,i,h=>by simp at h
 |n+1,i,h=>by
  simp only[fi];by_cases hi:i<z.length
  ·rw[sC hi,Nat.mod_eq_of_lt hi]
  ·have hz:0<z.length:=by rcases Nat.eq_zero_or_pos z.length with h0|h0;(rw[h0]at h;simp at h);exact h0
   have hle:z.length<=i:=by omega
   have hlt:i-z.length<n*z.length:=by rw[kz,DJ]at h;omega
   rw[DH hle,Ll z n _ hlt,Nat.mod_eq_sub_mod hle]
theorem L6 (z:Array Value) (n:Nat):((Array.range (n*z.size)).map (z[·%z.size]!)).toList=fi n z.toList:=by
 apply DN;intro i;by_cases hi:i<n*z.size
 ·rw[Ll _ _ _ (by simpa using hi)];have hz:0<z.size:=by rcases Nat.eq_zero_or_pos z.size with h0|h0;(rw[h0]at hi;simp at hi);exact h0
  have hm:i%z.size<z.size:=Nat.mod_lt _ hz;simp[hi,hm,getElem!_pos,Aj]
 ·rw[pc (by simp;omega),pc (by rw[vR];simpa using hi)]
theorem bz.append {k:Nat}:∀{r s:List (List AV)} {vs us:List Value},bz w A k r vs->bz w A k s us->bz w A k (r++s) (vs++us)
 |[],_,_,_,h,g=>by simp only[bz]at h;subst h;simpa using g
 |_::_,_,_,_,h,g=>by simp only[bz]at h;obtain⟨v1,v2,rfl,hk,h1,h2⟩:=h;simp only[jJ,bz];exact⟨v1,_,by simp,hk,h1,bz.append h2 g⟩
theorem EB {d:Option Nat} {t:TypeId} {n:Nat} {parts:Array (Nat×Operand)} {ty:TypeId} {pos:String} {after:Array Edge} {gd:Option (Nat×Bool)} {e k sz by' sz' by'':Nat} {z z':List Value} {td':TD} {cells:List AV} {F:Nat->Prop}
  (ht:aY E.T t=some ⟨.slice e k,sz,by',z⟩) (hte:aY E.T e=some ⟨td',sz',by'',z'⟩) (hf:eK k (look O) (gK n (z'.map .v)) parts.toList=some cells) (hb:Nat.ble (n*k) 16777216=true) (hk:Nat.ble 1 k=true) (hs:St E.G N w F a O L):
  ∃us:Array Value,(execOp a.eval ⟨d,.buildSlice t n parts,ty,pos,after,gd⟩).run E.P w= .ok (.value (.slice (some ⟨w.heap.size,0,none⟩) n n)) (w.alloc (.cells us e))/\bz w (Al F L) k (chunk n k cells) us.toList/\us.size=n*k:=by
 obtain⟨hu,hke,hh⟩:=lZ (E.tok _ _ ht) rfl;obtain⟨_,ti,_,hi,_,hsz,_,zv,hz1,hz2⟩:=eI (E.tok _ _ hte);have hb:=dJ hb;have hk:=dJ hk;have hzs:zv.cells.size=z'.length:=by have:=congrArg List.length hz2;simpa using this
 have hzl:=Ba (E.tok _ _ hte);have hsize:ti.size=k:=by rw[hke];simp[gR,hi]
 obtain⟨us,h5,h6,h7⟩:=Lk (a:=a) hs.sg hf (L8 z' n);have hlen:cells.length=n*z'.length:=by rw[h7,Kv];simp
 have hzk:z'.length=k:=by simp only at hzl hsz;omega
 have hck:cells.length=n*k:=by rw[hlen,hzk]
 refine⟨us,?_,Lj h6 hck,by have:=h6.length;simp at this;rw[this,hck]⟩;have hpl:(parts.map λ(x:Nat×Operand)=>(x.1,a.eval x.2)).toList=parts.toList.map λp=>(p.1,a.eval p.2):=by simp
 have hsz':∀w',(sizeOf e).run E.P w'= .ok k w':=λw'=>by rw[mU hh,hke]
 have hz0:∀w',(zeroValue e).run E.P w'= .ok zv w':=λw'=>by simp[zeroValue,typeInfo,hi,hz1]
 have hnb:¬n*k>2^24:=by omega
 have hcells:(Array.range (n*k)).map (zv.cells[·%zv.cells.size]!)=(fi n z').toArray:=by
  apply jL;have:=L6 zv.cells n;rw[hzs,hzk,hz2]at this;simpa[hzs,hzk]using this
 by_cases h0:n*k=0
 ·have hn0:n=0:=by
   rcases Nat.mul_eq_zero.1 h0 with h|h
   ·exact h
   ·omega
  subst hn0;simp only[execOp,Instr.buildSlice,Sem.run_bind,run_underlying hu,Result.andThen_ok,hsz',Sem.run_ite,bK hnb,Sem.run_pure,hpl];simp only[S',if_true,Array.range_zero',Array.map_empty];simp only[fi]at h5;rw[h5];simp[newRow]
 ·simp only[execOp,Instr.buildSlice,Sem.run_bind,run_underlying hu,Result.andThen_ok,hsz',Sem.run_ite,bK hnb,Sem.run_pure,hpl,bK h0,hz0,hcells,h5];simp[newRow]
theorem bS.lit {d:Nat} {t:TypeId} {n:Nat} {parts:Array (Nat×Operand)} {ty:TypeId} {pos:String} {after:Array Edge} {e k sz by' sz' by'':Nat} {z z':List Value} {td':TD} {cells:List AV}
  (ht:aY E.T t=some ⟨.slice e k,sz,by',z⟩) (hte:aY E.T e=some ⟨td',sz',by'',z'⟩) (hf:eK k (look O) (gK n (z'.map .v)) parts.toList=some cells) (hb:Nat.ble (n*k) 16777216=true) (hk:Nat.ble 1 k=true) (hd:Nat.blt d N=true)
  (kk:∀b,bS E.toCx N ops rest Q ((d,.os L.length (some ⟨b,0,none⟩) n n)::O) (L++[.row (.slice (some ⟨b,0,none⟩) n n) e k (chunk n k cells)])):bS E.toCx N ops (⟨some d,.buildSlice t n parts,ty,pos,after,none⟩::rest) Q O L:=
 bS.CT (R:=λx L'=>∃b,x= .os L.length (some ⟨b,0,none⟩) n n/\L'=L++[.row (.slice (some ⟨b,0,none⟩) n n) e k (chunk n k cells)]) rfl hd (λF a w hs=>by
  obtain⟨us,h1,h2,h3⟩:=EB (d:=some d) (ty:=ty) (pos:=pos) (after:=after) (gd:=none) ht hte hf hb hk hs;have hb:=dJ hb;have hk:=dJ hk;refine⟨.slice (some ⟨w.heap.size,0,none⟩) n n,w.alloc (.cells us e),_,_,⟨w.heap.size,rfl,rfl⟩,h1,by simp only[Rel],?_,n9 w _ L _ (by simp[au.ids,Value.ownBlock])⟩;refine hs.hp.push (by simp) (λb hb=>lq w _ b hb) (by simp[au.ids,Value.ownBlock]) (by simp[au.ids,Value.ownBlock]) ?_;have hext:=n9 w (.cells us e) L (.row (.slice (some ⟨w.heap.size,0,none⟩) n n) e k (chunk n k cells)) (by simp[au.ids,Value.ownBlock]);refine⟨us.toList,h2.bo hext.keeps,?_,.inr ⟨w.heap.size,n,us,by rw[gA],o8 _,lX w _,by rw[gA];exact bU _,?_,h3,?_⟩⟩
  ·rw[gA];simpa using h3
  ·have:n<=n*k:=DI n hk;simp only[maxLen];omega
  ·rw[gA,<-h3,<-Aj,jg])
  (λ_ _ ⟨b,h1,h2⟩=>by subst h1;subst h2;exact kk b)
theorem iU.iS {G:Gl} (t:Nat) (e:TypeId) (k:Nat) (ht:look O t=some (.v (.slice none 0 0))):iU G N O L ((t,.os L.length none 0 0)::O) (L++[.row (.slice none 0 0) e k []]):=λF w a hs=>by
 have hkeep:dm w (Al F L) w (Al F (L++[au.row (.slice none 0 0) e k []])):=⟨bU _,λb _ ha=>⟨by simpa[Al,cp,cJ,au.ids,Value.ownBlock,ids]using ha,rfl⟩⟩;refine⟨⟨⟨hs.sg.1,λs x hx=>?_⟩,?_,hs.df⟩,λb hb=>?_⟩
 ·simp only[look]at hx;cases hb:Nat.beq t s with
  |true=>
   rw[hb]at hx;simp only[aE]at hx;subst hx;rw[<-bC hb];have:=hs.sg.2 t _ ht;simp only[Rel]at this⊢;exact this
  |false=>rw[hb]at hx;exact⟨(hs.sg.2 s x hx).1,(hs.sg.2 s x hx).2.bo hkeep⟩
 ·refine hs.hp.push (bU _) (λ_ _=>rfl) (by simp[au.ids,Value.ownBlock]) (by simp[au.ids,Value.ownBlock]) ?_;exact⟨[],by simp[bz],by simp,.inl ⟨rfl,rfl⟩⟩
 ·simpa[cp,cJ,au.ids,Value.ownBlock,ids]using hb
theorem bV.iS {C:Cx} {c:Code} (t:Nat) (e:TypeId) (k:Nat) (ht:look O t=some (.v (.slice none 0 0))) (h:bV C N c Q ((t,.os L.length none 0 0)::O) (L++[.row (.slice none 0 0) e k []])):bV C N c Q O L:=bV.nI (iU.iS t e k ht) h
theorem bS.iS {C:Cx} (t:Nat) (e:TypeId) (k:Nat) (ht:look O t=some (.v (.slice none 0 0))) (h:bS C N ops rest Q ((t,.os L.length none 0 0)::O) (L++[.row (.slice none 0 0) e k []])):bS C N ops rest Q O L:=bS.nI (iU.iS t e k ht) h
def jq (w:World) (A:Nat->Prop) (k:Nat) (y:Value) (rows:List (List AV)):Prop:=
 ∃ad m c vs,y= .slice ad m c/\rows.length=m/\bz w A k rows vs/\(ad=none->m=0)/\∀a0,ad=some a0->∀j u,vs[j]? =some u->w.cell? (a0.add j)=some u
theorem jq.sl {k:Nat} {rows:List (List AV)} {y:Value} (h:Rel w A (.sl k rows) y):jq w A k y rows:=by
 simp only[Rel]at h;rcases h with⟨rfl,a0,cap,rfl⟩|⟨b,o,cap,vs,rfl,_,_,_,h5,h6⟩
 ·exact⟨a0,0,cap,[],rfl,rfl,by simp[bz],λ_=>rfl,λ_ _ j u hj=>by simp at hj⟩
 ·refine⟨some ⟨b,o,none⟩,rows.length,cap,vs,rfl,rfl,h5,?_,?_⟩
  ·intro h;cases h
  ·intro a0 h j u hj;cases h;rw[Addr.add_lit];exact h6 j u hj
theorem jq.row {k:Nat} {e:TypeId} {rows:List (List AV)} {y:Value} (h:au.ok w A (.row y e k rows)):jq w A k y rows:=by
 obtain⟨vs,h1,h2,h3⟩:=h;rcases h3 with⟨rfl,h4⟩|⟨g,cap,cur,rfl,_,hg,hn,_,hs,ht⟩
 ·refine⟨none,0,0,vs,rfl,h4,h1,λ_=>rfl,?_⟩;intro a0 h;cases h
 ·refine⟨some ⟨g,0,none⟩,rows.length,cap,vs,rfl,rfl,h1,?_,?_⟩
  ·intro h;cases h
  intro a0 h j u hj;cases h;rw[Addr.add_lit,oZ];rw[<-ht,lV]at hj;split at hj
  ·simp[World.cell?,hg];simpa using hj
  ·cases hj
def gC:List (List AV)->Bool
 |[]=>true
 |r::rs=>eV r&&gC rs
theorem Kj {k:Nat}:∀{rows:List (List AV)} {vs:List Value},gC rows=true->bz w A k rows vs->∀u∈vs,u.oneCell'=true
 |[],_,_,h,u,hu=>by simp only[bz]at h;subst h;cases hu
 |r::rs,_,ho,h,u,hu=>by
  simp only[bz]at h;obtain⟨v1,v2,rfl,_,h1,h2⟩:=h;simp only[gC,bG]at ho;rcases cL.1 hu with hu|hu
  ·exact AY ho.1 h1 u hu
  ·exact Kj ho.2 h2 u hu
theorem TR {P:Program} {t ty e:TypeId} {i:TypeInfo} {z:Value} {size bytes:Nat} (ht:P.underlying t=some (.slice e)) (hi:P.info? e=some i) (hz:i.zero=some z)
  (hsize:i.size=size) (hby:i.bytes=bytes) (hzs:z.cells.size=size) (hsz:1<=size) {v:Value} {n:Nat} {xs:List Value} (hown:w.ownsRow 0 e size v n xs)
  {ad:Addr} {m c:Nat} {news:List Value} (hl:news.length=m*size) (hnews:∀j u,news[j]? =some u->w.cell? (ad.add j)=some u) (h1:∀u∈news,u.oneCell'=true)
  (h63:n+m<=maxLen) (hbytes:(n+m)*bytes<=140737488355328) (hm0:0<m):
  ∃v' w',(Builtin.append_ #[t,t] ty #[v,.slice (some ad) m c]).run P w= .ok v' w'/\w'.ownsRow 0 e size v' (n+m) (xs++news)/\(w.grownBy w' v.ownBlock/\w.drawn<=w'.drawn)/\∀b,v'.ownBlock=some b->v.ownBlock=some b\/w.heap.size<=b:=by
 obtain⟨v',w',g1,g2,g3,_⟩:=run_append_own (P:=P) w 0 t ty e i z size bytes ht hi hz hsize hby hzs hsz v n xs hown ad m c news hl hnews h1 h63 hbytes (o8 _);refine⟨v',w',g1,g2,⟨g3,?_⟩,λb hb=>?_⟩
 ·subst hsize;subst hby;rcases hown.2 with⟨rfl,rfl⟩|⟨g,cap,cur,rfl,_,hg,hn,hcm,hcs,htake⟩
  ·have hx:xs=[]:=mP (by simpa using hown.1);subst hx;have hr:=run_append_nil (P:=P) w t ty e i z ht hi hz ad m c news hl hnews hm0 (by simp only[maxLen]at h63;omega) (by have:=hbytes;simp only[oZ]at this;omega);rw[g1]at hr;injection hr with e1 e2
   rw[e2];exact DP _
  ·by_cases hroom:n+m<=cap
   ·have hfit:n*i.size+news.length<=cur.size:=by rw[hl,hcs,<-kz];exact J3 _ hroom
    have hr:=run_append_room (P:=P) w t ty e i ht hi g n cap cur hg ad m c news hl hnews h1 hroom hfit;rw[g1]at hr;injection hr with e1 e2
    rw[e2];exact bU _
   ·have hr:=run_append_grow (P:=P) w t ty e i z ht hi hz ⟨g,0,none⟩ n cap xs hown.1 (hown.cells (g:=g) rfl) ad m c news hl hnews (by omega) (by simp only[maxLen]at h63;omega) (growslice_fits (by omega) hbytes);rw[g1]at hr;injection hr with e1 e2
    rw[e2];exact DP _
 subst hsize;subst hby;rcases hown.2 with⟨rfl,rfl⟩|⟨g,cap,cur,rfl,_,hg,hn,hcm,hcs,htake⟩
 ·have hx:xs=[]:=mP (by simpa using hown.1);subst hx;obtain⟨v2,w2,k1,k2,_⟩:=run_append_own (P:=P) w w.heap.size t ty e i z i.size i.bytes ht hi hz rfl rfl hzs hsz (.slice none 0 0) 0 [] (World.ownsRow_nil w _ e _) ad m c news hl hnews h1 h63 hbytes (bU _);rw[g1]at k1;injection k1 with e1 e2
  subst e1;exact .inr (k2.lt b hb).1
 ·by_cases hroom:n+m<=cap
  ·have hfit:n*i.size+news.length<=cur.size:=by rw[hl,hcs,<-kz];exact J3 _ hroom
   have hr:=run_append_room (P:=P) w t ty e i ht hi g n cap cur hg ad m c news hl hnews h1 hroom hfit;rw[g1]at hr;injection hr with e1 e2
   subst e1;exact .inl hb
  ·have hr:=run_append_grow (P:=P) w t ty e i z ht hi hz ⟨g,0,none⟩ n cap xs hown.1 (hown.cells (g:=g) rfl) ad m c news hl hnews (by omega) (by simp only[maxLen]at h63;omega) (growslice_fits (by omega) hbytes);rw[g1]at hr;injection hr with e1 e2
   subst e1;simp only[Value.ownBlock,aE]at hb;exact .inr (by omega)
theorem KI {tg:Nat} {o:Oper} {s x:Operand} {t:TypeId} (ho:o.op= .call {callee:= .builtin .append,args:= #[s,x],argTypes:= #[t,t]}) {i:Nat} {a0:Option Addr} {n0 c0:Nat} {e k sz by' sz' by'':Nat} {z z':List Value} {td':TD} {rows rows2:List (List AV)}
  (ht:aY E.T t=some ⟨.slice e k,sz,by',z⟩) (hte:aY E.T e=some ⟨td',sz',by'',z'⟩) (hs':ev (look O) s=some (.os tg a0 n0 c0)) (hi:nth L i=some (.row (.slice a0 n0 c0) e k rows))
  (hsrc:∀F a w,St E.G N w F a O L->jq w (Al F L) k (a.eval x) rows2) (h1:gC rows2=true) (hk:Nat.ble 1 k=true) (hby:Nat.ble 1 by''=true) (hb:(rows++rows2).length*by''<=140737488355328):
  zd E.toCx N o O L (λr L'=>∃a c,(rows2=[]->a=a0/\c=c0)/\r= .os i a (rows++rows2).length c/\L'=L.set i (.row (.slice a (rows++rows2).length c) e k (rows++rows2))):=λF a w hs=>by
 obtain⟨v,hvd⟩:∃v,v=Value.slice a0 n0 c0:=⟨_,rfl⟩;rw[<-hvd]at hi;have hv:=bq hs.sg hs';simp only[Rel]at hv;rw[<-hvd]at hv;obtain⟨hu,hke,hh⟩:=lZ (E.tok _ _ ht) rfl;obtain⟨_,ti,_,hti,_,hsz,hbb,zv,hz1,hz2⟩:=eI (E.tok _ _ hte);have hzl:=Ba (E.tok _ _ hte);simp only at hsz hbb hz2 hzl;have hsize:ti.size=k:=by rw[hke];simp[gR,hti]
 have hzs:zv.cells.size=k:=by have:=congrArg List.length hz2;simp at this;omega
 have hk:=dJ hk;have hby:=dJ hby;obtain⟨l,r,rfl,hset⟩:=v8 hi;simp only[hset];obtain⟨vs,h3,h4⟩:=hs.hp.eN (.row v e k rows) (by simp);obtain⟨ad,m,c,vs2,h5,h6,h7,h8,h9⟩:=hsrc F a w hs;have hlen:(rows++rows2).length=rows.length+m:=by simp[h6]
 have h63:rows.length+m<=maxLen:=by
  have:(rows.length+m)<=(rows++rows2).length*by'':=by rw[hlen];exact DI _ hby
  simp only[maxLen];omega
 have hbytes:(rows.length+m)*by''<=140737488355328:=by rw[<-hlen];exact hb
 --the run
 have hrun:∃v' w',(Builtin.append_ #[t,t] o.type #[v,a.eval x]).run E.P w= .ok v' w'/\w'.ownsRow 0 e k v' (rows.length+m) (vs++vs2)/\(w.grownBy w' v.ownBlock/\w.drawn<=w'.drawn)/\(∀b,v'.ownBlock=some b->v.ownBlock=some b\/w.heap.size<=b)/\(m=0->v'=v):=by
  rw[h5];by_cases hm:m=0
  ·subst hm;have hvs2:vs2=[]:=mP (by rw[h7.length,h6];simp);subst hvs2;refine⟨v,w,?_,by simpa using h4,⟨⟨rfl,rfl,rfl,bU _,λ_ _ _=>rfl⟩,bU _⟩,λb hb=> .inl hb,λ_=>rfl⟩;have hl0:∀ad,(loadCells ad 0).run E.P w= .ok #[] w:=λad=>by have:=run_loadCells_list (P:=E.P) w ad [] (by simp);simpa using this
   rcases h4.2 with⟨hvn,h0⟩|⟨g,cap,cur,hvg,_,hg,hn,_⟩
   ·subst hvn;cases ad<;>simp[Builtin.append_,run_underlying hu,sizeOf,typeInfo,hti,Builtin.lenOf,Builtin.firstCells,hl0]
   ·subst hvg;cases ad<;>simp[Builtin.append_,run_underlying hu,sizeOf,typeInfo,hti,Builtin.lenOf,Builtin.firstCells,hn,storeCells,hl0]
  ·cases ad with
   |some a0=>
    obtain⟨v',w',q1,q2,q3,q4⟩:=TR (P:=E.P) (ty:=o.type) (c:=c) hu hti hz1 hsize hbb hzs hk h4 (by rw[h7.length,h6]) (λj u hj=>h9 a0 rfl j u hj) (Kj h1 h7) h63 hbytes (by omega);exact⟨v',w',q1,q2,q3,q4,λh=>absurd h hm⟩
   |none=>exact absurd (h8 rfl) hm
 obtain⟨v',w',g1,g2,g3,g4,g5⟩:=hrun;obtain⟨aa,cc,hv'⟩:∃aa cc,v'= .slice aa (rows.length+m) cc:=by
  rcases g2.2 with⟨rfl,h0⟩|⟨g,cap,cur,rfl,_⟩
  ·exact⟨none,0,by rw[h0]⟩
  ·exact⟨_,_,rfl⟩
 have hids:∀b∈au.ids (.row v' e k (rows++rows2)),b∈au.ids (.row v e k rows)\/w.heap.size<=b:=λb hb=>by
  simp only[au.ids,Option.mem_toList]at hb⊢;exact g4 b hb
 have hext:Ext (l++au.row v e k rows::r) w (l++au.row v' e k (rows++rows2)::r) w':=by
  refine⟨g3.1.os,g3.1.tape,g3.1.output,g3.1.size,λb hb hn=>g3.1.block b hb (λhh=>hn ?_),λb hb=>?_,.of g3.2⟩
  ·simp[cp,cJ,au.ids,<-hh]
  ·simp only[cp,cJ,cL]at hb⊢;rcases hb with hb|hb|hb
   ·exact .inl (.inl hb)
   ·exact(hids b hb).elim (λh=> .inl (.inr (.inl h))) .inr
   ·exact .inl (.inr (.inr hb))
 refine⟨v',w',_,_,⟨aa,cc,λh0=>?_,rfl,rfl⟩,?_,by simp only[Rel];rw[hv',hlen],?_,by rw[hlen,<-hv'];exact hext⟩
 ·have hm:m=0:=by rw[<-h6,h0];rfl
  have h10:=g5 hm;rw[hv',hvd]at h10;simp only[Value.slice.injEq]at h10;exact⟨h10.1,h10.2.2⟩
 ·simp only[execOp,ho,resolve,invoke,builtin,Sem.run_bind,Sem.run_pure,Result.andThen_ok,List.map_toArray,dY,vM,hv,g1]
 ·rw[hlen,<-hv'];refine hs.hp.ve g3.1.size (λb hb hn=>g3.1.block b hb (λhh=>hn (by simp[au.ids,<-hh]))) hids (by cases hob:v'.ownBlock<;>simp[au.ids,hob]) ?_;exact⟨vs++vs2,(h3.bo hext.keeps).append (h7.bo hext.keeps),by rw[hlen];exact g2⟩
def dk (s:ByteArray):List (List AV):=s.data.toList.map λb=>[AV.v (.int .u8 b.toNat)]
theorem Ui {w:World} {A:Nat->Prop} (s:ByteArray):bz w A 1 (dk s) (Lib.strCells s):=by
 unfold dk Lib.strCells
 induction s.data.toList with
 |nil=>simp[bz]
 |cons b l ih=>simp only[dY,bz];exact⟨[.int .u8 b.toNat],_,rfl,rfl,by simp[aJ,Rel],ih⟩
theorem KQ (s:ByteArray):(dk s).length=s.size:=by unfold dk;rw[jI];cases s;rfl
theorem Tj {P:Program} {w:World} {t u ty e:TypeId} {i:TypeInfo} {z:Value} (ht:P.underlying t=some (.slice e)) (hu:P.underlying u=some .string) (hi:P.info? e=some i) (hz:i.zero=some z)
  (hsize:i.size=1) (hby:i.bytes=1) (hz1:z.cells.size=1) {v:Value} {n:Nat} {xs:List Value} (hown:w.ownsRow 0 e 1 v n xs) (s:ByteArray) (hbytes:n+s.size<=140737488355328):
  ∃v' w',(Builtin.append_ #[t,u] ty #[v,.string s]).run P w= .ok v' w'/\w'.ownsRow 0 e 1 v' (n+s.size) (xs++Lib.strCells s)/\(w.grownBy w' v.ownBlock/\w.drawn<=w'.drawn)/\(∀b,v'.ownBlock=some b->v.ownBlock=some b\/w.heap.size<=b)/\(s.size=0->v'=v):=by
 have hxl:xs.length=n:=by simpa using hown.1
 have hlen:(xs++Lib.strCells s).length=(n+s.size)*1:=by rw[kA,hxl,Lib.strCells_length,Nat.mul_one]
 have grown:∀(old:Nat),old<n+s.size->∀(row:Option Nat),
   (w.drew.alloc (.cells (xs.toArray++(Lib.strCells s).toArray++Builtin.zeroCells z.cells (grownCap w (n+s.size) old e-(n+s.size))) e)).ownsRow 0 e 1
    (.slice (some ⟨w.heap.size,0,none⟩) (n+s.size) (grownCap w (n+s.size) old e)) (n+s.size) (xs++Lib.strCells s)/\
   w.grownBy (w.drew.alloc (.cells (xs.toArray++(Lib.strCells s).toArray++Builtin.zeroCells z.cells (grownCap w (n+s.size) old e-(n+s.size))) e)) row:=by
  intro old ho row;have hge:=grownCap_ge w (n+s.size) old e;have hcm:grownCap w (n+s.size) old e<=maxLen:=grownCap_le_maxLen w (n+s.size) old e (by simp only[maxLen];omega);refine⟨⟨hlen,.inr ⟨w.heap.size,_,_,rfl,o8 _,heap_alloc_new w.drew _,hge,hcm,?_,?_⟩⟩,⟨rfl,rfl,rfl,by simp,λk hk _=>heap_alloc_old w.drew _ hk⟩⟩
  ·simp only[Array.size_append,Ta,size_zeroCells,hz1,hxl,Lib.strCells_length];omega
  ·simp only[Array.toList_append,kB];rw[<-kB,<-hlen];exact S9
 rcases hown.2 with⟨rfl,rfl⟩|⟨g,cap,cur,rfl,hbg,hg,hnc,hcm,hcs,htake⟩
 ·have hx:xs=[]:=mP hxl;subst hx;by_cases hm:s.size=0
  ·have hn:Lib.strCells s=[]:=mP (by rw[Lib.strCells_length];exact hm);refine⟨.slice none 0 0,w,?_,by rw[hm,hn];exact World.ownsRow_nil w 0 e 1,⟨⟨rfl,rfl,rfl,bU _,λ_ _ _=>rfl⟩,bU _⟩,λb hb=> .inl hb,λ_=>rfl⟩;have hf:=Lib.run_firstCells_string (P:=P) w 1 s;rw[hm]at hf;simp[Builtin.append_,run_underlying ht,run_underlying hu,sizeOf,typeInfo,hi,hsize,Builtin.lenOf,hm,hf]
  ·have hr:=run_append_nil_string (P:=P) w t u ty e i z ht hu hi hz s (by omega) (by omega) (by rw[hby];omega);have hgr:=grown 0 (by omega) (Value.ownBlock (.slice none 0 0));simp only[oZ,Am,Array.empty_append]at hgr⊢;have e1:(s.data.map λb=>Value.int .u8 b.toNat)=(Lib.strCells s).toArray:=by
    apply jL;simp[Lib.strCells]
   rw[e1]at hr;exact⟨_,_,hr,hgr.1,⟨hgr.2,DP _⟩,λb hb=> .inr (by simp only[Value.ownBlock,aE]at hb;omega),λh=>absurd h hm⟩
 ·by_cases hroom:n+s.size<=cap
  ·have hcs':cur.size=cap:=by simpa using hcs
   have hr:=Lib.run_append_room_string (P:=P) w t u ty e i ht hu hi hsize g n cap cur hg s hroom (by omega);refine⟨_,_,hr,⟨hlen,.inr ⟨g,cap,_,rfl,hbg,setRow_heap w g cur _ e _ hg,hroom,hcm,?_,?_⟩⟩,⟨⟨rfl,rfl,rfl,by simp,λk _ hk=>setRow_other w g k _ (λe=>hk (by simp[Value.ownBlock,e]))⟩,bU _⟩,λb hb=> .inl hb,λh=>by rw[h];rfl⟩
   ·simp only[Ta,kA,gw,Tb,Aj,Lib.strCells_length];omega
   ·have ht':cur.toList.take n=xs:=by simpa using htake
    rw[ht',<-hlen];exact S9
  ·have holds:∀j u,xs[j]? =some u->w.cell? ((⟨g,0,none⟩:Addr).add j)=some u:=hown.cells (g:=g) rfl;have hr:=Lib.run_append_grow_string (P:=P) w t u ty e i z ht hu hi hz ⟨g,0,none⟩ n cap xs (by rw[hsize];simpa using hxl) holds s (by omega) (by omega) (by rw[hby];exact growslice_fits (by omega) (by omega));have hgr:=grown cap (by omega) (Value.ownBlock (.slice (some ⟨g,0,none⟩) n cap));exact⟨_,_,hr,hgr.1,⟨hgr.2,DP _⟩,λb hb=> .inr (by simp only[Value.ownBlock,aE]at hb;omega),λh=>by omega⟩
theorem Kq {tg:Nat} {o:Oper} {s x:Operand} {t u:TypeId} (ho:o.op= .call {callee:= .builtin .append,args:= #[s,x],argTypes:= #[t,u]}) {i:Nat} {a0:Option Addr} {n0 c0:Nat} {e k sz by' sz' by'' szu byu:Nat} {z z' zu:List Value} {td':TD} {rows:List (List AV)} {b:ByteArray}
  (ht:aY E.T t=some ⟨.slice e k,sz,by',z⟩) (hu:aY E.T u=some ⟨.str,szu,byu,zu⟩) (hte:aY E.T e=some ⟨td',sz',by'',z'⟩) (hs':ev (look O) s=some (.os tg a0 n0 c0)) (hi:nth L i=some (.row (.slice a0 n0 c0) e k rows))
  (hx:ev (look O) x=some (.v (.string b))) (hk:Nat.beq k 1=true) (hby:Nat.beq by'' 1=true) (hb:(rows++dk b).length*by''<=140737488355328):
  zd E.toCx N o O L (λr L'=>∃a c,(dk b=[]->a=a0/\c=c0)/\r= .os i a (rows++dk b).length c/\L'=L.set i (.row (.slice a (rows++dk b).length c) e k (rows++dk b))):=λF a w hs=>by
 obtain⟨v,hvd⟩:∃v,v=Value.slice a0 n0 c0:=⟨_,rfl⟩;rw[<-hvd]at hi;have hv:=bq hs.sg hs';simp only[Rel]at hv;rw[<-hvd]at hv;have hxv:=bq hs.sg hx;simp only[Rel]at hxv;obtain⟨hut,hke,hh⟩:=lZ (E.tok _ _ ht) rfl;obtain⟨uu,_,huu,_,hud,_⟩:=eI (E.tok _ _ hu);have huu':E.P.underlying u=some .string:=by
  rw[huu];cases uu<;>simp[gb]at hud⊢
 obtain⟨_,ti,_,hti,_,hsz,hbb,zv,hz1,hz2⟩:=eI (E.tok _ _ hte);have hzl:=Ba (E.tok _ _ hte);simp only at hsz hbb hz2 hzl;have hk:=bC hk;have hby:=bC hby;have hsize:ti.size=k:=by rw[hke];simp[gR,hti]
 have hzs:zv.cells.size=k:=by have:=congrArg List.length hz2;simp at this;omega
 subst hk;subst hby;obtain⟨l,r,rfl,hset⟩:=v8 hi;simp only[hset];obtain⟨vs,h3,h4⟩:=hs.hp.eN (.row v e 1 rows) (by simp);have hlen:(rows++dk b).length=rows.length+b.size:=by simp[KQ]
 obtain⟨v',w',g1,g2,g3,g4,g5⟩:=Tj (P:=E.P) (ty:=o.type) hut huu' hti hz1 hsize hbb hzs h4 b (by rw[<-hlen];omega);obtain⟨aa,cc,hv'⟩:∃aa cc,v'= .slice aa (rows.length+b.size) cc:=by
  rcases g2.2 with⟨rfl,h0⟩|⟨g,cap,cur,rfl,_⟩
  ·exact⟨none,0,by rw[h0]⟩
  ·exact⟨_,_,rfl⟩
 have hids:∀c∈au.ids (.row v' e 1 (rows++dk b)),c∈au.ids (.row v e 1 rows)\/w.heap.size<=c:=λc hc=>by
  simp only[au.ids,Option.mem_toList]at hc⊢;exact g4 c hc
 have hext:Ext (l++au.row v e 1 rows::r) w (l++au.row v' e 1 (rows++dk b)::r) w':=by
  refine⟨g3.1.os,g3.1.tape,g3.1.output,g3.1.size,λc hc hn=>g3.1.block c hc (λhh=>hn ?_),λc hc=>?_,.of g3.2⟩
  ·simp[cp,cJ,au.ids,<-hh]
  ·simp only[cp,cJ,cL]at hc⊢;rcases hc with hc|hc|hc
   ·exact .inl (.inl hc)
   ·exact(hids c hc).elim (λh=> .inl (.inr (.inl h))) .inr
   ·exact .inl (.inr (.inr hc))
 refine⟨v',w',_,_,⟨aa,cc,λh0=>?_,rfl,rfl⟩,?_,by simp only[Rel];rw[hv',hlen],?_,by rw[hlen,<-hv'];exact hext⟩
 ·have hm:b.size=0:=by rw[<-KQ,h0];rfl
  have h10:=g5 hm;rw[hv',hvd]at h10;simp only[Value.slice.injEq]at h10;exact⟨h10.1,h10.2.2⟩
 ·simp only[execOp,ho,resolve,invoke,builtin,Sem.run_bind,Sem.run_pure,Result.andThen_ok,List.map_toArray,dY,vM,hv,hxv,g1]
 ·rw[hlen,<-hv'];refine hs.hp.ve g3.1.size (λc hc hn=>g3.1.block c hc (λhh=>hn (by simp[au.ids,<-hh]))) hids (by cases hob:v'.ownBlock<;>simp[au.ids,hob]) ?_;exact⟨vs++Lib.strCells b,(h3.bo hext.keeps).append (Ui b),by rw[hlen];exact g2⟩
