/- The program logic, seventh part: slices of the call's own: literals, make, append; handing them on as unchanging; package-level arrays. -/
import Derived.Test.YtnocmolegijmkaaGreatKB4
import Derived.Lib.AppendStr
set_option linter.all false
noncomputable section
namespace Go.Bw
open Go
def chunk:Nat->Nat->List AV->List (List AV)
 |0,_,_=>[]
 |n+1,k,cs=>cs.take k::chunk n k (cs.drop k)
def fD (k:Nat) (O:Sl):List AV->List (Nat×Operand)->Option (List AV)
 |cells,[]=>some cells
 |cells,(i,o)::rest=>match ev O o with
  |some x=>match Nat.beq (cH x).length k,fN cells (i*k) (cH x)with
   |true,some cells'=>fD k O cells' rest
   |_,_=>none
  |none=>none
def iU:Nat->List AV->List AV
 |0,_=>[]
 |n+1,z=>z++iU n z
section
variable {N:Nat} {Q:AQ} {O:Sg} {L:List aq} {ops:Array Oper} {rest:List Oper} {E:Env} {w:World} {A:Nat->Prop} {a:Act}
theorem Qw {k:Nat}:∀{n:Nat} {cs:List AV} {vs:List Value},aL w A cs vs->cs.length=n*k->bq w A k (chunk n k cs) vs
 |0,cs,vs,h,hl=>by simp at hl;subst hl;simp only[aL]at h;subst h;simp[chunk,bq]
 |n+1,cs,vs,h,hl=>by
  simp only[chunk,bq];refine⟨vs.take k,vs.drop k,(Dx k vs).symm,?_,h.take k,Qw (h.drop k) ?_⟩
  ·rw[iK,hl,jc];omega
  ·rw[aac,hl,jc];omega
theorem iO:∀(n k:Nat) (cs:List AV),(chunk n k cs).length=n
 |0,_,_=>rfl
 |n+1,k,cs=>by simp[chunk,iO n k]
theorem Qx {k:Nat} {s:Sl} (hs:gM w A N a s):
  ∀{parts:List (Nat×Operand)} {cells r:List AV} {vs:List Value},fD k s cells parts=some r->aL w A cells vs->
   ∃us,Instr.fill (λi=>some (i*k,k)) vs.toArray (parts.map λp=>(p.1,a.eval p.2))=some us/\aL w A r us.toList/\r.length=cells.length
 |[],cells,r,vs,h,hr=>by simp only[fD,aE]at h;subst h;exact⟨vs.toArray,rfl,by simpa using hr,rfl⟩
 |(i,o)::rest,cells,r,vs,h,hr=>by
  simp only[fD]at h;split at h
  ·rename_i x h2;split at h
   ·rename_i cells' h3 h4;have hx:=bH hs h2;have hc:=yy hx;have hl:=xZ h4;have hk:k=(cH x).length:=(bQ h3).symm;have hlv:(a.eval o).cells.size=k:=by have:=hc.length;simp at this;omega
    have hlen:i*k+(a.eval o).cells.size<=vs.length:=by rw[hr.length,hlv,hk];rw[hk]at hl;exact hl.1
    have hfold:=Im (a.eval o).cells.toList vs (i*k) 0 (by simpa using hlen);simp only[OF]at hfold;obtain⟨us,h5,h6,h7⟩:=Qx hs h (ya h4 hr hc);refine⟨us,?_,h6,by rw[h7,hl.2]⟩;simp only[dp,Instr.fill];rw[aM (by simp[hlv];rw[hlv]at hlen;simpa using hlen)];rw[<-h5];congr 1;apply kM;rw[<-hfold];have hz:=Array.foldl_toList (f:=λ(cs:Array Value) (x:Value×Nat)=>cs.setIfInBounds (i*k+x.2) x.1) (init:=vs.toArray) (xs:=(a.eval o).cells.zipIdx);rw[anT]at hz;rw[hz]
   ·cases h
  ·cases h
theorem Ph:∀(n:Nat) (z:List AV),(iU n z).length=n*z.length
 |0,z=>by simp[iU]
 |n+1,z=>by simp[iU,Ph n z,jc,xP]
def fZ:Nat->List Value->List Value
 |0,_=>[]
 |n+1,z=>z++fZ n z
theorem xU:∀(n:Nat) (z:List Value),(fZ n z).length=n*z.length
 |0,z=>by simp[fZ]
 |n+1,z=>by simp[fZ,xU n z,jc,xP]
theorem Rl (z:List Value):∀n,aL w A (iU n (z.map .v)) (fZ n z)
 |0=>by simp[iU,fZ,aL]
 |n+1=>by simp only[iU,fZ];exact(oI z).append (Rl z n)
theorem Qy (z:List Value):∀(n i:Nat),i<n*z.length->(fZ n z)[i]? =z[i%z.length]?
 |0,i,h=>by simp at h
 |n+1,i,h=>by
  simp only[fZ];by_cases hi:i<z.length
  ·rw[mF hi,Nat.mod_eq_of_lt hi]
  ·have hz:0<z.length:=by rcases Nat.eq_zero_or_pos z.length with h0|h0;(rw[h0]at h;simp at h);exact h0
   have hle:z.length<=i:=by omega
   have hlt:i-z.length<n*z.length:=by rw[jc,HG]at h;omega
   rw[xK hle,Qy z n _ hlt,Nat.mod_eq_sub_mod hle]
theorem Rj (z:Array Value) (n:Nat):((Array.range (n*z.size)).map (z[·%z.size]!)).toList=fZ n z.toList:=by
 apply nC;intro i;by_cases hi:i<n*z.size
 ·rw[Qy _ _ _ (by simpa using hi)];have hz:0<z.size:=by rcases Nat.eq_zero_or_pos z.size with h0|h0;(rw[h0]at hi;simp at hi);exact h0
  have hm:i%z.size<z.size:=Nat.mod_lt _ hz;simp[hi,hm,getElem!_pos,xL]
 ·rw[kK (by simp;omega),kK (by rw[xU];simpa using hi)]
theorem bq.append {k:Nat}:∀{r s:List (List AV)} {vs us:List Value},bq w A k r vs->bq w A k s us->bq w A k (r++s) (vs++us)
 |[],_,_,_,h,g=>by simp only[bq]at h;subst h;simpa using g
 |_::_,_,_,_,h,g=>by simp only[bq]at h;obtain⟨v1,v2,rfl,hk,h1,h2⟩:=h;simp only[ko,bq];exact⟨v1,_,by simp,hk,h1,bq.append h2 g⟩
theorem IV {d:Option Nat} {t:TypeId} {n:Nat} {parts:Array (Nat×Operand)} {ty:TypeId} {pos:String} {after:Array Edge} {gd:Option (Nat×Bool)} {e k sz by' sz' by'':Nat} {z z':List Value} {td':TD} {cells:List AV} {F:Nat->Prop}
  (ht:bc E.T t=some ⟨.slice e k,sz,by',z⟩) (hte:bc E.T e=some ⟨td',sz',by'',z'⟩) (hf:fD k (look O) (iU n (z'.map .v)) parts.toList=some cells) (hb:Nat.ble (n*k) 16777216=true) (hk:Nat.ble 1 k=true) (hs:St E.G N w F a O L):
  ∃us:Array Value,(execOp a.eval ⟨d,.buildSlice t n parts,ty,pos,after,gd⟩).run E.P w= .ok (.value (.slice (some ⟨w.heap.size,0,none⟩) n n)) (w.alloc (.cells us e))/\bq w (Al F L) k (chunk n k cells) us.toList/\us.size=n*k:=by
 obtain⟨hu,hke,hh⟩:=kO (E.tok _ _ ht) rfl;obtain⟨_,ti,_,hi,_,hsz,_,zv,hz1,hz2⟩:=fx (E.tok _ _ hte);have hb:=eH hb;have hk:=eH hk;have hzs:zv.cells.size=z'.length:=by have:=congrArg List.length hz2;simpa using this
 have hzl:=EA (E.tok _ _ hte);have hsize:ti.size=k:=by rw[hke];simp[jg,hi]
 obtain⟨us,h5,h6,h7⟩:=Qx (a:=a) hs.sg hf (Rl z' n);have hlen:cells.length=n*z'.length:=by rw[h7,Ph];simp
 have hzk:z'.length=k:=by simp only at hzl hsz;omega
 have hck:cells.length=n*k:=by rw[hlen,hzk]
 refine⟨us,?_,Qw h6 hck,by have:=h6.length;simp at this;rw[this,hck]⟩;have hpl:(parts.map λ(x:Nat×Operand)=>(x.1,a.eval x.2)).toList=parts.toList.map λp=>(p.1,a.eval p.2):=by simp
 have hsz':∀w',(sizeOf e).run E.P w'= .ok k w':=λw'=>by rw[l7 hh,hke]
 have hz0:∀w',(zeroValue e).run E.P w'= .ok zv w':=λw'=>by simp[zeroValue,typeInfo,hi,hz1]
 have hnb:¬n*k>2^24:=by omega
 have hcells:(Array.range (n*k)).map (zv.cells[·%zv.cells.size]!)=(fZ n z').toArray:=by
  apply kM;have:=Rj zv.cells n;rw[hzs,hzk,hz2]at this;simpa[hzs,hzk]using this
 by_cases h0:n*k=0
 ·have hn0:n=0:=by
   rcases Nat.mul_eq_zero.1 h0 with h|h
   ·exact h
   ·omega
  subst hn0;simp only[execOp,Instr.buildSlice,Sem.run_bind,run_underlying hu,Result.andThen_ok,hsz',Sem.run_ite,aM hnb,Sem.run_pure,hpl];simp only[aaq,if_true,Array.range_zero',Array.map_empty];simp only[fZ]at h5;rw[h5];simp[newRow]
 ·simp only[execOp,Instr.buildSlice,Sem.run_bind,run_underlying hu,Result.andThen_ok,hsz',Sem.run_ite,aM hnb,Sem.run_pure,hpl,aM h0,hz0,hcells,h5];simp[newRow]
theorem cj.lit {d:Nat} {t:TypeId} {n:Nat} {parts:Array (Nat×Operand)} {ty:TypeId} {pos:String} {after:Array Edge} {e k sz by' sz' by'':Nat} {z z':List Value} {td':TD} {cells:List AV}
  (ht:bc E.T t=some ⟨.slice e k,sz,by',z⟩) (hte:bc E.T e=some ⟨td',sz',by'',z'⟩) (hf:fD k (look O) (iU n (z'.map .v)) parts.toList=some cells) (hb:Nat.ble (n*k) 16777216=true) (hk:Nat.ble 1 k=true) (hd:Nat.blt d N=true)
  (kk:∀b,cj E.toCx N ops rest Q ((d,.os L.length (some ⟨b,0,none⟩) n n)::O) (L++[.row (.slice (some ⟨b,0,none⟩) n n) e k (chunk n k cells)])):cj E.toCx N ops (⟨some d,.buildSlice t n parts,ty,pos,after,none⟩::rest) Q O L:=
 cj.qS (R:=λx L'=>∃b,x= .os L.length (some ⟨b,0,none⟩) n n/\L'=L++[.row (.slice (some ⟨b,0,none⟩) n n) e k (chunk n k cells)]) rfl hd (λF a w hs=>by
  obtain⟨us,h1,h2,h3⟩:=IV (d:=some d) (ty:=ty) (pos:=pos) (after:=after) (gd:=none) ht hte hf hb hk hs;have hb:=eH hb;have hk:=eH hk;refine⟨.slice (some ⟨w.heap.size,0,none⟩) n n,w.alloc (.cells us e),_,_,⟨w.heap.size,rfl,rfl⟩,h1,by simp only[Rel],?_,nK w _ L _ (by simp[aq.ids,Value.ownBlock])⟩;refine hs.hp.push (by simp) (λb hb=>lA w _ b hb) (by simp[aq.ids,Value.ownBlock]) (by simp[aq.ids,Value.ownBlock]) ?_;have hext:=nK w (.cells us e) L (.row (.slice (some ⟨w.heap.size,0,none⟩) n n) e k (chunk n k cells)) (by simp[aq.ids,Value.ownBlock]);refine⟨us.toList,h2.keep hext.keeps,?_,.inr ⟨w.heap.size,n,us,by rw[iO],mG _,l6 w _,by rw[iO];exact bX _,?_,h3,?_⟩⟩
  ·rw[iO];simpa using h3
  ·have:n<=n*k:=HE n hk;simp only[maxLen];omega
  ·rw[iO,<-h3,<-xL,eV])
  (λ_ _ ⟨b,h1,h2⟩=>by subst h1;subst h2;exact kk b)
theorem fm.jW {G:Gl} (t:Nat) (e:TypeId) (k:Nat) (ht:look O t=some (.v (.slice none 0 0))):fm G N O L ((t,.os L.length none 0 0)::O) (L++[.row (.slice none 0 0) e k []]):=λF w a hs=>by
 have hkeep:dF w (Al F L) w (Al F (L++[aq.row (.slice none 0 0) e k []])):=⟨bX _,λb _ ha=>⟨by simpa[Al,cB,cJ,aq.ids,Value.ownBlock,ids]using ha,rfl⟩⟩;refine⟨⟨⟨hs.sg.1,λs x hx=>?_⟩,?_,hs.df⟩,λb hb=>?_⟩
 ·simp only[look]at hx;cases hb:Nat.beq t s with
  |true=>
   rw[hb]at hx;simp only[aE]at hx;subst hx;rw[<-bQ hb];have:=hs.sg.2 t _ ht;simp only[Rel]at this⊢;exact this
  |false=>rw[hb]at hx;exact⟨(hs.sg.2 s x hx).1,(hs.sg.2 s x hx).2.keep hkeep⟩
 ·refine hs.hp.push (bX _) (λ_ _=>rfl) (by simp[aq.ids,Value.ownBlock]) (by simp[aq.ids,Value.ownBlock]) ?_;exact⟨[],by simp[bq],by simp,.inl ⟨rfl,rfl⟩⟩
 ·simpa[cB,cJ,aq.ids,Value.ownBlock,ids]using hb
theorem cm.jW {C:Cx} {c:Code} (t:Nat) (e:TypeId) (k:Nat) (ht:look O t=some (.v (.slice none 0 0))) (h:cm C N c Q ((t,.os L.length none 0 0)::O) (L++[.row (.slice none 0 0) e k []])):cm C N c Q O L:=cm.lQ (fm.jW t e k ht) h
theorem cj.jW {C:Cx} (t:Nat) (e:TypeId) (k:Nat) (ht:look O t=some (.v (.slice none 0 0))) (h:cj C N ops rest Q ((t,.os L.length none 0 0)::O) (L++[.row (.slice none 0 0) e k []])):cj C N ops rest Q O L:=cj.lQ (fm.jW t e k ht) h
def jX (w:World) (A:Nat->Prop) (k:Nat) (y:Value) (rows:List (List AV)):Prop:=
 ∃ad m c vs,y= .slice ad m c/\rows.length=m/\bq w A k rows vs/\(ad=none->m=0)/\∀a0,ad=some a0->∀j u,vs[j]? =some u->w.cell? (a0.add j)=some u
theorem jX.sl {k:Nat} {rows:List (List AV)} {y:Value} (h:Rel w A (.sl k rows) y):jX w A k y rows:=by
 simp only[Rel]at h;rcases h with⟨rfl,a0,cap,rfl⟩|⟨b,o,cap,vs,rfl,_,_,_,h5,h6⟩
 ·exact⟨a0,0,cap,[],rfl,rfl,by simp[bq],λ_=>rfl,λ_ _ j u hj=>by simp at hj⟩
 ·refine⟨some ⟨b,o,none⟩,rows.length,cap,vs,rfl,rfl,h5,?_,?_⟩
  ·intro h;cases h
  ·intro a0 h j u hj;cases h;rw[Addr.add_lit];exact h6 j u hj
theorem jX.row {k:Nat} {e:TypeId} {rows:List (List AV)} {y:Value} (h:aq.ok w A (.row y e k rows)):jX w A k y rows:=by
 obtain⟨vs,h1,h2,h3⟩:=h;rcases h3 with⟨rfl,h4⟩|⟨g,cap,cur,rfl,_,hg,hn,_,hs,ht⟩
 ·refine⟨none,0,0,vs,rfl,h4,h1,λ_=>rfl,?_⟩;intro a0 h;cases h
 ·refine⟨some ⟨g,0,none⟩,rows.length,cap,vs,rfl,rfl,h1,?_,?_⟩
  ·intro h;cases h
  intro a0 h j u hj;cases h;rw[Addr.add_lit,kJ];rw[<-ht,fT]at hj;split at hj
  ·simp[World.cell?,hg];simpa using hj
  ·cases hj
def fU:List (List AV)->Bool
 |[]=>true
 |r::rs=>fc r&&fU rs
theorem HQ {k:Nat}:∀{rows:List (List AV)} {vs:List Value},fU rows=true->bq w A k rows vs->∀u∈vs,u.oneCell'=true
 |[],_,_,h,u,hu=>by simp only[bq]at h;subst h;cases hu
 |r::rs,_,ho,h,u,hu=>by
  simp only[bq]at h;obtain⟨v1,v2,rfl,_,h1,h2⟩:=h;simp only[fU,bS]at ho;rcases b7.1 hu with hu|hu
  ·exact yD ho.1 h1 u hu
  ·exact HQ ho.2 h2 u hu
theorem abc {P:Program} {t ty e:TypeId} {i:TypeInfo} {z:Value} {size bytes:Nat} (ht:P.underlying t=some (.slice e)) (hi:P.info? e=some i) (hz:i.zero=some z)
  (hsize:i.size=size) (hby:i.bytes=bytes) (hzs:z.cells.size=size) (hsz:1<=size) {v:Value} {n:Nat} {xs:List Value} (hown:w.ownsRow 0 e size v n xs)
  {ad:Addr} {m c:Nat} {news:List Value} (hl:news.length=m*size) (hnews:∀j u,news[j]? =some u->w.cell? (ad.add j)=some u) (h1:∀u∈news,u.oneCell'=true)
  (h63:n+m<=maxLen) (hbytes:(n+m)*bytes<=140737488355328) (hm0:0<m):
  ∃v' w',(Builtin.append_ #[t,t] ty #[v,.slice (some ad) m c]).run P w= .ok v' w'/\w'.ownsRow 0 e size v' (n+m) (xs++news)/\(w.grownBy w' v.ownBlock/\w.drawn<=w'.drawn)/\∀b,v'.ownBlock=some b->v.ownBlock=some b\/w.heap.size<=b:=by
 obtain⟨v',w',g1,g2,g3,_⟩:=run_append_own (P:=P) w 0 t ty e i z size bytes ht hi hz hsize hby hzs hsz v n xs hown ad m c news hl hnews h1 h63 hbytes (mG _);refine⟨v',w',g1,g2,⟨g3,?_⟩,λb hb=>?_⟩
 ·subst hsize;subst hby;rcases hown.2 with⟨rfl,rfl⟩|⟨g,cap,cur,rfl,_,hg,hn,hcm,hcs,htake⟩
  ·have hx:xs=[]:=jb (by simpa using hown.1);subst hx;have hr:=run_append_nil (P:=P) w t ty e i z ht hi hz ad m c news hl hnews hm0 (by simp only[maxLen]at h63;omega) (by have:=hbytes;simp only[kJ]at this;omega);rw[g1]at hr;injection hr with e1 e2
   rw[e2];exact HJ _
  ·by_cases hroom:n+m<=cap
   ·have hfit:n*i.size+news.length<=cur.size:=by rw[hl,hcs,<-jc];exact gg _ hroom
    have hr:=run_append_room (P:=P) w t ty e i ht hi g n cap cur hg ad m c news hl hnews h1 hroom hfit;rw[g1]at hr;injection hr with e1 e2
    rw[e2];exact bX _
   ·have hr:=run_append_grow (P:=P) w t ty e i z ht hi hz ⟨g,0,none⟩ n cap xs hown.1 (hown.cells (g:=g) rfl) ad m c news hl hnews (by omega) (by simp only[maxLen]at h63;omega) (growslice_fits (by omega) hbytes);rw[g1]at hr;injection hr with e1 e2
    rw[e2];exact HJ _
 subst hsize;subst hby;rcases hown.2 with⟨rfl,rfl⟩|⟨g,cap,cur,rfl,_,hg,hn,hcm,hcs,htake⟩
 ·have hx:xs=[]:=jb (by simpa using hown.1);subst hx;obtain⟨v2,w2,k1,k2,_⟩:=run_append_own (P:=P) w w.heap.size t ty e i z i.size i.bytes ht hi hz rfl rfl hzs hsz (.slice none 0 0) 0 [] (World.ownsRow_nil w _ e _) ad m c news hl hnews h1 h63 hbytes (bX _);rw[g1]at k1;injection k1 with e1 e2
  subst e1;exact .inr (k2.lt b hb).1
 ·by_cases hroom:n+m<=cap
  ·have hfit:n*i.size+news.length<=cur.size:=by rw[hl,hcs,<-jc];exact gg _ hroom
   have hr:=run_append_room (P:=P) w t ty e i ht hi g n cap cur hg ad m c news hl hnews h1 hroom hfit;rw[g1]at hr;injection hr with e1 e2
   subst e1;exact .inl hb
  ·have hr:=run_append_grow (P:=P) w t ty e i z ht hi hz ⟨g,0,none⟩ n cap xs hown.1 (hown.cells (g:=g) rfl) ad m c news hl hnews (by omega) (by simp only[maxLen]at h63;omega) (growslice_fits (by omega) hbytes);rw[g1]at hr;injection hr with e1 e2
   subst e1;simp only[Value.ownBlock,aE]at hb;exact .inr (by omega)
theorem PO {tg:Nat} {o:Oper} {s x:Operand} {t:TypeId} (ho:o.op= .call {callee:= .builtin .append,args:= #[s,x],argTypes:= #[t,t]}) {i:Nat} {a0:Option Addr} {n0 c0:Nat} {e k sz by' sz' by'':Nat} {z z':List Value} {td':TD} {rows rows2:List (List AV)}
  (ht:bc E.T t=some ⟨.slice e k,sz,by',z⟩) (hte:bc E.T e=some ⟨td',sz',by'',z'⟩) (hs':ev (look O) s=some (.os tg a0 n0 c0)) (hi:nth L i=some (.row (.slice a0 n0 c0) e k rows))
  (hsrc:∀F a w,St E.G N w F a O L->jX w (Al F L) k (a.eval x) rows2) (h1:fU rows2=true) (hk:Nat.ble 1 k=true) (hby:Nat.ble 1 by''=true) (hb:(rows++rows2).length*by''<=140737488355328):
  pr E.toCx N o O L (λr L'=>∃a c,(rows2=[]->a=a0/\c=c0)/\r= .os i a (rows++rows2).length c/\L'=L.set i (.row (.slice a (rows++rows2).length c) e k (rows++rows2))):=λF a w hs=>by
 obtain⟨v,hvd⟩:∃v,v=Value.slice a0 n0 c0:=⟨_,rfl⟩;rw[<-hvd]at hi;have hv:=bH hs.sg hs';simp only[Rel]at hv;rw[<-hvd]at hv;obtain⟨hu,hke,hh⟩:=kO (E.tok _ _ ht) rfl;obtain⟨_,ti,_,hti,_,hsz,hbb,zv,hz1,hz2⟩:=fx (E.tok _ _ hte);have hzl:=EA (E.tok _ _ hte);simp only at hsz hbb hz2 hzl;have hsize:ti.size=k:=by rw[hke];simp[jg,hti]
 have hzs:zv.cells.size=k:=by have:=congrArg List.length hz2;simp at this;omega
 have hk:=eH hk;have hby:=eH hby;obtain⟨l,r,rfl,hset⟩:=mJ hi;simp only[hset];obtain⟨vs,h3,h4⟩:=hs.hp.eG (.row v e k rows) (by simp);obtain⟨ad,m,c,vs2,h5,h6,h7,h8,h9⟩:=hsrc F a w hs;have hlen:(rows++rows2).length=rows.length+m:=by simp[h6]
 have h63:rows.length+m<=maxLen:=by
  have:(rows.length+m)<=(rows++rows2).length*by'':=by rw[hlen];exact HE _ hby
  simp only[maxLen];omega
 have hbytes:(rows.length+m)*by''<=140737488355328:=by rw[<-hlen];exact hb
 --the run
 have hrun:∃v' w',(Builtin.append_ #[t,t] o.type #[v,a.eval x]).run E.P w= .ok v' w'/\w'.ownsRow 0 e k v' (rows.length+m) (vs++vs2)/\(w.grownBy w' v.ownBlock/\w.drawn<=w'.drawn)/\(∀b,v'.ownBlock=some b->v.ownBlock=some b\/w.heap.size<=b)/\(m=0->v'=v):=by
  rw[h5];by_cases hm:m=0
  ·subst hm;have hvs2:vs2=[]:=jb (by rw[h7.length,h6];simp);subst hvs2;refine⟨v,w,?_,by simpa using h4,⟨⟨rfl,rfl,rfl,bX _,λ_ _ _=>rfl⟩,bX _⟩,λb hb=> .inl hb,λ_=>rfl⟩;have hl0:∀ad,(loadCells ad 0).run E.P w= .ok #[] w:=λad=>by have:=run_loadCells_list (P:=E.P) w ad [] (by simp);simpa using this
   rcases h4.2 with⟨hvn,h0⟩|⟨g,cap,cur,hvg,_,hg,hn,_⟩
   ·subst hvn;cases ad<;>simp[Builtin.append_,run_underlying hu,sizeOf,typeInfo,hti,Builtin.lenOf,Builtin.firstCells,hl0]
   ·subst hvg;cases ad<;>simp[Builtin.append_,run_underlying hu,sizeOf,typeInfo,hti,Builtin.lenOf,Builtin.firstCells,hn,storeCells,hl0]
  ·cases ad with
   |some a0=>
    obtain⟨v',w',q1,q2,q3,q4⟩:=abc (P:=E.P) (ty:=o.type) (c:=c) hu hti hz1 hsize hbb hzs hk h4 (by rw[h7.length,h6]) (λj u hj=>h9 a0 rfl j u hj) (HQ h1 h7) h63 hbytes (by omega);exact⟨v',w',q1,q2,q3,q4,λh=>absurd h hm⟩
   |none=>exact absurd (h8 rfl) hm
 obtain⟨v',w',g1,g2,g3,g4,g5⟩:=hrun;obtain⟨aa,cc,hv'⟩:∃aa cc,v'= .slice aa (rows.length+m) cc:=by
  rcases g2.2 with⟨rfl,h0⟩|⟨g,cap,cur,rfl,_⟩
  ·exact⟨none,0,by rw[h0]⟩
  ·exact⟨_,_,rfl⟩
 have hids:∀b∈aq.ids (.row v' e k (rows++rows2)),b∈aq.ids (.row v e k rows)\/w.heap.size<=b:=λb hb=>by
  simp only[aq.ids,Option.mem_toList]at hb⊢;exact g4 b hb
 have hext:Ext (l++aq.row v e k rows::r) w (l++aq.row v' e k (rows++rows2)::r) w':=by
  refine⟨g3.1.os,g3.1.tape,g3.1.output,g3.1.size,λb hb hn=>g3.1.block b hb (λhh=>hn ?_),λb hb=>?_,.of g3.2⟩
  ·simp[cB,cJ,aq.ids,<-hh]
  ·simp only[cB,cJ,b7]at hb⊢;rcases hb with hb|hb|hb
   ·exact .inl (.inl hb)
   ·exact(hids b hb).elim (λh=> .inl (.inr (.inl h))) .inr
   ·exact .inl (.inr (.inr hb))
 refine⟨v',w',_,_,⟨aa,cc,λh0=>?_,rfl,rfl⟩,?_,by simp only[Rel];rw[hv',hlen],?_,by rw[hlen,<-hv'];exact hext⟩
 ·have hm:m=0:=by rw[<-h6,h0];rfl
  have h10:=g5 hm;rw[hv',hvd]at h10;simp only[Value.slice.injEq]at h10;exact⟨h10.1,h10.2.2⟩
 ·simp only[execOp,ho,resolve,invoke,builtin,Sem.run_bind,Sem.run_pure,Result.andThen_ok,OC,dp,lY,hv,g1]
 ·rw[hlen,<-hv'];refine hs.hp.lU g3.1.size (λb hb hn=>g3.1.block b hb (λhh=>hn (by simp[aq.ids,<-hh]))) hids (by cases hob:v'.ownBlock<;>simp[aq.ids,hob]) ?_;exact⟨vs++vs2,(h3.keep hext.keeps).append (h7.keep hext.keeps),by rw[hlen];exact g2⟩
theorem bq.sub {A':Nat->Prop} {k:Nat} (h:∀b,A b->A' b) {rows:List (List AV)} {vs:List Value} (hr:bq w A k rows vs):bq w A' k rows vs:=
 bq.keep ⟨bX _,λb _ ha=>⟨h b ha,rfl⟩⟩ hr
theorem fm.drop {G:Gl} (i:Nat) {x:aq} (hi:nth L i=some x):fm G N O L O (L.set i .gone):=λF w a hs=>by
 obtain⟨l,r,rfl,hset⟩:=mJ hi;rw[hset];have hsub:∀b∈ids (l++aq.gone::r),b∈ids (l++x::r):=λb hb=>by
  simp only[cB,cJ,aq.ids,b7,pA]at hb⊢;rcases hb with hb|hb
  ·exact .inl hb
  ·exact .inr (.inr hb)
 have hkeep:dF w (Al F (l++x::r)) w (Al F (l++aq.gone::r)):=⟨bX _,λb _ h=>⟨⟨h.1,λhm=>h.2 (hsub b hm)⟩,rfl⟩⟩;exact⟨⟨hs.sg.keep hkeep,hs.hp.lU (bX _) (λ_ _ _=>rfl) (by simp[aq.ids]) (by simp[aq.ids]) trivial,hs.df⟩,hsub⟩
theorem agd {G:Gl} {F:Nat->Prop} {l r:List aq} {v:Value} {e k:Nat} {rows:List (List AV)} (hp:bM G w F (l++aq.row v e k rows::r)):Rel w (Al F (l++aq.gone::r)) (.sl k rows) v:=by
 have hsub:∀b∈ids (l++aq.gone::r),b∈ids (l++aq.row v e k rows::r):=λb hb=>by
  simp only[cB,cJ,aq.ids,b7,pA]at hb⊢;rcases hb with hb|hb
  ·exact .inl hb
  ·exact .inr (.inr hb)
 have hA:∀b,Al F (l++aq.row v e k rows::r) b->Al F (l++aq.gone::r) b:=λb hb=>⟨hb.1,λh=>hb.2 (hsub b h)⟩;have hnd:=hp.nodup;simp only[cB,cJ,ly,b7]at hnd;obtain⟨vs,h1,h2,h3⟩:=hp.eG (.row v e k rows) (by simp);simp only[Rel];rcases h3 with⟨rfl,h0⟩|⟨g,cap,cur,rfl,_,hg,hn,hcm,hcs,htake⟩
 ·exact .inl ⟨jb h0,_,_,rfl⟩
 ·refine .inr ⟨g,0,cap,vs,rfl,⟨(gQ.1 hg).1,?_,?_⟩,hn,hcm,h1.sub hA,λj u hj=>?_⟩
  ·exact hp.free g (by simp[cB,cJ,aq.ids,Value.ownBlock])
  ·simp only[cB,cJ,aq.ids,pA,b7,not_or];refine⟨λhm=>hnd.2.2 g hm g (.inl (by simp[aq.ids,Value.ownBlock])) rfl,λhm=>hnd.2.1.2.2 g (by simp[aq.ids,Value.ownBlock]) g hm rfl⟩
  ·rw[<-htake,fT]at hj;split at hj
   ·rw[kJ];simp[World.cell?,hg];simpa using hj
   ·cases hj
theorem fm.adf {G:Gl} (j m:Nat) {b tg:Nat} {cs:List AV} {i:Nat} {a0:Option Addr} {n0 c0:Nat} {e k:Nat} {rows:List (List AV)} (hj:nth L j=some (.box b cs)) (hm:nth cs m=some (.os tg a0 n0 c0)) (hi:nth L i=some (.row (.slice a0 n0 c0) e k rows)):
  fm G N O L O ((L.set i .gone).set j (.box b (cs.set m (.sl k rows)))):=λF w a hs=>by
 obtain⟨l,r,hl,hset⟩:=mJ hi;have hsl:Rel w (Al F (L.set i .gone)) (.sl k rows) (.slice a0 n0 c0):=by rw[hset,];exact agd (by rw[<-hl];exact hs.hp)
 obtain⟨hd,hsub⟩:=fm.drop (G:=G) (N:=N) (O:=O) i hi F w a hs;have hij:i≠j:=by
  intro hij;subst hij;rw[hi]at hj;cases hj
 have hj':nth (L.set i .gone) j=some (.box b cs):=by
  rw[cM]at hj⊢;rw[DI hij];exact hj
 generalize L.set i .gone=L1 at*
 obtain⟨l1,r1,rfl,hset1⟩:=mJ hj';rw[hset1];have hids:ids (l1++aq.box b (cs.set m (.sl k rows))::r1)=ids (l1++aq.box b cs::r1):=by simp[cB,cJ,aq.ids]
 have hAl:Al F (l1++aq.box b (cs.set m (.sl k rows))::r1)=Al F (l1++aq.box b cs::r1):=by unfold Al;rw[hids]
 refine⟨⟨by rw[hAl];exact hd.sg,?_,hd.df⟩,λc hc=>hsub c (by rw[<-hids];exact hc)⟩;refine hd.hp.lU (bX _) (λ_ _ _=>rfl) (λc hc=> .inl hc) (by simp[aq.ids]) ?_;rw[hAl];obtain⟨e',vs,h1,h2⟩:=hd.hp.eG (.box b cs) (by simp);refine⟨e',vs,h1,?_⟩;obtain⟨u,hu,hr⟩:=h2.nth hm;simp only[Rel]at hr;subst hr;have:=h2.set m hsl
 have hset:vs.set m (.slice a0 n0 c0)=vs:=by
  apply nC;intro q;rw[List.getElem?_set];split
  ·rename_i hq;subst hq;obtain⟨hlt,he⟩:=cr.1 hu;simp[hlt,he]
  ·rfl
 rwa[hset]at this
def dW (s:ByteArray):List (List AV):=s.data.toList.map λb=>[AV.v (.int .u8 b.toNat)]
theorem abJ {w:World} {A:Nat->Prop} (s:ByteArray):bq w A 1 (dW s) (Lib.strCells s):=by
 unfold dW Lib.strCells
 induction s.data.toList with
 |nil=>simp[bq]
 |cons b l ih=>simp only[dp,bq];exact⟨[.int .u8 b.toNat],_,rfl,rfl,by simp[aL,Rel],ih⟩
theorem PY (s:ByteArray):(dW s).length=s.size:=by unfold dW;rw[ja];cases s;rfl
theorem aaD {P:Program} {w:World} {t u ty e:TypeId} {i:TypeInfo} {z:Value} (ht:P.underlying t=some (.slice e)) (hu:P.underlying u=some .string) (hi:P.info? e=some i) (hz:i.zero=some z)
  (hsize:i.size=1) (hby:i.bytes=1) (hz1:z.cells.size=1) {v:Value} {n:Nat} {xs:List Value} (hown:w.ownsRow 0 e 1 v n xs) (s:ByteArray) (hbytes:n+s.size<=140737488355328):
  ∃v' w',(Builtin.append_ #[t,u] ty #[v,.string s]).run P w= .ok v' w'/\w'.ownsRow 0 e 1 v' (n+s.size) (xs++Lib.strCells s)/\(w.grownBy w' v.ownBlock/\w.drawn<=w'.drawn)/\(∀b,v'.ownBlock=some b->v.ownBlock=some b\/w.heap.size<=b)/\(s.size=0->v'=v):=by
 have hxl:xs.length=n:=by simpa using hown.1
 have hlen:(xs++Lib.strCells s).length=(n+s.size)*1:=by rw[kp,hxl,Lib.strCells_length,xM]
 have grown:∀(old:Nat),old<n+s.size->∀(row:Option Nat),
   (w.drew.alloc (.cells (xs.toArray++(Lib.strCells s).toArray++Builtin.zeroCells z.cells (grownCap w (n+s.size) old e-(n+s.size))) e)).ownsRow 0 e 1
    (.slice (some ⟨w.heap.size,0,none⟩) (n+s.size) (grownCap w (n+s.size) old e)) (n+s.size) (xs++Lib.strCells s)/\
   w.grownBy (w.drew.alloc (.cells (xs.toArray++(Lib.strCells s).toArray++Builtin.zeroCells z.cells (grownCap w (n+s.size) old e-(n+s.size))) e)) row:=by
  intro old ho row;have hge:=grownCap_ge w (n+s.size) old e;have hcm:grownCap w (n+s.size) old e<=maxLen:=grownCap_le_maxLen w (n+s.size) old e (by simp only[maxLen];omega);refine⟨⟨hlen,.inr ⟨w.heap.size,_,_,rfl,mG _,heap_alloc_new w.drew _,hge,hcm,?_,?_⟩⟩,⟨rfl,rfl,rfl,by simp,λk hk _=>heap_alloc_old w.drew _ hk⟩⟩
  ·simp only[Array.size_append,HA,size_zeroCells,hz1,hxl,Lib.strCells_length];omega
  ·simp only[Array.toList_append,lX];rw[<-lX,<-hlen];exact OK
 rcases hown.2 with⟨rfl,rfl⟩|⟨g,cap,cur,rfl,hbg,hg,hnc,hcm,hcs,htake⟩
 ·have hx:xs=[]:=jb hxl;subst hx;by_cases hm:s.size=0
  ·have hn:Lib.strCells s=[]:=jb (by rw[Lib.strCells_length];exact hm);refine⟨.slice none 0 0,w,?_,by rw[hm,hn];exact World.ownsRow_nil w 0 e 1,⟨⟨rfl,rfl,rfl,bX _,λ_ _ _=>rfl⟩,bX _⟩,λb hb=> .inl hb,λ_=>rfl⟩;have hf:=Lib.run_firstCells_string (P:=P) w 1 s;rw[hm]at hf;simp[Builtin.append_,run_underlying ht,run_underlying hu,sizeOf,typeInfo,hi,hsize,Builtin.lenOf,hm,hf]
  ·have hr:=run_append_nil_string (P:=P) w t u ty e i z ht hu hi hz s (by omega) (by omega) (by rw[hby];omega);have hgr:=grown 0 (by omega) (Value.ownBlock (.slice none 0 0));simp only[kJ,pA,Array.empty_append]at hgr⊢;have e1:(s.data.map λb=>Value.int .u8 b.toNat)=(Lib.strCells s).toArray:=by
    apply kM;simp[Lib.strCells]
   rw[e1]at hr;exact⟨_,_,hr,hgr.1,⟨hgr.2,HJ _⟩,λb hb=> .inr (by simp only[Value.ownBlock,aE]at hb;omega),λh=>absurd h hm⟩
 ·by_cases hroom:n+s.size<=cap
  ·have hcs':cur.size=cap:=by simpa using hcs
   have hr:=Lib.run_append_room_string (P:=P) w t u ty e i ht hu hi hsize g n cap cur hg s hroom (by omega);refine⟨_,_,hr,⟨hlen,.inr ⟨g,cap,_,rfl,hbg,setRow_heap w g cur _ e _ hg,hroom,hcm,?_,?_⟩⟩,⟨⟨rfl,rfl,rfl,by simp,λk _ hk=>setRow_other w g k _ (λe=>hk (by simp[Value.ownBlock,e]))⟩,bX _⟩,λb hb=> .inl hb,λh=>by rw[h];rfl⟩
   ·simp only[HA,kp,iK,aac,xL,Lib.strCells_length];omega
   ·have ht':cur.toList.take n=xs:=by simpa using htake
    rw[ht',<-hlen];exact OK
  ·have holds:∀j u,xs[j]? =some u->w.cell? ((⟨g,0,none⟩:Addr).add j)=some u:=hown.cells (g:=g) rfl;have hr:=Lib.run_append_grow_string (P:=P) w t u ty e i z ht hu hi hz ⟨g,0,none⟩ n cap xs (by rw[hsize];simpa using hxl) holds s (by omega) (by omega) (by rw[hby];exact growslice_fits (by omega) (by omega));have hgr:=grown cap (by omega) (Value.ownBlock (.slice (some ⟨g,0,none⟩) n cap));exact⟨_,_,hr,hgr.1,⟨hgr.2,HJ _⟩,λb hb=> .inr (by simp only[Value.ownBlock,aE]at hb;omega),λh=>by omega⟩
theorem Pc {tg:Nat} {o:Oper} {s x:Operand} {t u:TypeId} (ho:o.op= .call {callee:= .builtin .append,args:= #[s,x],argTypes:= #[t,u]}) {i:Nat} {a0:Option Addr} {n0 c0:Nat} {e k sz by' sz' by'' szu byu:Nat} {z z' zu:List Value} {td':TD} {rows:List (List AV)} {b:ByteArray}
  (ht:bc E.T t=some ⟨.slice e k,sz,by',z⟩) (hu:bc E.T u=some ⟨.str,szu,byu,zu⟩) (hte:bc E.T e=some ⟨td',sz',by'',z'⟩) (hs':ev (look O) s=some (.os tg a0 n0 c0)) (hi:nth L i=some (.row (.slice a0 n0 c0) e k rows))
  (hx:ev (look O) x=some (.v (.string b))) (hk:Nat.beq k 1=true) (hby:Nat.beq by'' 1=true) (hb:(rows++dW b).length*by''<=140737488355328):
  pr E.toCx N o O L (λr L'=>∃a c,(dW b=[]->a=a0/\c=c0)/\r= .os i a (rows++dW b).length c/\L'=L.set i (.row (.slice a (rows++dW b).length c) e k (rows++dW b))):=λF a w hs=>by
 obtain⟨v,hvd⟩:∃v,v=Value.slice a0 n0 c0:=⟨_,rfl⟩;rw[<-hvd]at hi;have hv:=bH hs.sg hs';simp only[Rel]at hv;rw[<-hvd]at hv;have hxv:=bH hs.sg hx;simp only[Rel]at hxv;obtain⟨hut,hke,hh⟩:=kO (E.tok _ _ ht) rfl;obtain⟨uu,_,huu,_,hud,_⟩:=fx (E.tok _ _ hu);have huu':E.P.underlying u=some .string:=by
  rw[huu];cases uu<;>simp[iu]at hud⊢
 obtain⟨_,ti,_,hti,_,hsz,hbb,zv,hz1,hz2⟩:=fx (E.tok _ _ hte);have hzl:=EA (E.tok _ _ hte);simp only at hsz hbb hz2 hzl;have hk:=bQ hk;have hby:=bQ hby;have hsize:ti.size=k:=by rw[hke];simp[jg,hti]
 have hzs:zv.cells.size=k:=by have:=congrArg List.length hz2;simp at this;omega
 subst hk;subst hby;obtain⟨l,r,rfl,hset⟩:=mJ hi;simp only[hset];obtain⟨vs,h3,h4⟩:=hs.hp.eG (.row v e 1 rows) (by simp);have hlen:(rows++dW b).length=rows.length+b.size:=by simp[PY]
 obtain⟨v',w',g1,g2,g3,g4,g5⟩:=aaD (P:=E.P) (ty:=o.type) hut huu' hti hz1 hsize hbb hzs h4 b (by rw[<-hlen];omega);obtain⟨aa,cc,hv'⟩:∃aa cc,v'= .slice aa (rows.length+b.size) cc:=by
  rcases g2.2 with⟨rfl,h0⟩|⟨g,cap,cur,rfl,_⟩
  ·exact⟨none,0,by rw[h0]⟩
  ·exact⟨_,_,rfl⟩
 have hids:∀c∈aq.ids (.row v' e 1 (rows++dW b)),c∈aq.ids (.row v e 1 rows)\/w.heap.size<=c:=λc hc=>by
  simp only[aq.ids,Option.mem_toList]at hc⊢;exact g4 c hc
 have hext:Ext (l++aq.row v e 1 rows::r) w (l++aq.row v' e 1 (rows++dW b)::r) w':=by
  refine⟨g3.1.os,g3.1.tape,g3.1.output,g3.1.size,λc hc hn=>g3.1.block c hc (λhh=>hn ?_),λc hc=>?_,.of g3.2⟩
  ·simp[cB,cJ,aq.ids,<-hh]
  ·simp only[cB,cJ,b7]at hc⊢;rcases hc with hc|hc|hc
   ·exact .inl (.inl hc)
   ·exact(hids c hc).elim (λh=> .inl (.inr (.inl h))) .inr
   ·exact .inl (.inr (.inr hc))
 refine⟨v',w',_,_,⟨aa,cc,λh0=>?_,rfl,rfl⟩,?_,by simp only[Rel];rw[hv',hlen],?_,by rw[hlen,<-hv'];exact hext⟩
 ·have hm:b.size=0:=by rw[<-PY,h0];rfl
  have h10:=g5 hm;rw[hv',hvd]at h10;simp only[Value.slice.injEq]at h10;exact⟨h10.1,h10.2.2⟩
 ·simp only[execOp,ho,resolve,invoke,builtin,Sem.run_bind,Sem.run_pure,Result.andThen_ok,OC,dp,lY,hv,hxv,g1]
 ·rw[hlen,<-hv'];refine hs.hp.lU g3.1.size (λc hc hn=>g3.1.block c hc (λhh=>hn (by simp[aq.ids,<-hh]))) hids (by cases hob:v'.ownBlock<;>simp[aq.ids,hob]) ?_;exact⟨vs++Lib.strCells b,(h3.keep hext.keeps).append (abJ b),by rw[hlen];exact g2⟩
