/- The program logic, eighth part: make, elements of own rows, package-level arrays, regions whose order is open. -/
import Derived.Test.YtnocmolegijmkaaGreatKB7
import Derived.Deep.Quiet
set_option linter.all false
noncomputable section
namespace Go.Bw
open Go
section
variable {N:Nat} {Q:AQ} {O:Sg} {L:List au} {ops:Array Oper} {rest:List Oper} {E:Env} {w:World} {A:Nat->Prop} {a:Act}
theorem KP (z:List Value):∀n,bz w A z.length (List.replicate n (z.map .v)) (fi n z)
 |0=>by simp[fi,bz]
 |n+1=>by
  simp only[List.replicate_succ,fi,bz];exact⟨z,_,rfl,by simp,nZ z,KP z n⟩
theorem Li (z:List Value):∀n m,fi (n+m) z=fi n z++fi m z
 |0,m=>by simp[fi]
 |n+1,m=>by rw[show n+1+m=(n+m)+1 by omega];simp[fi,Li z n m]
theorem bS.make {d:Nat} {t:TypeId} {x y:Operand} {ty:TypeId} {pos:String} {after:Array Edge} {e k sz by' sz' by'':Nat} {z z':List Value} {td':TD} {kl kc:IntKind} {li ci:Int} (l c:Nat)
  (hb:c*by''<=140737488355328) (hl:l<=c) (hx:ev (look O) x=some (.v (.int kl li))) (hli:li=(l:Int)) (hy:ev (look O) y=some (.v (.int kc ci))) (hci:ci=(c:Int)) (ht:aY E.T t=some ⟨.slice e k,sz,by',z⟩) (hte:aY E.T e=some ⟨td',sz',by'',z'⟩)
  (hk:Nat.ble 1 k=true) (hby:Nat.ble 1 by''=true) (hd:Nat.blt d N=true)
  (kk:∀b,bS E.toCx N ops rest Q ((d,.os L.length (some ⟨b,0,none⟩) l c)::O) (L++[.row (.slice (some ⟨b,0,none⟩) l c) e k (List.replicate l (z'.map .v))])):bS E.toCx N ops (⟨some d,.makeSlice t x y,ty,pos,after,none⟩::rest) Q O L:=
 bS.CT (R:=λr L'=>∃b,r= .os L.length (some ⟨b,0,none⟩) l c/\L'=L++[.row (.slice (some ⟨b,0,none⟩) l c) e k (List.replicate l (z'.map .v))]) rfl hd (λF a w hs=>by
  obtain⟨hu,hke,hh⟩:=lZ (E.tok _ _ ht) rfl;obtain⟨_,ti,_,hi,_,hsz,hbb,zv,hz1,hz2⟩:=eI (E.tok _ _ hte);have hzl:=Ba (E.tok _ _ hte);simp only at hsz hbb hz2 hzl;have hk:=dJ hk;have hby:=dJ hby;have hsize:ti.size=k:=by rw[hke];simp[gR,hi]
  have hzs:zv.cells.size=z'.length:=by have:=congrArg List.length hz2;simpa using this
  have hzk:z'.length=k:=by omega
  have hx':=bq hs.sg hx;have hy':=bq hs.sg hy;simp only[Rel]at hx' hy';subst hli;subst hci;have hcb:c<=140737488355328:=nW (DI c hby) hb;have hr:=run_make (P:=E.P) w t e ti zv hu hi hz1 kl kc (l:Int) (c:Int) (by omega) (by omega) (by rw[hbb,<-Int.natCast_mul,Ai];omega) (by omega);simp only[fv]at hr;have hm:madeCells zv.cells (c*ti.size)=(fi c z').toArray:=by
   apply jL;have:=L6 zv.cells c;rw[hzs,hzk,hz2]at this;simp only[madeCells,hsize];simpa[hzs,hzk]using this
  rw[hm]at hr;have hext:=n9 w (.cells (fi c z').toArray e) L (.row (.slice (some ⟨w.heap.size,0,none⟩) l c) e k (List.replicate l (z'.map .v))) (by simp[au.ids,Value.ownBlock]);refine⟨.slice (some ⟨w.heap.size,0,none⟩) l c,_,_,_,⟨w.heap.size,rfl,rfl⟩,by simp[execOp,hx',hy',hr],by simp only[Rel],?_,hext⟩;refine hs.hp.push (by simp) (λb hb=>lq w _ b hb) (by simp[au.ids,Value.ownBlock]) (by simp[au.ids,Value.ownBlock]) ?_;refine⟨fi l z',by rw[<-hzk];exact KP z' l,?_,.inr ⟨w.heap.size,c,_,by simp,o8 _,lX w _,by simpa using hl,by simp only[maxLen];omega,?_,?_⟩⟩
  ·simp[vR,hzk]
  ·simp[vR,hzk]
  ·have:c=l+(c-l):=by omega
   rw[this,Li];simp only[J2];rw[<-hzk,<-vR];exact S9)
  (λ_ _ ⟨b,h1,h2⟩=>by subst h1;subst h2;exact kk b)
theorem Ug {tg:Nat} {o:Oper} {t:TypeId} {x ix:Operand} (ho:o.op= .indexAddr t x ix) {e k sz by':Nat} {z:List Value} {i:Nat} {a0:Option Addr} {n0 c0:Nat} {rows:List (List AV)} {kd:IntKind} {n:Int} (j:Nat) (ht:aY E.T t=some ⟨.slice e k,sz,by',z⟩) (hx:ev (look O) x=some (.os tg a0 n0 c0)) (hi:nth L i=some (.row (.slice a0 n0 c0) e k rows)) (hix:ev (look O) ix=some (.v (.int kd n)))
  (hj:n=(j:Int)) (hr:j<rows.length):qn E.toCx N o O L (.oe i (.slice a0 n0 c0) (j*k)):=λF a w hs=>by
 obtain⟨hu,hke,hh⟩:=lZ (E.tok _ _ ht) rfl;have h1:=bq hs.sg hx;have h2:=bq hs.sg hix;simp only[Rel]at h1 h2;subst hj;obtain⟨vs,h3,h4,h5⟩:=ji hs.hp hi;rcases h5 with⟨_,h0⟩|⟨g,cap,cur,hv,_,hg,hn,_⟩
 ·omega
 ·cases hv;refine⟨.pointer (some ⟨g,j*k,none⟩),by simp only[Rel];exact⟨g,_,_,rfl,rfl⟩,λw' _=>?_⟩;rw[hke];simp[execOp,ho,h1,h2,Instr.indexAt,asIntOf,run_underlying hu,hr,mU hh,Addr.add_lit]
theorem TN {tg:Nat} {o:Oper} {t:TypeId} {p:Operand} (ho:o.op= .load t p) (j off:Nat) {i:Nat} {v:Value} {e k n:Nat} {rows:List (List AV)} {r:List AV} {x:AV} (hp:ev (look O) p=some (.oe tg v n)) (hn:n=j*k+off) (hi:nth L i=some (.row v e k rows)) (hr:rows[j]? =some r) (hl:jo E.T t r off=some x):
  qn E.toCx N o O L x:=λF a w hs=>by
 have h1:=bq hs.sg hp;simp only[Rel]at h1;obtain⟨g,len,cap,hv,h1⟩:=h1;obtain⟨vs,h2,h3⟩:=ji hs.hp hi;obtain⟨hrk,us,h4,h5⟩:=h2.get hr;have hlen:j*k+us.length<=vs.length:=by
  rw[h2.length,h4.length,hrk];have:j<rows.length:=(cy.1 hr).1
  calc j*k+k=(j+1)*k:=by rw[kz,DJ]
   _<=rows.length*k:=J3 k (by omega)
 subst hn;rcases h3.2 with⟨hvn,_⟩|⟨g',cap',cur,hvg,_,hg,_,_,_,htake⟩
 ·rw[hv]at hvn;cases hvn
 ·rw[hv]at hvg;cases hvg;have hb:g<w.heap.size:=(lS.1 hg).1;obtain⟨val,h6,h7⟩:=VN (E:=E) (b:=g) (s:=j*k) hl h4;refine⟨val,h6,λw' hw'=>?_⟩;have:=h7 w' (λi u hiu=>by
   have h8:=h5 i u hiu;rw[<-htake,lV]at h8;split at h8
   ·have hc:cur[j*k+i]? =some u:=by simpa using h8
    simp[World.cell?,hw'.2 g hb,hg,hc]
   ·cases h8)
  simp[execOp,ho,h1,Instr.loadAt,Instr.sureAddr,this]
theorem bz.set {k:Nat}:∀{rows:List (List AV)} {vs us:List Value} {j:Nat} {r:List AV},bz w A k rows vs->j<rows.length->r.length=k->aJ w A r us->bz w A k (rows.set j r) (cS vs (j*k) us)
 |[],_,_,_,_,_,hlt,_,_=>by simp at hlt
 |q::rs,vs,us,0,r,h,_,hk,hr=>by
  simp only[bz]at h;obtain⟨v1,v2,rfl,hq,h1,h2⟩:=h;simp only[JT,bz,S'];refine⟨us,v2,?_,hk,hr,h2⟩;have hlen:us.length=v1.length:=by rw[hr.length,h1.length,hk,hq]
  have key:∀(us v1:List Value),us.length=v1.length->cS (v1++v2) 0 us=us++v2:=by
   intro us
   induction us with
   |nil=>intro v1 hl;have:v1=[]:=mP (by simpa using hl.symm);subst this;cases v2<;>simp[cS,over]
   |cons u us ih=>intro v1 hl;cases v1 with
    |nil=>simp at hl
    |cons x v1=>
     have:=ih v1 (by simpa using hl);simp only[jJ];have h0:∀(l:List Value) (ys:List Value),cS l 0 ys=over l ys:=by intro l ys;cases l<;>rfl
     rw[h0]at this⊢;simp[over,this]
  exact key us v1 hlen
 |q::rs,vs,us,j+1,r,h,hj,hk,hr=>by
  simp only[bz]at h;obtain⟨v1,v2,rfl,hq,h1,h2⟩:=h;simp only[vI,bz];have hl1:v1.length=k:=by rw[h1.length,hq]
  refine⟨v1,cS v2 (j*k) us,?_,hq,h1,bz.set h2 (by simpa using hj) hk hr⟩;have key:∀(v1:List Value) (m:Nat),cS (v1++v2) (v1.length+m) us=v1++cS v2 m us:=by
   intro v1 m
   induction v1 with
   |nil=>simp
   |cons x v1 ih=>rw[fu,show v1.length+1+m=(v1.length+m)+1 by omega];simp[cS,ih]
  have:=key v1 (j*k);rw[hl1]at this;rw[<-this];congr 1;rw[kz];omega
theorem vQ {D:Type}:∀{xs ys:List D} {p:Nat},p+ys.length<=xs.length->(cS xs p ys).length=xs.length
 |[],ys,p,h=>by
  have:ys=[]:=mP (by simp at h;simp[h.2]);subst this;rw[sR]
 |x::xs,[],p,_=>by rw[sR]
 |x::xs,y::ys,0,h=>by
  have h0:cS xs 0 ys=over xs ys:=by cases xs<;>rfl
  have:=vQ (xs:=xs) (ys:=ys) (p:=0) (by simpa using h);rw[h0]at this;simp[cS,over,this]
 |x::xs,y::ys,p+1,h=>by
  simp only[cS,fu];rw[vQ (by simp at h⊢;omega)]
theorem vY {D:Type}:∀{xs ys:List D} {p:Nat},p+ys.length<=xs.length->∀i,(cS xs p ys)[i]? =if p<=i/\i<p+ys.length then ys[i-p]? else xs[i]?
 |xs,[],p,_,i=>by rw[sR,bK (by simp only[o9];omega)]
 |[],y::ys,p,h,i=>by simp at h
 |x::xs,y::ys,0,h,i=>by
  have h0:cS xs 0 ys=over xs ys:=by cases xs<;>rfl
  have ih:=vY (xs:=xs) (ys:=ys) (p:=0) (by simpa using h);rw[h0]at ih;simp only[cS,over];cases i with
  |zero=>simp
  |succ i=>
   simp only[nX,ih i,fu];by_cases hi:i<ys.length
   ·rw[cj (by omega),cj (by omega)];simp
   ·rw[bK (by omega),bK (by omega)]
 |x::xs,y::ys,p+1,h,i=>by
  simp only[cS];cases i with
  |zero=>simp
  |succ i=>
   simp only[nX];rw[vY (by simp at h⊢;omega) i];by_cases hi:p<=i/\i<p+(y::ys).length
   ·rw[cj hi,cj (by omega)];congr 1;omega
   ·rw[bK hi,bK (by omega)]
theorem Kg {tg:Nat} {o:Oper} {t:TypeId} {p x:Operand} (ho:o.op= .store t p x) (j off:Nat) {i:Nat} {v:Value} {e k n:Nat} {rows:List (List AV)} {r r':List AV} {y:AV} {ti:TI} (hp:ev (look O) p=some (.oe tg v n)) (hn:n=j*k+off) (hx:ev (look O) x=some y) (hi:nth L i=some (.row v e k rows)) (hr:rows[j]? =some r)
  (ht:aY E.T t=some ti) (hk:Nat.beq (cg y).length ti.size=true) (h1:eV (cg y)=true) (hl:fc r off (cg y)=some r'):
  CU E.toCx N o O L (L.set i (.row v e k (rows.set j r'))):=λF a w hs=>by
 have hp':=bq hs.sg hp;simp only[Rel]at hp';obtain⟨g,len,cap,hv,hp'⟩:=hp';have hy:=vX (bq hs.sg hx);obtain⟨l,rr,rfl,hset⟩:=v8 hi;simp only[hset];obtain⟨vs,h2,h3⟩:=hs.hp.eN (.row v e k rows) (by simp);obtain⟨hrk,us,h4,h5⟩:=h2.get hr;have hjlt:j<rows.length:=(cy.1 hr).1;have hlen:=vS hl;have hyl:=hy.length;subst hn;obtain⟨h30,h3⟩:=h3;rcases h3 with⟨hvn,_⟩|⟨g',cap',cur,hvg,_,hg,hnc,hcm,hcs,htake⟩
 ·rw[hv]at hvn;cases hvn
 ·rw[hv]at hvg;cases hvg;have hvl:vs.length=rows.length*k:=h2.length;have hjk:(j+1)*k<=rows.length*k:=J3 k (by omega);rw[kz,DJ]at hjk;have hcurlen:vs.length<=cur.toList.length:=by rw[<-htake,gw];omega
  have hg':w.heap[g]? =some (.cells cur.toList.toArray e (0,0)):=by simpa using hg
  obtain⟨w',h6,h7,h8,h9,h10,h11,h12⟩:=DW (P:=E.P) g e (a.eval x).cells.toList 0 (j*k+off) cur.toList w hg' (by omega) (AY h1 hy);have hids:∀c∈au.ids (.row v e k (rows.set j r')),c∈au.ids (.row v e k rows)\/w.heap.size<=c:=λc hc=> .inl hc;have hown:au.ids (.row v e k rows)=[g]:=by simp[au.ids,hv,Value.ownBlock]
  have hoth:∀c,c∉au.ids (.row v e k rows)->w'.heap[c]? =w.heap[c]? :=λc hc=>h12 c (λe=>hc (by rw[hown,e];simp));have hkeep:dm w (Al F (l++au.row v e k rows::rr)) w' (Al F (l++au.row v e k (rows.set j r')::rr)):=by
   refine⟨by omega,λc hc ha=>⟨?_,hoth c λhcb=>ha.2 (by simp[cp,cJ,hcb])⟩⟩;simpa[Al,cp,cJ,au.ids]using ha
  refine⟨w',?_,?_,?_⟩
  ·have hsz:(a.eval x).cells.size=ti.size:=by
    have:=bC hk;rw[<-hyl]at this;simpa using this
   simp[execOp,ho,hp',Instr.storeAt,Instr.sureAddr,storeVar,EF (E.tok _ _ ht),hsz,h6]
  ·refine hs.hp.ve (by omega) (λc _ hc=>hoth c hc) hids (by simp[au.ids,hv,Value.ownBlock]) ?_;have hr'k:r'.length=k:=by rw[hlen.2,hrk]
   have hnew:=(vT hl h4 hy).bo hkeep;have husl:us.length=k:=by rw[h4.length,hrk]
   have hle1:off+(a.eval x).cells.toList.length<=us.length:=by omega
   have hsl:(cS us off (a.eval x).cells.toList).length=k:=by rw[vQ hle1,husl]
   have hle2:j*k+(cS us off (a.eval x).cells.toList).length<=vs.length:=by omega
   have hle3:j*k+off+0+(a.eval x).cells.toList.length<=cur.toList.length:=by omega
   refine⟨cS vs (j*k) (cS us off (a.eval x).cells.toList),bz.set (h2.bo hkeep) hjlt hr'k hnew,?_,.inr ⟨g,cap,_,by simpa using hv,o8 _,h7,by simpa using hnc,hcm,?_,?_⟩⟩
   ·rw[vQ hle2,hvl];simp
   ·simp only[Ta];rw[vQ hle3];simpa using hcs
   ·apply DN;intro i;simp only[qw];rw[lV,vY hle2,vY hle1,vY hle3,hsl];have hvi:∀i,i<rows.length*k->vs[i]? =cur.toList[i]? :=λi hi=>by rw[<-htake,lV,cj hi]
    by_cases hi:i<rows.length*k
    ·rw[cj hi];by_cases h13:j*k<=i/\i<j*k+k
     ·rw[cj h13];by_cases h14:off<=i-j*k/\i-j*k<off+(a.eval x).cells.toList.length
      ·rw[cj h14,cj (by omega)];congr 1;omega
      ·rw[bK h14,bK (by omega),<-hvi i hi];have:i-j*k<us.length:=by omega
       have h15:=h5 (i-j*k) us[i-j*k] (by simp[this]);rw[show j*k+(i-j*k)=i by omega]at h15;rw[h15];simp[this]
     ·rw[bK h13,bK (by omega),hvi i hi]
    ·rw[bK hi,bK (by omega),pc (by omega)]
  ·refine⟨h8,h9,h10.1,by omega,λc _ hc=>hoth c λhcb=>hc (by simp[cp,cJ,hcb]),λc hc=> .inl ?_,.of (Nat.le_of_eq h10.2.symm)⟩;simpa[cp,cJ,au.ids]using hc
def uP:Gl->Nat->Option (List Value)
 |[],_=>none
 |(k,x)::r,t=>match Nat.beq k t with
  |true=>some x
  |false=>uP r t
theorem L7:∀{G:Gl} {t:Nat} {x:List Value},uP G t=some x->(t,x)∈G
 |[],_,_,h=>by simp[uP]at h
 |(k,y)::r,t,x,h=>by
  simp only[uP]at h;cases hb:Nat.beq k t with
  |true=>rw[hb]at h;simp only[aE]at h;subst h;rw[bC hb];simp
  |false=>rw[hb]at h;exact Ap _ (L7 h)
theorem UZ {o:Oper} {t:TypeId} {p:Operand} (ho:o.op= .load t p) {g off:Nat} {vs:List Value} {u:Value} {d:TD} {k b:Nat} {z:List Value} (hp:ev (look O) p=some (.v (.pointer (some ⟨g,off,none⟩)))) (hg:uP E.G g=some vs) (hu:vs[off]? =some u) (ht:aY E.T t=some ⟨d,k,b,z⟩) (hd:d.agg=false):
  qn E.toCx N o O L (.v u):=λF a w hs=>by
 have h1:=bq hs.sg hp;simp only[Rel]at h1;obtain⟨_,e,fz,hh⟩:=hs.hp.cm _ (L7 hg);have hb:g<w.heap.size:=(lS.1 hh).1;refine⟨u,fL _,λw' hw'=>?_⟩;have hc:w'.cell? ⟨g,off,none⟩=some u:=sG ((hw'.2 g hb).trans hh) off u hu;have:=mR (P:=E.P) (v0:=u) (E.tok _ _ ht) (b:=g) (o:=off) (vs:=[u]) (w':=w')
  (λj v hj=>by cases j with
   |zero=>simp at hj;subst hj;simpa using hc
   |succ j=>simp at hj) (λhg'=>by simp only at hg';rw[hd]at hg';cases hg') (λ_=>rfl)
 simp only at this;simp[execOp,ho,h1,Instr.loadAt,Instr.sureAddr,this,hd]
theorem iU.sub {G:Gl} {L':List au} (hsl:L'.Sublist L):iU G N O L O L':=λF w a hs=>by
 have hids:(ids L').Sublist (ids L):=by
  have:∀{l r:List au},l.Sublist r->(ids l).Sublist (ids r):=by
   intro l r h
   induction h with
   |slnil=>exact JX _
   |cons a h ih=>rw[cJ];exact ih.trans (ace _ _)
   |cons_cons a h ih=>rw[cJ,cJ];exact acf (JX _) ih
  exact this hsl
 have hsub:∀b∈ids L',b∈ids L:=λb hb=>hids.subset hb;have hkeep:dm w (Al F L) w (Al F L'):=⟨bU _,λb _ h=>⟨⟨h.1,λhm=>h.2 (hsub b hm)⟩,rfl⟩⟩;exact⟨⟨hs.sg.bo hkeep,⟨λx hx=>(hs.hp.eN x (hsl.subset hx)).bo hkeep (λ_ _=>rfl),hids.nodup hs.hp.nodup,λb hb=>hs.hp.free b (hsub b hb),hs.hp.bound,hs.hp.cm.bo hkeep⟩,hs.df⟩,hsub⟩
theorem mW {i:Nat} (h:i<4611686018427387904):IntKind.i64.wrap ((i:Int)+1)=((i+1:Nat):Int):=by
 rw[IntKind.wrap_i64];omega
end
def tmpsOf (o:Oper):List Nat:=o.op.operands.toList.filterMap λ| .tmp t=>some t|_=>none
def ve (s:Sl) (dst:Option Nat) (x:AV):Sl:=match dst with
 |none=>s
 |some d=>λt=>if t=d then some x else s t
def gX (w:World) (w':World):Prop:=(w'.os=w.os/\qo w w')/\w'.tape=w.tape/\w'.output=w.output/\lD w w'
theorem gX.refl (w:World):gX w w:=⟨⟨rfl,.of (bU _)⟩,rfl,rfl,lD.refl w⟩
theorem gX.ext {w w':World} {L:List au} (h:gX w w'):Ext L w L w':=⟨h.1.1,h.2.1,h.2.2.1,h.2.2.2.1,λb hb _=>h.2.2.2.2 b hb,λ_ hb=> .inl hb,h.1.2⟩
theorem gX.trans {w w' w'':World} (h:gX w w') (g:gX w' w''):gX w w'':=
 ⟨⟨g.1.1.trans h.1.1,h.1.2.trans g.1.2⟩,g.2.1.trans h.2.1,g.2.2.1.trans h.2.2.1,nW h.2.2.2.1 g.2.2.2.1,λb hb=>(g.2.2.2.2 b (sD hb h.2.2.2.1)).trans (h.2.2.2.2 b hb)⟩
def lB (w:World) (A:Nat->Prop) (N:Nat) (a:Act) (o:Oper) (s:Sl):Prop:=∀t∈tmpsOf o,∀y,s t=some y->t<N/\Rel w A y (a.tmps.getD t undef)
def bP (C:Cx) (N:Nat) (o:Oper) (s:Sl) (L:List au) (x:AV):Prop:=
 ∀F w (a:Act),a.tmps.size=N->a.defers=[]->bI C.G w F L->lB w (Al F L) N a o s->∀(K:Act->World->Prop) (Q:Exit->Act->World->Prop),
  (∀v w',Rel w' (Al F L) x v->gX w w'->K (a.put o.dst v) w')->o.wp C.P a w K Q
def fF (C:Cx) (N:Nat) (o:Oper) (s:Sl) (L:List au) (cells:List AV):Prop:=
 ∀F w (a:Act),a.tmps.size=N->a.defers=[]->bI C.G w F L->lB w (Al F L) N a o s->∀(K:Act->World->Prop) (Q:Exit->Act->World->Prop),
  (∀vs e,aJ w (Al F L) cells vs->K (a.put o.dst (.pointer (some ⟨w.heap.size,0,none⟩))) (w.alloc (.cells (List.toArray vs) e)))->o.wp C.P a w K Q
section
variable {C:Cx} {N:Nat} {o:Oper} {s s':Sl} {L L':List au} {x:AV} {R:AV->List au->Prop}
theorem lB.congr {w:World} {A:Nat->Prop} {a:Act} (h:lB w A N a o s') (he:∀t∈tmpsOf o,s' t=s t):lB w A N a o s:=λt ht y hy=>h t ht y (by rw[he t ht];exact hy)
theorem bP.congr (h:bP C N o s L x) (he:∀t∈tmpsOf o,s' t=s t):bP C N o s' L x:=λF w a h1 h2 h3 h4=>h F w a h1 h2 h3 (h4.congr he)
theorem fF.congr {cells:List AV} (h:fF C N o s L cells) (he:∀t∈tmpsOf o,s' t=s t):fF C N o s' L cells:=λF w a h1 h2 h3 h4=>h F w a h1 h2 h3 (h4.congr he)
theorem bI.later {G:Gl} {w w':World} {F:Nat->Prop} {L:List au} (h:bI G w F L) (hl:lD w w'):bI G w' F L:=by
 have hk:dm w (Al F L) w' (Al F L):=⟨hl.1,λb hb ha=>⟨ha,hl.2 b hb⟩⟩;exact⟨λx hx=>(h.eN x hx).bo hk (λb hb=>hl.2 b ((h.eN x hx).lt b hb)),h.nodup,h.free,λb hb=>sD (h.bound b hb) hl.1,h.cm.bo hk⟩
end
def kH (ops:Array Oper) (o:Oper) (s:Sl):Option Bool:=match o.guard with
 |none=>some true
 |some (j,want)=>match(ops[j]?).bind (·.dst)with
  |none=>some false
  |some d=>match s d with
   |some (.v (.bool b))=>some (b==want)
   |some (.v (.tuple _))=>some false
   |_=>none
abbrev lP:=Sl×List (Nat×List AV)
abbrev Nu:=List (Nat×List AV)
def cO (zs:List ((Nat×List AV)×Nat)):List au:=zs.map λz=> .box z.2 z.1.2
structure mH (G:Gl) (N:Nat) (F:Nat->Prop) (L:List au) (w0 w:World) (a:Act) (st:lP) (zs:List ((Nat×List AV)×Nat)):Prop where
 size:a.tmps.size=N
 df:a.defers=[]
 eq:zs.map (·.1)=st.2
 hp:bI G w F (L++cO zs)
 sl:∀t x,st.1 t=some x->t<N/\Rel w (Al F (L++cO zs)) x (a.tmps.getD t undef)
 nu:∀z∈zs,z.1.1<N/\a.tmps.getD z.1.1 undef= .pointer (some ⟨z.2,0,none⟩)
 cls:gX w0 w
 new:∀z∈zs,w0.heap.size<=z.2
theorem Tk {D β:Type} (f:D->β) {W W':List β} (h:W.Perm W'):∀zs:List D,zs.map f=W->∃zs',zs.Perm zs'/\zs'.map f=W':=by
 induction h with
 |nil=>intro zs h;exact⟨zs,.refl _,h⟩
 |cons x _ ih=>
  intro zs h;cases zs with
  |nil=>cases h
  |cons z zs=>
   simp only[dY,ll]at h;obtain⟨zs',h1,h2⟩:=ih zs h.2;exact⟨z::zs',h1.cons z,by simp[h.1,h2]⟩
 |swap x y l=>
  intro zs h
  match zs,h with
  |z1::z2::zs,h=>
   simp only[dY,ll]at h;exact⟨z2::z1::zs,.swap _ _ _,by simp[h.1,h.2.1,h.2.2]⟩
 |trans _ _ ih1 ih2=>
  intro zs h;obtain⟨z1,h1,h2⟩:=ih1 zs h;obtain⟨z2,h3,h4⟩:=ih2 z1 h2;exact⟨z2,h1.trans h3,h4⟩
theorem A8 {l r:List au} (h:l.Perm r):(ids l).Perm (ids r):=h.flatMap_right _
theorem wI {F:Nat->Prop} {l r:List au} (h:l.Perm r):Al F l=Al F r:=funext λb=>propext (by unfold Al;rw[(A8 h).mem_iff])
theorem bI.perm {G:Gl} {w:World} {F:Nat->Prop} {l r:List au} (hp:l.Perm r) (h:bI G w F l):bI G w F r:=
 ⟨λx hx=>by rw[<-wI hp];exact h.eN x (hp.mem_iff.2 hx),(A8 hp).nodup_iff.1 h.nodup,λb hb=>h.free b ((A8 hp).mem_iff.2 hb),h.bound,by rw[<-wI hp];exact h.cm⟩
theorem mH.perm {G:Gl} {N:Nat} {F:Nat->Prop} {L:List au} {w0 w:World} {a:Act} {s:Sl} {W W':Nu} {zs:List ((Nat×List AV)×Nat)} (h:mH G N F L w0 w a (s,W) zs) (hp:W.Perm W'):
  ∃zs',mH G N F L w0 w a (s,W') zs':=by
 obtain⟨zs',h1,h2⟩:=Tk (·.1) hp zs h.eq;have he:(L++cO zs).Perm (L++cO zs'):=(h1.map _).append_left L;exact⟨zs',h.size,h.df,h2,h.hp.perm he,λt x hx=>by rw[<-wI he];exact h.sl t x hx,λz hz=>h.nu z (h1.mem_iff.2 hz),h.cls,λz hz=>h.new z (h1.mem_iff.2 hz)⟩
def fwd (i:Nat):List Oper->List Bool->List Bool
 |[],m=>m
 |o::r,m=>fwd i r (m++[o.after.any λe=>Region.binds .any e&&(Nat.beq e.on i||m.getD e.on false)])
def reach (ops:Array Oper) (_:Nat) (i j:Nat):Bool:=(fwd i ops.toList []).getD j false
def pJ (ops:Array Oper) (listed:Array Bool):Prop:=∀j o,ops[j]? =some o->listed.getD j false=true->∀e∈o.after,Region.binds .any e=true->listed.getD e.on false=true
theorem E3 {l:List Bool} {j:Nat} (h:l.length<=j):l.getD j false=false:=by simp[List.getD,pc h]
theorem KO {ops:Array Oper} {listed:Array Bool} (hc:pJ ops listed) {i:Nat}:∀(l:List Oper) (m:List Bool) (pre:List Oper),ops.toList=pre++l->m.length=pre.length->
  (∀j,m.getD j false=true->∀o,ops[j]? =some o->(∀e∈o.after,Region.binds .any e=true->listed.getD e.on false=true)->listed.getD i false=true)->
  ∀j,(fwd i l m).getD j false=true->∀o,ops[j]? =some o->(∀e∈o.after,Region.binds .any e=true->listed.getD e.on false=true)->listed.getD i false=true
 |[],_,_,_,_,h=>h
 |x::l,m,pre,hops,hlen,h=>by
  refine KO hc l _ (pre++[x]) (by simp[hops]) (by simp[hlen]) λj hj o ho he=>?_;rcases J0 j m.length with hlt|heq|hgt
  ·exact h j (by simpa[List.getD,sC hlt]using hj) o ho he
  ·subst heq;have hx:ops[m.length]? =some x:=by
    rw[<-Array.getElem?_toList,hops,hlen];simp
   rw[hx]at ho;cases ho;have hj:(x.after.any λe=>Region.binds .any e&&(Nat.beq e.on i||m.getD e.on false))=true:=by
    simpa using hj
   obtain⟨e,hem,hb⟩:=Array.any_eq_true'.1 hj;simp only[bG,DL]at hb;obtain⟨hb,hb2⟩:=hb;have hl:=he e hem hb;rcases hb2 with hb2|hb2
   ·rw[<-bC hb2];exact hl
   ·have hlt:e.on<m.length:=by
     rcases mN e.on m.length with h1|h1
     ·exact h1
     ·rw[E3 h1]at hb2;cases hb2
    have hs:e.on<ops.size:=by
     rw[<-Aj,hops,kA];omega
    exact h e.on hb2 ops[e.on] (by simp[hs]) λe' he' hb'=>hc e.on ops[e.on] (by simp[hs]) hl e' he' hb'
  ·rw[E3 (by simp;omega)]at hj;cases hj
theorem Ki {ops:Array Oper} {listed:Array Bool} (hc:pJ ops listed) (n i j:Nat) (h:reach ops n i j=true) (hj:∀o,ops[j]? =some o->∀e∈o.after,Region.binds .any e=true->listed.getD e.on false=true):listed.getD i false=true:=by
 unfold reach at h;cases ho:ops[j]? with
 |none=>
  have hlen:∀(l:List Oper) (m:List Bool),(fwd i l m).length=m.length+l.length:=by
   intro l
   induction l with
   |nil=>intro m;simp[fwd]
   |cons x l ih=>intro m;simp[fwd,ih];omega
  have hge:ops.size<=j:=by simpa using ho
  rw[E3 (by rw[hlen];simp;omega)]at h;cases h
 |some o=>exact KO hc ops.toList [] [] rfl rfl (λj hj=>by simp at hj) j h o ho (hj o ho)
theorem pJ.set {ops:Array Oper} {listed:Array Bool} {i:Nat} (hc:pJ ops listed) (hr:i∈Region.ready .any ops listed):pJ ops (listed.setIfInBounds i true):=by
 intro j o ho hl e he hb;by_cases hji:j=i
 ·subst hji;obtain⟨_,o',ho',hall⟩:=mem_ready.1 hr;rw[ho]at ho';cases ho';exact getD_set_true (hall e he hb)
 ·rw[getD_set_ne false (jK hji)]at hl;exact getD_set_true (hc j o ho hl e he hb)
def GH:Op->Bool
 | .move _=>true
 | .assign _=>true
 | .extract _ _=>true
 |_=>false
def Ck (ops:Array Oper):List Nat->Array Bool->Bool
 |[],listed=>(Region.ready .any ops listed).isEmpty
 |i::rest,listed=>(match ops[i]? with
   |some o=>decide (Region.ready .any ops listed=[i])||(GH o.op&&o.guard.isNone&&(Region.ready .any ops listed).contains i&&Region.free .any ops listed i)
   |none=>false)&&Ck ops rest (listed.setIfInBounds i true)
def fS (ops:Array Oper):List Nat->List Oper
 |[]=>[]
 |i::r=>match ops[i]? with
  |some o=>o::fS ops r
  |none=>fS ops r
section
variable {P:Program} {ops:Array Oper} {Q:Exit->Act->World->Prop}
theorem U2 {o:Oper} {a:Act} {w:World} {n:Next} (he:execOp a.eval o=Sem.pure n) (h:o.asks P a w):False:=by
 have h1:=h.1;rw[he]at h1;have h2:noRoomEvent∈(#[]:Array Event):=h1;simp at h2
theorem U3 {o:Oper} {a:Act} {w:World} {n:Halt} (he:execOp a.eval o=Sem.halt n) (h:o.asks P a w):False:=by
 have h1:=h.1;rw[he]at h1;have h2:noRoomEvent∈(#[]:Array Event):=h1;simp at h2
theorem D7 {o:Oper} {a:Act} {w:World} {v:Value} {next:Act->World->Prop} (he:execOp a.eval o=Sem.pure (.value v)) (hg:o.guard=none)
  (h:o.wp P a w next Q\/(o.asks P a w/\LetsOut Q)):∃v,Yields P ops o v a/\next (a.put o.dst v) w:=by
 have hw:Region.wanted o (yielded ops a.tmps)=true:=by simp[Region.wanted,hg]
 have hr:∀w,(execOp a.eval o).run P w= .ok (.value v) w:=λw=>by rw[he];rfl
 rcases h with h|⟨h,_⟩
 ·refine⟨v,.inl ⟨hw,hr⟩,?_⟩;unfold Oper.wp at h;rw[hr w,Oper.upon_value]at h;exact h
 ·exact(U2 he h).elim
theorem TQ {o:Oper} {a:Act} {w:World} {next:Act->World->Prop} (hm:GH o.op=true) (hg:o.guard=none)
  (h:o.wp P a w next Q\/(o.asks P a w/\LetsOut Q)):∃v,Yields P ops o v a/\next (a.put o.dst v) w:=by
 obtain⟨dst,op,ty,pos,after,gd⟩:=o;cases op<;>simp only[GH,jH]at hm
 case move x=>exact D7 (v:=a.eval x) rfl hg h
 case assign x=>exact D7 (v:=a.eval x) rfl hg h
 case extract x k=>
  have key:(∃v,execOp a.eval ⟨dst,.extract x k,ty,pos,after,gd⟩=Sem.pure (.value v))\/∃e,execOp a.eval ⟨dst,.extract x k,ty,pos,after,gd⟩=Sem.halt (.stuck e):=by
   have h0:execOp a.eval ⟨dst,.extract x k,ty,pos,after,gd⟩=(Instr.extract (a.eval x) k).bind λv=>Sem.pure (.value v):=rfl;rw[h0];unfold Instr.extract;split
   ·split
    ·exact .inl ⟨_,rfl⟩
    ·exact .inr ⟨_,rfl⟩
   ·exact .inr ⟨_,rfl⟩
  rcases key with⟨v,hv⟩|⟨e,hv⟩
  ·exact D7 hv hg h
  ·rcases h with h|⟨h,_⟩
   ·unfold Oper.wp at h;rw[hv]at h;exact h.elim
   ·exact(U3 hv h).elim
theorem Ef (hs:Region.noSelect ops=true) (hQ:∀c a w d v,Q (.panic c) (Act.put a d v) w->Q (.panic c) a w):∀(l:List Nat) (listed:Array Bool) (a:Act) (w:World),Ck ops l listed=true->wpList P ops Q (fS ops l) a w->wpAny P .any ops Q l.length listed a w
 |[],listed,a,w,hB,h=>⟨by simpa[Ck]using hB,h⟩
 |i::rest,listed,a,w,hB,h=>by
  simp only[Ck,bG]at hB;obtain⟨hB,hrest⟩:=hB;cases ho:ops[i]? with
  |none=>rw[ho]at hB;cases hB
  |some o=>
   rw[ho]at hB;simp only[fS,ho]at h;unfold wpList at h;simp only[DL,pd,bG]at hB;rcases hB with hB|⟨⟨⟨hm,hg⟩,hc⟩,hf⟩
   ·refine wpAny_all hB (by simp) λj hj=>?_;simp only[oX]at hj;subst hj;unfold wpOp;simp only[ho];split
    ·rename_i hw;rw[cj hw]at h;exact h.imp (Oper.wp_mono λa' w' hh=>Ef hs hQ rest _ a' w' hrest hh) id
    ·rename_i hw;rw[bK hw]at h;exact Ef hs hQ rest _ _ w hrest h
   ·have hg':o.guard=none:=by simpa using hg
    rw[cj (by simp[Region.wanted,hg'])]at h;obtain⟨v,hy,hn⟩:=TQ (ops:=ops) hm hg' h;exact wpAny_take ho hs hf hc (λc a w=>hQ c a w _ _) hy (Ef hs hQ rest _ _ w hrest hn)
end
def Cut (C:Cx) (N:Nat) (ops:Array Oper) (L:List au) (Q':(Nat->Prop)->World->Exit->Act->World->Prop) (fuel:Nat) (listed:Array Bool) (st:lP):Prop:=
 ∀F w0 w a zs,mH C.G N F L w0 w a st zs->wpAny C.P .any ops (Q' F w0) fuel listed a w
def a8 (s:Sl) (dst:Option Nat) (x:Option AV):Sl:=match dst with
 |none=>s
 |some d=>λt=>if t=d then x else s t
def nT (C:Cx) (N:Nat) (L:List au) (ops:Array Oper) (o:Oper) (s:Sl) (x:Option AV) (δ:Nu):Prop:=
 cx N o.dst=true/\((kH ops o s=some true/\((∃y,bP C N o s L y/\x=some y/\δ=[])\/∃d cells,o.dst=some d/\fF C N o s L cells/\x=none/\δ=[(d,cells)]))\/
  (kH ops o s=some false/\x=some (.v undef)/\δ=[]))
def fresh (o:Oper) (W:Nu):Prop:=∀d,o.dst=some d->∀p∈W,p.1≠d
def rQ (C:Cx) (N:Nat) (L:List au) (ops:Array Oper) (Q':(Nat->Prop)->World->Exit->Act->World->Prop) (m:Nat):Nat->Array Bool->lP->Prop
 |0,listed,st=>Cut C N ops L Q' m listed st
 |n+1,listed,st=>Region.ready .any ops listed≠[]/\∀i∈Region.ready .any ops listed,∃o x δ,ops[i]? =some o/\fresh o st.2/\nT C N L ops o st.1 x δ/\
   rQ C N L ops Q' m n (listed.setIfInBounds i true) (a8 st.1 o.dst x,st.2++δ)
section
variable {C:Cx} {N:Nat} {L:List au} {ops:Array Oper} {Q':(Nat->Prop)->World->Exit->Act->World->Prop} {m:Nat}
theorem mT {s:Sl} {dst:Option Nat} {x:Option AV} {t:Nat} (h:∀d,dst=some d->t≠d):a8 s dst x t=s t:=by
 cases dst with
 |none=>rfl
 |some d=>simp[a8,h d rfl]
theorem Lf (s:Sl) {x y:Option Nat} (u v:Option AV) (h:∀d,x=some d->y≠some d):a8 (a8 s x u) y v=a8 (a8 s y v) x u:=by
 cases x with
 |none=>rfl
 |some d=>
  cases y with
  |none=>rfl
  |some e=>
   have hne:e≠d:=λhe=>h d rfl (by rw[he]);funext t;simp only[a8];by_cases h1:t=e
   ·subst h1;simp[hne]
   ·by_cases h2:t=d
    ·subst h2;simp[h1]
    ·simp[h1,h2]
theorem D1 {o:Oper} {t:Nat} (h:t∈tmpsOf o):t∈o.looksAt ops:=qv _ h
theorem vP {o:Oper} {s s':Sl} (h:∀t∈o.looksAt ops,s' t=s t):kH ops o s'=kH ops o s:=by
 unfold kH;cases hg:o.guard with
 |none=>rfl
 |some p=>
  obtain⟨j,want⟩:=p;simp only;cases hj:(ops[j]?).bind (·.dst)with
  |none=>rfl
  |some d=>
   have hd:d∈o.looksAt ops:=acj _ (by simp only[hg,hj];simp);simp only[h d hd]
theorem nT.congr {o:Oper} {s s':Sl} {x:Option AV} {δ:Nu} (h:nT C N L ops o s x δ) (he:∀t∈o.looksAt ops,s' t=s t):nT C N L ops o s' x δ:=by
 refine⟨h.1,?_⟩;rw[vP he];have ht:∀t∈tmpsOf o,s' t=s t:=λt ht=>he t (D1 ht);exact h.2.imp (λ⟨h1,h2⟩=>⟨h1,h2.imp (λ⟨x,g1,g2⟩=>⟨x,g1.congr ht,g2⟩) λ⟨d,cs,g0,g1,g2⟩=>⟨d,cs,g0,g1.congr ht,g2⟩⟩) id
theorem nT.fst {o:Oper} {s:Sl} {x:Option AV} {δ:Nu} (h:nT C N L ops o s x δ):∀p∈δ,o.dst=some p.1:=by
 rcases h.2 with⟨_,⟨y,_,_,rfl⟩|⟨d,cs,h0,_,_,rfl⟩⟩|⟨_,_,rfl⟩
 ·simp
 ·simpa using h0
 ·simp
theorem Lg:∀(n:Nat) (listed:Array Bool) (s:Sl) (W W':Nu),W.Perm W'->rQ C N L ops Q' m n listed (s,W)->rQ C N L ops Q' m n listed (s,W')
 |0,listed,s,W,W',hp,h=>λF w0 w a zs hd=>by
  obtain⟨zs',hd'⟩:=hd.perm hp.symm;exact h F w0 w a zs' hd'
 |n+1,listed,s,W,W',hp,h=>⟨h.1,λi hi=>by
  obtain⟨o,x,δ,h1,h2,h3,h4⟩:=h.2 i hi;exact⟨o,x,δ,h1,λd hd p hpm=>h2 d hd p (hp.mem_iff.2 hpm),h3,Lg n _ _ _ _ (hp.append_right δ) h4⟩⟩
theorem Uh {i:Nat} {oi:Oper} {R:Nat} (hi:ops[i]? =some oi):
  ∀(n:Nat) (listed:Array Bool) (pre:List Nat) (st:lP) (x:Option AV) (δ:Nu),pre.length=n+1->pre.Nodup->i∈pre->pJ ops listed->
   (∀j oj,ops[j]? =some oj->j≠i->listed.getD j true=false->reach ops R i j=false->oi.apart ops oj=true/\j∈pre)->
   i∈Region.ready .any ops listed->fresh oi st.2->nT C N L ops oi st.1 x δ->rQ C N L ops Q' m n (listed.setIfInBounds i true) (a8 st.1 oi.dst x,st.2++δ)->
   rQ C N L ops Q' m (n+1) listed st:=by
 intro n
 induction n with
 |zero=>
  intro listed pre st x δ hl hnd hip hc hfree hr hf hs H;refine⟨λh=>(by rw[h]at hr;cases hr),λj hj=>?_⟩;by_cases hji:j=i
  ·subst hji;exact⟨oi,x,δ,hi,hf,hs,H⟩
  ·exfalso;obtain⟨hjun,oj,hoj,hall⟩:=mem_ready.1 hj;have hnr:reach ops R i j=false:=by
    cases hre:reach ops R i j with
    |false=>rfl
    |true=>
     have h1:=Ki hc R i j hre λo ho e he hb=>by rw[hoj]at ho;cases ho;exact hall e he hb
     have h0:=(mem_ready.1 hr).1;rcases mN i listed.size with h'|h'
     ·simp[h']at h0 h1;rw[h0]at h1;cases h1
     ·simp[vL h']at h1
   have hjp:=(hfree j oj hoj hji hjun hnr).2
   match pre,hl,hip,hjp with
   |[p],_,hip,hjp=>simp at hip hjp;exact hji (hjp.trans hip.symm)
 |succ n ih=>
  intro listed pre st x δ hl hnd hip hc hfree hr hf hs H;refine⟨λh=>(by rw[h]at hr;cases hr),λj hj=>?_⟩;by_cases hji:j=i
  ·subst hji;exact⟨oi,x,δ,hi,hf,hs,H⟩
  ·obtain⟨oj,y,ε,hoj,hfj,hsj,Hj⟩:=H.2 j (ready_mono hj hji);obtain⟨hjun,oj',hoj',hall⟩:=mem_ready.1 hj;rw[hoj]at hoj';cases hoj';have hnr:reach ops R i j=false:=by
    cases hre:reach ops R i j with
    |false=>rfl
    |true=>
     have h1:=Ki hc R i j hre λo ho e he hb=>by rw[hoj]at ho;cases ho;exact hall e he hb
     have h0:=(mem_ready.1 hr).1;rcases mN i listed.size with h'|h'
     ·simp[h']at h0 h1;rw[h0]at h1;cases h1
     ·simp[vL h']at h1
   obtain⟨hap,hjp⟩:=hfree j oj hoj hji hjun hnr;obtain⟨a1,a2,a3⟩:=Oper.apart_spec hap;have hsj':nT C N L ops oj st.1 y ε:=hsj.congr λt ht=>(mT λd hd he=>a1 d hd (he▸ht)).symm;have hsi':nT C N L ops oi (a8 st.1 oj.dst y) x δ:=hs.congr λt ht=>mT λd hd he=>a3 d hd (he▸ht);refine⟨oj,y,ε,hoj,λd hd p hp=>hfj d hd p (qv _ hp),hsj',?_⟩;refine ih (listed.setIfInBounds j true) (pre.erase j) (a8 st.1 oj.dst y,st.2++ε) x δ (by rw[List.length_erase_of_mem hjp,hl];rfl) (hnd.erase j) ((ack (jK hji)).2 hip) (hc.set hj) ?_ (ready_mono hr (jK hji)) ?_ hsi' ?_
   ·intro k ok hk hki hun hno;have hjk:j≠k:=by
     intro hjk;subst hjk;have:j<listed.size:=by
      rcases mN j listed.size with h'|h'
      ·exact h'
      ·simp[vL h']at hjun
     simp[this]at hun
    rw[getD_set_ne true hjk]at hun;obtain⟨g1,g2⟩:=hfree k ok hk hki hun hno;exact⟨g1,(ack (jK hjk)).2 g2⟩
   ·intro d hd p hp;rcases cL.1 hp with hp|hp
    ·exact hf d hd p hp
    ·have:=hsj.fst p hp;intro he;exact a2 d hd (by rw[this,he])
   ·rw[S7 _ _ hji,<-Lf _ x y a2];refine Lg n _ _ _ _ ?_ Hj;rw[kB,kB];exact(DF).append_left _
theorem Av {w:World} {A:Nat->Prop} {a:Act} {s:Sl} (h:fN w A N a s) {o:Oper} {b:Bool} (hw:kH ops o s=some b):Region.wanted o (yielded ops a.tmps)=b:=by
 unfold kH at hw;unfold Region.wanted;cases hg:o.guard with
 |none=>simp only[hg]at hw⊢;simpa using hw
 |some p=>
  obtain⟨j,want⟩:=p;simp only[hg]at hw⊢;cases hj:(ops[j]?).bind (·.dst)with
  |none=>simp only[hj]at hw;simp only[aE]at hw;subst hw;simp[yielded,hj]
  |some d=>
   simp only[hj]at hw;have hget:∀u,(∃x,s d=some x/\Rel w A x u/\a.tmps.getD d undef=u)->a.tmps[d]? =some u:=by
    rintro u ⟨x,h1,_,h3⟩;have:=(h.2 d x h1).1;rw[<-h.1]at this;rw[DM]at h3;simp[this]at h3⊢;exact h3
   split at hw
   ·rename_i bb hs;simp only[aE]at hw;subst hw;have h1:=(h.2 d _ hs).2;simp only[Rel]at h1;have:=hget (.bool bb) ⟨_,hs,by simp only[Rel],h1⟩;simp only[yielded,hj,aq,this];cases bb<;>cases want<;>rfl
   ·rename_i tt hs;simp only[aE]at hw;subst hw;have h1:=(h.2 d _ hs).2;simp only[Rel]at h1;have:=hget (.tuple tt) ⟨_,hs,by simp only[Rel],h1⟩;simp[yielded,hj,this]
   ·cases hw
theorem od {F:Nat->Prop} {L W:List au}:Al (λb=>F b\/b∈ids W) L=Al F (L++W):=
 funext λb=>propext (by simp only[Al,cp,cL];constructor<;>(rintro ⟨h1,h2⟩;simp_all))
theorem bI.front {G:Gl} {w:World} {F:Nat->Prop} {L W:List au} (h:bI G w F (L++W)):bI G w (λb=>F b\/b∈ids W) L:=by
 have hA:Al (λb=>F b\/b∈ids W) L=Al F (L++W):=od;have hnd:=h.nodup;rw[cp,nV]at hnd;refine⟨λx hx=>by rw[hA];exact h.eN x (by simp[hx]),hnd.1,λb hb=>?_,λb hb=>?_,by rw[hA];exact h.cm⟩
 ·rintro (h1|h1)
  ·exact h.free b (by simp[cp,hb]) h1
  ·exact hnd.2.2 b hb b h1 rfl
 ·rcases hb with hb|hb
  ·exact h.bound b hb
  ·exact h.lt b (by simp[cp,hb])
theorem As {a:Act} {d:Nat} {v:Value} (h:d<a.tmps.size):(a.put (some d) v).tmps.getD d undef=v:=Kb _ _ _ h
theorem pe {a:Act} {dst:Option Nat} {t:Nat} {v:Value} (h:∀d,dst=some d->t≠d):(a.put dst v).tmps.getD t undef=a.tmps.getD t undef:=by
 cases dst with
 |none=>rfl
 |some d=>exact J' _ _ _ _ (jK (h d rfl))
theorem A9 {a:Act} {dst:Option Nat} {v:Value}:(a.put dst v).tmps.size=a.tmps.size:=by cases dst<;>simp[Act.put]
theorem w7 {a:Act} {dst:Option Nat} {v:Value}:(a.put dst v).defers=a.defers:=by cases dst<;>rfl
theorem mH.PD {G:Gl} {F:Nat->Prop} {w0 w w':World} {a:Act} {st:lP} {zs:List ((Nat×List AV)×Nat)} (h:mH G N F L w0 w a st zs) {o:Oper} (hd:cx N o.dst=true) (hf:fresh o st.2) {x:AV} {v:Value}
  (hv:Rel w' (Al F (L++cO zs)) x v) (hc:gX w w'):mH G N F L w0 w' (a.put o.dst v) (a8 st.1 o.dst (some x),st.2++[]) zs:=by
 have hk:=(hc.ext (L:=L++cO zs)).keeps (F:=F);refine⟨by rw[A9];exact h.size,by rw[w7];exact h.df,by simpa using h.eq,h.hp.later hc.2.2.2,λt y hy=>?_,λz hz=>?_,h.cls.trans hc,h.new⟩
 ·by_cases htd:o.dst=some t
  ·have htN:=AW hd t htd;rw[htd]at hy⊢;simp only[a8,if_true,aE]at hy;subst hy;exact⟨htN,by rw[As (by rw[h.size];exact htN)];exact hv⟩
  ·have hne:∀d,o.dst=some d->t≠d:=λd hd' he=>htd (by rw[hd',he]);have hy':a8 st.1 o.dst (some x) t=some y:=hy;rw[mT hne]at hy';obtain⟨h1,h2⟩:=h.sl t y hy';exact⟨h1,by rw[pe hne];exact h2.bo hk⟩
 ·obtain⟨h1,h2⟩:=h.nu z hz;refine⟨h1,?_⟩;rw[pe]
  ·exact h2
  ·intro d hd' he;exact hf d hd' z.1 (by rw[<-h.eq];exact dB.2 ⟨z,hz,rfl⟩) he
theorem mH.ZG {G:Gl} {F:Nat->Prop} {w0 w:World} {a:Act} {st:lP} {zs:List ((Nat×List AV)×Nat)} (h:mH G N F L w0 w a st zs) {o:Oper} {d:Nat} (hd:o.dst=some d) (hdN:d<N) (hf:fresh o st.2) {cells:List AV} {vs:List Value} {e:TypeId}
  (hv:aJ w (Al F (L++cO zs)) cells vs):mH G N F L w0 (w.alloc (.cells (List.toArray vs) e)) (a.put o.dst (.pointer (some ⟨w.heap.size,0,none⟩))) (a8 st.1 o.dst none,st.2++[(d,cells)]) (zs++[((d,cells),w.heap.size)]):=by
 have hc:gX w (w.alloc (.cells vs.toArray e)):=⟨⟨rfl,.of (bU _)⟩,rfl,rfl,by simp,λb hb=>lq w _ b hb⟩;have hents:cO (zs++[((d,cells),w.heap.size)])=cO zs++[.box w.heap.size cells]:=by simp[cO]
 have hext:=n9 w (.cells vs.toArray e) (L++cO zs) (.box w.heap.size cells) (by simp[au.ids]);have hkeep:=hext.keeps (F:=F);rw[kB,<-hents]at hkeep;refine⟨by rw[A9];exact h.size,by rw[w7];exact h.df,by simp[h.eq],?_,λt y hy=>?_,λz hz=>?_,h.cls.trans hc,λz hz=>?_⟩
 ·rw[hents,<-kB];refine h.hp.push (by simp) (λb hb=>lq w _ b hb) (by simp[au.ids]) (by simp[au.ids]) ?_;exact⟨e,vs,lX w _,by rw[kB,<-hents];exact hv.bo hkeep⟩
 ·by_cases htd:t=d
  ·subst htd;rw[hd]at hy;simp[a8]at hy
  ·have hne:∀d',o.dst=some d'->t≠d':=λd' hd' he=>htd (by rw[hd]at hd';cases hd';exact he);have hy':a8 st.1 o.dst none t=some y:=hy;rw[mT hne]at hy';obtain⟨h1,h2⟩:=h.sl t y hy';exact⟨h1,by rw[pe hne];exact h2.bo hkeep⟩
 ·rcases cL.1 hz with hz|hz
  ·obtain⟨h1,h2⟩:=h.nu z hz;refine⟨h1,?_⟩;rw[pe]
   ·exact h2
   ·intro d' hd' he;exact hf d' hd' z.1 (by rw[<-h.eq];exact dB.2 ⟨z,hz,rfl⟩) he
  ·simp only[oX]at hz;subst hz;rw[hd];exact⟨hdN,As (by rw[h.size];exact hdN)⟩
 ·rcases cL.1 hz with hz|hz
  ·exact h.new z hz
  ·simp only[oX]at hz;subst hz;exact h.cls.2.2.2.1
theorem Lh:∀(n:Nat) (listed:Array Bool) (st:lP),rQ C N L ops Q' m n listed st->Cut C N ops L Q' (n+m) listed st
 |0,listed,st,h=>by rw[oZ];exact h
 |n+1,listed,st,h=>λF w0 w a zs hd=>by
  rw[show n+1+m=(n+m)+1 by omega];refine⟨λh0=>absurd h0 h.1,λi hi=>?_⟩;obtain⟨o,x,δ,ho,hf,hs,hn⟩:=h.2 i hi;have ih:=Lh n _ _ hn F w0;have hsl:fN w (Al F (L++cO zs)) N a st.1:=⟨hd.size,hd.sl⟩;have hopd:lB w (Al (λb=>F b\/b∈ids (cO zs)) L) N a o st.1:=λt _ y hy=>by rw[od];exact hd.sl t y hy
  unfold wpOp;simp only[ho];obtain⟨hdst,hs⟩:=hs;rcases hs with⟨hw,hs⟩|⟨hw,rfl,rfl⟩
  ·rw[cj (Av hsl hw)];refine .inl ?_;rcases hs with⟨y,hp,rfl,rfl⟩|⟨d,cells,hdd,hp,rfl,rfl⟩
   ·refine hp _ w a hd.size hd.df hd.hp.front hopd _ _ λv w' hv hc=>?_;rw[od]at hv;exact ih w' _ zs (hd.PD hdst hf hv hc)
   ·refine hp _ w a hd.size hd.df hd.hp.front hopd _ _ λvs e hv=>?_;rw[od]at hv;exact ih _ _ _ (hd.ZG hdd (AW hdst d hdd) hf hv)
  ·rw[bK (by rw[Av hsl hw];simp)];exact ih w _ zs (hd.PD hdst hf (by simp only[Rel]) (gX.refl w))
end
def rL (C:Cx) (N:Nat) (L:List au) (ops:Array Oper) (Qe:lP->Prop):List Oper->lP->Prop
 |[],st=>Qe st
 |o::rest,st=>fresh o st.2/\∃x δ,nT C N L ops o st.1 x δ/\rL C N L ops Qe rest (a8 st.1 o.dst x,st.2++δ)
def GI (ops:Array Oper) (pre:List Nat) (listed:Array Bool) (i:Nat):Bool:=
 match ops[i]? with
 |none=>false
 |some oi=>(List.range ops.size).all λj=>j==i||listed.getD j true||(match ops[j]? with
   |some oj=>oi.apart ops oj&&pre.contains j
   |none=>true)||reach ops 3 i j
def fw:List Nat->Bool
 |[]=>true
 |x::r=>!r.contains x&&fw r
def Cy (ops:Array Oper):List Nat->Array Bool->Bool
 |[],_=>true
 |i::rest,listed=>(Region.ready .any ops listed).contains i&&GI ops (i::rest) listed i&&fw (i::rest)&&Cy ops rest (listed.setIfInBounds i true)
def kG (l:List Nat) (listed:Array Bool):Array Bool:=l.foldl (λq i=>q.setIfInBounds i true) listed
section
variable {C:Cx} {N:Nat} {L:List au} {ops:Array Oper} {Q':(Nat->Prop)->World->Exit->Act->World->Prop} {m:Nat}
theorem D8:∀{l:List Nat},fw l=true->l.Nodup
 |[],_=>by simp
 |x::r,h=>by
  simp only[fw,bG,lU]at h;rw[S8];exact⟨(λhx=>by have:=JW.2 hx;rw[h.1]at this;cases this),D8 h.2⟩
theorem L5:∀(l:List Nat) (listed:Array Bool) (st:lP),pJ ops listed->Cy ops l listed=true->(fS ops l).length=l.length->
  rL C N L ops (λst=>Cut C N ops L Q' m (kG l listed) st) (fS ops l) st->rQ C N L ops Q' m l.length listed st
 |[],listed,st,_,_,_,h=>h
 |i::rest,listed,st,hc,hB,hl,h=>by
  simp only[Cy,bG]at hB;obtain⟨⟨⟨hr,hf⟩,hnd⟩,hB⟩:=hB;have hr':i∈Region.ready .any ops listed:=by simpa using hr
  cases ho:ops[i]? with
  |none=>simp[GI,ho]at hf
  |some o=>
   simp only[fS,ho,fu]at hl h;obtain⟨h1,x,δ,h2,h3⟩:=h;refine Uh (R:=3) ho rest.length listed (i::rest) st x δ (by simp) (D8 hnd) (by simp) hc ?_ hr' h1 h2 ?_
   ·intro j oj hj hji hun hno;simp only[GI,ho,je,J1]at hf;have:=hf j (lS.1 hj).1;simp only[hj,DL,beq_iff_eq,hji,false_or,hun,hno,jH,or_false,bG]at this;exact⟨this.1,by simpa using this.2⟩
   ·exact L5 rest _ _ (hc.set hr') hB (by omega) (by simpa[kG]using h3)
theorem WM:pJ ops (Array.replicate ops.size false):=by
 intro j o _ h;simp[Array.getElem?_replicate]at h;split at h<;>simp at h
theorem En {Qe Qe':lP->Prop} (h:∀st,Qe st->Qe' st):∀{l:List Oper} {st:lP},rL C N L ops Qe l st->rL C N L ops Qe' l st
 |[],_,hh=>h _ hh
 |_::_,_,⟨h1,x,δ,h2,h3⟩=>⟨h1,x,δ,h2,En h h3⟩
def fW (n:Nat):List ((Nat×List AV)×Nat)->Sg
 |[]=>[]
 |z::zs=>(z.1.1,.own n z.2 0)::fW (n+1) zs
theorem sV {O:Sg}:∀{zs:List ((Nat×List AV)×Nat)} {n t:Nat} {x:AV},look (fW n zs++O) t=some x->(∃z∈zs,∃k,t=z.1.1/\x= .own k z.2 0)\/look O t=some x
 |[],_,_,_,h=> .inr h
 |z::zs,n,t,x,h=>by
  simp only[fW,jJ,look]at h;cases hb:Nat.beq z.1.1 t with
  |true=>
   rw[hb]at h;simp only[aE]at h;exact .inl ⟨z,by simp,n,(bC hb).symm,h.symm⟩
  |false=>
   rw[hb]at h;rcases sV h with⟨z',h1,h2⟩|h
   ·exact .inl ⟨z',by simp[h1],h2⟩
   ·exact .inr h
def iF:Nu->(List ((Nat×List AV)×Nat)->Prop)->Prop
 |[],P=>P []
 |p::W,P=>∀b:Nat,iF W λzs=>P ((p,b)::zs)
theorem AX:∀{W:Nu} {P:List ((Nat×List AV)×Nat)->Prop},iF W P->∀zs,zs.map (·.1)=W->P zs
 |[],P,h,zs,hz=>by
  cases zs with
  |nil=>exact h
  |cons _ _=>simp at hz
 |p::W,P,h,zs,hz=>by
  cases zs with
  |nil=>simp at hz
  |cons z zs=>
   simp only[dY,ll]at hz;obtain⟨h1,h2⟩:=hz;have:=AX (h z.2) zs h2;obtain⟨p',b⟩:=z;simp only at h1;subst h1;exact this
