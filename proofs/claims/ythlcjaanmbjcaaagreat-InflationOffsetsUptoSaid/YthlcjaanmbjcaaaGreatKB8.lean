/- The program logic, eighth part: make, elements of own rows, package-level arrays, regions whose order is open. -/
import Derived.Test.YthlcjaanmbjcaaaGreatKB7
import Derived.Deep.Quiet
set_option linter.all false
noncomputable section
namespace Go.Bw
open Go
section
variable {N:Nat} {Q:AQ} {Z:Sg} {O:List ag} {ops:Array Oper} {rest:List Oper} {E:Env} {w:World} {A:Nat->Prop} {a:Act}
theorem CN (z:List Value):∀n,aX w A z.length (List.replicate n (z.map .v)) (dQ n z)
 |0=>by simp[dQ,aX]
 |n+1=>by
  simp only[List.replicate_succ,dQ,aX];exact⟨z,_,rfl,by simp,jh z,CN z n⟩
theorem Dm (z:List Value):∀n m,dQ (n+m) z=dQ n z++dQ m z
 |0,m=>by simp[dQ]
 |n+1,m=>by rw[show n+1+m=(n+m)+1 by omega];simp[dQ,Dm z n m]
theorem aQ.make {d:Nat} {t:TypeId} {x y:Operand} {ty:TypeId} {pos:String} {after:Array Edge} {e k sz by' sz' by'':Nat} {z z':List Value} {td':TD} {kl kc:IntKind} {li ci:Int} (l c:Nat)
  (hb:c*by''<=140737488355328) (hl:l<=c) (hx:ev (look Z) x=some (.v (.int kl li))) (hli:li=(l:Int)) (hy:ev (look Z) y=some (.v (.int kc ci))) (hci:ci=(c:Int)) (ht:aM E.T t=some ⟨.slice e k,sz,by',z⟩) (hte:aM E.T e=some ⟨td',sz',by'',z'⟩)
  (hk:Nat.ble 1 k=true) (hby:Nat.ble 1 by''=true) (hd:Nat.blt d N=true)
  (kk:∀b,aQ E.toCx N ops rest Q ((d,.os O.length (some ⟨b,0,none⟩) l c)::Z) (O++[.row (.slice (some ⟨b,0,none⟩) l c) e k (List.replicate l (z'.map .v))])):aQ E.toCx N ops (⟨some d,.makeSlice t x y,ty,pos,after,none⟩::rest) Q Z O:=
 aQ.kj (R:=λr O'=>∃b,r= .os O.length (some ⟨b,0,none⟩) l c/\O'=O++[.row (.slice (some ⟨b,0,none⟩) l c) e k (List.replicate l (z'.map .v))]) rfl hd (λF a w hs=>by
  obtain⟨hu,hke,hh⟩:=iC (E.tok _ _ ht) rfl;obtain⟨_,ti,_,hi,_,hsz,hbb,zv,hz1,hz2⟩:=dt (E.tok _ _ hte);have hzl:=sD (E.tok _ _ hte);simp only at hsz hbb hz2 hzl;have hk:=cM hk;have hby:=cM hby;have hsize:ti.size=k:=by rw[hke];simp[eW,hi]
  have hzs:zv.cells.size=z'.length:=by have:=congrArg List.length hz2;simpa using this
  have hzk:z'.length=k:=by omega
  have hx':=aY hs.sg hx;have hy':=aY hs.sg hy;simp only[Rel]at hx' hy';subst hli;subst hci;have hcb:c<=140737488355328:=uW (uS c hby) hb;have hr:=run_make (P:=E.P) w t e ti zv hu hi hz1 kl kc (l:Int) (c:Int) (by omega) (by omega) (by rw[hbb,<-Int.natCast_mul,rS];omega) (by omega);simp only[lC]at hr;have hm:madeCells zv.cells (c*ti.size)=(dQ c z').toArray:=by
   apply fI;have:=D9 zv.cells c;rw[hzs,hzk,hz2]at this;simp only[madeCells,hsize];simpa[hzs,hzk]using this
  rw[hm]at hr;have hext:=iB w (.cells (dQ c z').toArray e) O (.row (.slice (some ⟨w.heap.size,0,none⟩) l c) e k (List.replicate l (z'.map .v))) (by simp[ag.ids,Value.ownBlock]);refine⟨.slice (some ⟨w.heap.size,0,none⟩) l c,_,_,_,⟨w.heap.size,rfl,rfl⟩,by simp[execOp,hx',hy',hr],by simp only[Rel],?_,hext⟩;refine hs.hp.push (by simp) (λb hb=>gb w _ b hb) (by simp[ag.ids,Value.ownBlock]) (by simp[ag.ids,Value.ownBlock]) ?_;refine⟨dQ l z',by rw[<-hzk];exact CN z' l,?_,.inr ⟨w.heap.size,c,_,by simp,lB _,gE w _,by simpa using hl,by simp only[maxLen];omega,?_,?_⟩⟩
  ·simp[pe,hzk]
  ·simp[pe,hzk]
  ·have:c=l+(c-l):=by omega
   rw[this,Dm];simp only[BG];rw[<-hzk,<-pe];exact JX)
  (λ_ _ ⟨b,h1,h2⟩=>by subst h1;subst h2;exact kk b)
theorem KM {tg:Nat} {o:Oper} {t:TypeId} {x ix:Operand} (ho:o.op= .indexAddr t x ix) {e k sz by':Nat} {z:List Value} {i:Nat} {a0:Option Addr} {n0 c0:Nat} {rows:List (List AV)} {kd:IntKind} {n:Int} (j:Nat) (ht:aM E.T t=some ⟨.slice e k,sz,by',z⟩) (hx:ev (look Z) x=some (.os tg a0 n0 c0)) (hi:nth O i=some (.row (.slice a0 n0 c0) e k rows)) (hix:ev (look Z) ix=some (.v (.int kd n)))
  (hj:n=(j:Int)) (hr:j<rows.length):kx E.toCx N o Z O (.oe i (.slice a0 n0 c0) (j*k)):=λF a w hs=>by
 obtain⟨hu,hke,hh⟩:=iC (E.tok _ _ ht) rfl;have h1:=aY hs.sg hx;have h2:=aY hs.sg hix;simp only[Rel]at h1 h2;subst hj;obtain⟨vs,h3,h4,h5⟩:=fg hs.hp hi;rcases h5 with⟨_,h0⟩|⟨g,cap,cur,hv,_,hg,hn,_⟩
 ·omega
 ·cases hv;refine⟨.pointer (some ⟨g,j*k,none⟩),by simp only[Rel];exact⟨g,_,_,rfl,rfl⟩,λw' _=>?_⟩;rw[hke];simp[execOp,ho,h1,h2,Instr.indexAt,asIntOf,run_underlying hu,hr,jm hh,Addr.add_lit]
theorem Kr {tg:Nat} {o:Oper} {t:TypeId} {p:Operand} (ho:o.op= .load t p) (j off:Nat) {i:Nat} {v:Value} {e k n:Nat} {rows:List (List AV)} {r:List AV} {x:AV} (hp:ev (look Z) p=some (.oe tg v n)) (hn:n=j*k+off) (hi:nth O i=some (.row v e k rows)) (hr:rows[j]? =some r) (hl:fD E.T t r off=some x):
  kx E.toCx N o Z O x:=λF a w hs=>by
 have h1:=aY hs.sg hp;simp only[Rel]at h1;obtain⟨g,len,cap,hv,h1⟩:=h1;obtain⟨vs,h2,h3⟩:=fg hs.hp hi;obtain⟨hrk,us,h4,h5⟩:=h2.get hr;have hlen:j*k+us.length<=vs.length:=by
  rw[h2.length,h4.length,hrk];have:j<rows.length:=(cT.1 hr).1
  calc j*k+k=(j+1)*k:=by rw[gB,uV]
   _<=rows.length*k:=BT k (by omega)
 subst hn;rcases h3.2 with⟨hvn,_⟩|⟨g',cap',cur,hvg,_,hg,_,_,_,htake⟩
 ·rw[hv]at hvn;cases hvn
 ·rw[hv]at hvg;cases hvg;have hb:g<w.heap.size:=(fZ.1 hg).1;obtain⟨val,h6,h7⟩:=LR (E:=E) (b:=g) (s:=j*k) hl h4;refine⟨val,h6,λw' hw'=>?_⟩;have:=h7 w' (λi u hiu=>by
   have h8:=h5 i u hiu;rw[<-htake,gV]at h8;split at h8
   ·have hc:cur[j*k+i]? =some u:=by simpa using h8
    simp[World.cell?,hw'.2 g hb,hg,hc]
   ·cases h8)
  simp[execOp,ho,h1,Instr.loadAt,Instr.sureAddr,this]
theorem aX.set {k:Nat}:∀{rows:List (List AV)} {vs us:List Value} {j:Nat} {r:List AV},aX w A k rows vs->j<rows.length->r.length=k->ax w A r us->aX w A k (rows.set j r) (cq vs (j*k) us)
 |[],_,_,_,_,_,hlt,_,_=>by simp at hlt
 |q::rs,vs,us,0,r,h,_,hk,hr=>by
  simp only[aX]at h;obtain⟨v1,v2,rfl,hq,h1,h2⟩:=h;simp only[rQ,aX,JY];refine⟨us,v2,?_,hk,hr,h2⟩;have hlen:us.length=v1.length:=by rw[hr.length,h1.length,hk,hq]
  have key:∀(us v1:List Value),us.length=v1.length->cq (v1++v2) 0 us=us++v2:=by
   intro us
   induction us with
   |nil=>intro v1 hl;have:v1=[]:=jI (by simpa using hl.symm);subst this;cases v2<;>simp[cq,over]
   |cons u us ih=>intro v1 hl;cases v1 with
    |nil=>simp at hl
    |cons x v1=>
     have:=ih v1 (by simpa using hl);simp only[gT];have h0:∀(l:List Value) (ys:List Value),cq l 0 ys=over l ys:=by intro l ys;cases l<;>rfl
     rw[h0]at this⊢;simp[over,this]
  exact key us v1 hlen
 |q::rs,vs,us,j+1,r,h,hj,hk,hr=>by
  simp only[aX]at h;obtain⟨v1,v2,rfl,hq,h1,h2⟩:=h;simp only[lA,aX];have hl1:v1.length=k:=by rw[h1.length,hq]
  refine⟨v1,cq v2 (j*k) us,?_,hq,h1,aX.set h2 (by simpa using hj) hk hr⟩;have key:∀(v1:List Value) (m:Nat),cq (v1++v2) (v1.length+m) us=v1++cq v2 m us:=by
   intro v1 m
   induction v1 with
   |nil=>simp
   |cons x v1 ih=>rw[iz,show v1.length+1+m=(v1.length+m)+1 by omega];simp[cq,ih]
  have:=key v1 (j*k);rw[hl1]at this;rw[<-this];congr 1;rw[gB];omega
theorem pd {D:Type}:∀{xs ys:List D} {p:Nat},p+ys.length<=xs.length->(cq xs p ys).length=xs.length
 |[],ys,p,h=>by
  have:ys=[]:=jI (by simp at h;simp[h.2]);subst this;rw[mU]
 |x::xs,[],p,_=>by rw[mU]
 |x::xs,y::ys,0,h=>by
  have h0:cq xs 0 ys=over xs ys:=by cases xs<;>rfl
  have:=pd (xs:=xs) (ys:=ys) (p:=0) (by simpa using h);rw[h0]at this;simp[cq,over,this]
 |x::xs,y::ys,p+1,h=>by
  simp only[cq,iz];rw[pd (by simp at h⊢;omega)]
theorem pj {D:Type}:∀{xs ys:List D} {p:Nat},p+ys.length<=xs.length->∀i,(cq xs p ys)[i]? =if p<=i/\i<p+ys.length then ys[i-p]? else xs[i]?
 |xs,[],p,_,i=>by rw[mU,cW (by simp only[kD];omega)]
 |[],y::ys,p,h,i=>by simp at h
 |x::xs,y::ys,0,h,i=>by
  have h0:cq xs 0 ys=over xs ys:=by cases xs<;>rfl
  have ih:=pj (xs:=xs) (ys:=ys) (p:=0) (by simpa using h);rw[h0]at ih;simp only[cq,over];cases i with
  |zero=>simp
  |succ i=>
   simp only[JZ,ih i,iz];by_cases hi:i<ys.length
   ·rw[cV (by omega),cV (by omega)];simp
   ·rw[cW (by omega),cW (by omega)]
 |x::xs,y::ys,p+1,h,i=>by
  simp only[cq];cases i with
  |zero=>simp
  |succ i=>
   simp only[JZ];rw[pj (by simp at h⊢;omega) i];by_cases hi:p<=i/\i<p+(y::ys).length
   ·rw[cV hi,cV (by omega)];congr 1;omega
   ·rw[cW hi,cW (by omega)]
theorem Cc {tg:Nat} {o:Oper} {t:TypeId} {p x:Operand} (ho:o.op= .store t p x) (j off:Nat) {i:Nat} {v:Value} {e k n:Nat} {rows:List (List AV)} {r r':List AV} {y:AV} {ti:TI} (hp:ev (look Z) p=some (.oe tg v n)) (hn:n=j*k+off) (hx:ev (look Z) x=some y) (hi:nth O i=some (.row v e k rows)) (hr:rows[j]? =some r)
  (ht:aM E.T t=some ti) (hk:Nat.beq (bD y).length ti.size=true) (h1:dE (bD y)=true) (hl:dM r off (bD y)=some r'):
  qN E.toCx N o Z O (O.set i (.row v e k (rows.set j r'))):=λF a w hs=>by
 have hp':=aY hs.sg hp;simp only[Rel]at hp';obtain⟨g,len,cap,hv,hp'⟩:=hp';have hy:=mT (aY hs.sg hx);obtain⟨l,rr,rfl,hset⟩:=lG hi;simp only[hset];obtain⟨vs,h2,h3⟩:=hs.hp.dw (.row v e k rows) (by simp);obtain⟨hrk,us,h4,h5⟩:=h2.get hr;have hjlt:j<rows.length:=(cT.1 hr).1;have hlen:=pf hl;have hyl:=hy.length;subst hn;obtain⟨h30,h3⟩:=h3;rcases h3 with⟨hvn,_⟩|⟨g',cap',cur,hvg,_,hg,hnc,hcm,hcs,htake⟩
 ·rw[hv]at hvn;cases hvn
 ·rw[hv]at hvg;cases hvg;have hvl:vs.length=rows.length*k:=h2.length;have hjk:(j+1)*k<=rows.length*k:=BT k (by omega);rw[gB,uV]at hjk;have hcurlen:vs.length<=cur.toList.length:=by rw[<-htake,o6];omega
  have hg':w.heap[g]? =some (.cells cur.toList.toArray e (0,0)):=by simpa using hg
  obtain⟨w',h6,h7,h8,h9,h10,h11,h12⟩:=u4 (P:=E.P) g e (a.eval x).cells.toList 0 (j*k+off) cur.toList w hg' (by omega) (sr h1 hy);have hids:∀c∈ag.ids (.row v e k (rows.set j r')),c∈ag.ids (.row v e k rows)\/w.heap.size<=c:=λc hc=> .inl hc;have hown:ag.ids (.row v e k rows)=[g]:=by simp[ag.ids,hv,Value.ownBlock]
  have hoth:∀c,c∉ag.ids (.row v e k rows)->w'.heap[c]? =w.heap[c]? :=λc hc=>h12 c (λe=>hc (by rw[hown,e];simp));have hkeep:b9 w (Al F (l++ag.row v e k rows::rr)) w' (Al F (l++ag.row v e k (rows.set j r')::rr)):=by
   refine⟨by omega,λc hc ha=>⟨?_,hoth c λhcb=>ha.2 (by simp[bI,b4,hcb])⟩⟩;simpa[Al,bI,b4,ag.ids]using ha
  refine⟨w',?_,?_,?_⟩
  ·have hsz:(a.eval x).cells.size=ti.size:=by
    have:=bf hk;rw[<-hyl]at this;simpa using this
   simp[execOp,ho,hp',Instr.storeAt,Instr.sureAddr,storeVar,vZ (E.tok _ _ ht),hsz,h6]
  ·refine hs.hp.lq (by omega) (λc _ hc=>hoth c hc) hids (by simp[ag.ids,hv,Value.ownBlock]) ?_;have hr'k:r'.length=k:=by rw[hlen.2,hrk]
   have hnew:=(pg hl h4 hy).aU hkeep;have husl:us.length=k:=by rw[h4.length,hrk]
   have hle1:off+(a.eval x).cells.toList.length<=us.length:=by omega
   have hsl:(cq us off (a.eval x).cells.toList).length=k:=by rw[pd hle1,husl]
   have hle2:j*k+(cq us off (a.eval x).cells.toList).length<=vs.length:=by omega
   have hle3:j*k+off+0+(a.eval x).cells.toList.length<=cur.toList.length:=by omega
   refine⟨cq vs (j*k) (cq us off (a.eval x).cells.toList),aX.set (h2.aU hkeep) hjlt hr'k hnew,?_,.inr ⟨g,cap,_,by simpa using hv,lB _,h7,by simpa using hnc,hcm,?_,?_⟩⟩
   ·rw[pd hle2,hvl];simp
   ·simp only[J0];rw[pd hle3];simpa using hcs
   ·apply BI;intro i;simp only[lx];rw[gV,pj hle2,pj hle1,pj hle3,hsl];have hvi:∀i,i<rows.length*k->vs[i]? =cur.toList[i]? :=λi hi=>by rw[<-htake,gV,cV hi]
    by_cases hi:i<rows.length*k
    ·rw[cV hi];by_cases h13:j*k<=i/\i<j*k+k
     ·rw[cV h13];by_cases h14:off<=i-j*k/\i-j*k<off+(a.eval x).cells.toList.length
      ·rw[cV h14,cV (by omega)];congr 1;omega
      ·rw[cW h14,cW (by omega),<-hvi i hi];have:i-j*k<us.length:=by omega
       have h15:=h5 (i-j*k) us[i-j*k] (by simp[this]);rw[show j*k+(i-j*k)=i by omega]at h15;rw[h15];simp[this]
     ·rw[cW h13,cW (by omega),hvi i hi]
    ·rw[cW hi,cW (by omega),uX (by omega)]
  ·refine⟨h8,h9,h10.1,by omega,λc _ hc=>hoth c λhcb=>hc (by simp[bI,b4,hcb]),λc hc=> .inl ?_,.of (Nat.le_of_eq h10.2.symm)⟩;simpa[bI,b4,ag.ids]using hc
def ow:Gl->Nat->Option (List Value)
 |[],_=>none
 |(k,x)::r,t=>match Nat.beq k t with
  |true=>some x
  |false=>ow r t
theorem D':∀{G:Gl} {t:Nat} {x:List Value},ow G t=some x->(t,x)∈G
 |[],_,_,h=>by simp[ow]at h
 |(k,y)::r,t,x,h=>by
  simp only[ow]at h;cases hb:Nat.beq k t with
  |true=>rw[hb]at h;simp only[ao]at h;subst h;rw[bf hb];simp
  |false=>rw[hb]at h;exact uZ _ (D' h)
theorem Ll {o:Oper} {t:TypeId} {p:Operand} (ho:o.op= .load t p) {g off:Nat} {vs:List Value} {u:Value} {d:TD} {k b:Nat} {z:List Value} (hp:ev (look Z) p=some (.v (.pointer (some ⟨g,off,none⟩)))) (hg:ow E.G g=some vs) (hu:vs[off]? =some u) (ht:aM E.T t=some ⟨d,k,b,z⟩) (hd:d.agg=false):
  kx E.toCx N o Z O (.v u):=λF a w hs=>by
 have h1:=aY hs.sg hp;simp only[Rel]at h1;obtain⟨_,e,fz,hh⟩:=hs.hp.eX _ (D' hg);have hb:g<w.heap.size:=(fZ.1 hh).1;refine⟨u,ef _,λw' hw'=>?_⟩;have hc:w'.cell? ⟨g,off,none⟩=some u:=lD ((hw'.2 g hb).trans hh) off u hu;have:=jg (P:=E.P) (v0:=u) (E.tok _ _ ht) (b:=g) (o:=off) (vs:=[u]) (w':=w')
  (λj v hj=>by cases j with
   |zero=>simp at hj;subst hj;simpa using hc
   |succ j=>simp at hj) (λhg'=>by simp only at hg';rw[hd]at hg';cases hg') (λ_=>rfl)
 simp only at this;simp[execOp,ho,h1,Instr.loadAt,Instr.sureAddr,this,hd]
theorem dm.sub {G:Gl} {O':List ag} (hsl:O'.Sublist O):dm G N Z O Z O':=λF w a hs=>by
 have hids:(ids O').Sublist (ids O):=by
  have:∀{l r:List ag},l.Sublist r->(ids l).Sublist (ids r):=by
   intro l r h
   induction h with
   |slnil=>exact BO _
   |cons a h ih=>rw[b4];exact ih.trans (Sa _ _)
   |cons_cons a h ih=>rw[b4,b4];exact Sc (BO _) ih
  exact this hsl
 have hsub:∀b∈ids O',b∈ids O:=λb hb=>hids.subset hb;have hkeep:b9 w (Al F O) w (Al F O'):=⟨bq _,λb _ h=>⟨⟨h.1,λhm=>h.2 (hsub b hm)⟩,rfl⟩⟩;exact⟨⟨hs.sg.aU hkeep,⟨λx hx=>(hs.hp.dw x (hsl.subset hx)).aU hkeep (λ_ _=>rfl),hids.nodup hs.hp.nodup,λb hb=>hs.hp.free b (hsub b hb),hs.hp.bound,hs.hp.eX.aU hkeep⟩,hs.df⟩,hsub⟩
theorem dm.trans {G:Gl} {Z' Z'':Sg} {O' O'':List ag} (h:dm G N Z O Z' O') (g:dm G N Z' O' Z'' O''):dm G N Z O Z'' O'':=λF w a hs=>
 let⟨h1,h2⟩:=h F w a hs;let⟨g1,g2⟩:=g F w a h1;⟨g1,λb hb=>h2 b (g2 b hb)⟩
theorem py {i:Nat} (h:i<4611686018427387904):IntKind.i64.wrap ((i:Int)+1)=((i+1:Nat):Int):=by
 rw[IntKind.wrap_i64];omega
end
def tmpsOf (o:Oper):List Nat:=o.op.operands.toList.filterMap λ| .tmp t=>some t|_=>none
def lq (s:Sl) (dst:Option Nat) (x:AV):Sl:=match dst with
 |none=>s
 |some d=>λt=>if t=d then some x else s t
def fb (w:World) (w':World):Prop:=(w'.os=w.os/\iY w w')/\w'.tape=w.tape/\w'.output=w.output/\gl w w'
theorem fb.refl (w:World):fb w w:=⟨⟨rfl,.of (bq _)⟩,rfl,rfl,gl.refl w⟩
theorem fb.ext {w w':World} {O:List ag} (h:fb w w'):Ext O w O w':=⟨h.1.1,h.2.1,h.2.2.1,h.2.2.2.1,λb hb _=>h.2.2.2.2 b hb,λ_ hb=> .inl hb,h.1.2⟩
theorem fb.trans {w w' w'':World} (h:fb w w') (g:fb w' w''):fb w w'':=
 ⟨⟨g.1.1.trans h.1.1,h.1.2.trans g.1.2⟩,g.2.1.trans h.2.1,g.2.2.1.trans h.2.2.1,uW h.2.2.2.1 g.2.2.2.1,λb hb=>(g.2.2.2.2 b (kE hb h.2.2.2.1)).trans (h.2.2.2.2 b hb)⟩
def g8 (w:World) (A:Nat->Prop) (N:Nat) (a:Act) (o:Oper) (s:Sl):Prop:=∀t∈tmpsOf o,∀y,s t=some y->t<N/\Rel w A y (a.tmps.getD t undef)
def bp (C:Cx) (N:Nat) (o:Oper) (s:Sl) (O:List ag) (x:AV):Prop:=
 ∀F w (a:Act),a.tmps.size=N->a.defers=[]->bh C.G w F O->g8 w (Al F O) N a o s->∀(K:Act->World->Prop) (Q:Exit->Act->World->Prop),
  (∀v w',Rel w' (Al F O) x v->fb w w'->K (a.put o.dst v) w')->o.wp C.P a w K Q
def dZ (C:Cx) (N:Nat) (o:Oper) (s:Sl) (O:List ag) (cells:List AV):Prop:=
 ∀F w (a:Act),a.tmps.size=N->a.defers=[]->bh C.G w F O->g8 w (Al F O) N a o s->∀(K:Act->World->Prop) (Q:Exit->Act->World->Prop),
  (∀vs e,ax w (Al F O) cells vs->K (a.put o.dst (.pointer (some ⟨w.heap.size,0,none⟩))) (w.alloc (.cells (List.toArray vs) e)))->o.wp C.P a w K Q
section
variable {C:Cx} {N:Nat} {o:Oper} {s s':Sl} {O O':List ag} {x:AV} {R:AV->List ag->Prop}
theorem g8.congr {w:World} {A:Nat->Prop} {a:Act} (h:g8 w A N a o s') (he:∀t∈tmpsOf o,s' t=s t):g8 w A N a o s:=λt ht y hy=>h t ht y (by rw[he t ht];exact hy)
theorem bp.congr (h:bp C N o s O x) (he:∀t∈tmpsOf o,s' t=s t):bp C N o s' O x:=λF w a h1 h2 h3 h4=>h F w a h1 h2 h3 (h4.congr he)
theorem dZ.congr {cells:List AV} (h:dZ C N o s O cells) (he:∀t∈tmpsOf o,s' t=s t):dZ C N o s' O cells:=λF w a h1 h2 h3 h4=>h F w a h1 h2 h3 (h4.congr he)
theorem bh.later {G:Gl} {w w':World} {F:Nat->Prop} {O:List ag} (h:bh G w F O) (hl:gl w w'):bh G w' F O:=by
 have hk:b9 w (Al F O) w' (Al F O):=⟨hl.1,λb hb ha=>⟨ha,hl.2 b hb⟩⟩;exact⟨λx hx=>(h.dw x hx).aU hk (λb hb=>hl.2 b ((h.dw x hx).lt b hb)),h.nodup,h.free,λb hb=>kE (h.bound b hb) hl.1,h.eX.aU hk⟩
end
def gG (ops:Array Oper) (o:Oper) (s:Sl):Option Bool:=match o.guard with
 |none=>some true
 |some (j,want)=>match(ops[j]?).bind (·.dst)with
  |none=>some false
  |some d=>match s d with
   |some (.v (.bool b))=>some (b==want)
   |some (.v (.tuple _))=>some false
   |_=>none
abbrev iu:=Sl×List (Nat×List AV)
abbrev Nu:=List (Nat×List AV)
def cm (zs:List ((Nat×List AV)×Nat)):List ag:=zs.map λz=> .box z.2 z.1.2
structure ja (G:Gl) (N:Nat) (F:Nat->Prop) (O:List ag) (w0 w:World) (a:Act) (st:iu) (zs:List ((Nat×List AV)×Nat)):Prop where
 size:a.tmps.size=N
 df:a.defers=[]
 eq:zs.map (·.1)=st.2
 hp:bh G w F (O++cm zs)
 sl:∀t x,st.1 t=some x->t<N/\Rel w (Al F (O++cm zs)) x (a.tmps.getD t undef)
 nu:∀z∈zs,z.1.1<N/\a.tmps.getD z.1.1 undef= .pointer (some ⟨z.2,0,none⟩)
 cls:fb w0 w
 new:∀z∈zs,w0.heap.size<=z.2
theorem J9 {D β:Type} (f:D->β) {W W':List β} (h:W.Perm W'):∀zs:List D,zs.map f=W->∃zs',zs.Perm zs'/\zs'.map f=W':=by
 induction h with
 |nil=>intro zs h;exact⟨zs,.refl _,h⟩
 |cons x _ ih=>
  intro zs h;cases zs with
  |nil=>cases h
  |cons z zs=>
   simp only[cA,jb]at h;obtain⟨zs',h1,h2⟩:=ih zs h.2;exact⟨z::zs',h1.cons z,by simp[h.1,h2]⟩
 |swap x y l=>
  intro zs h
  match zs,h with
  |z1::z2::zs,h=>
   simp only[cA,jb]at h;exact⟨z2::z1::zs,.swap _ _ _,by simp[h.1,h.2.1,h.2.2]⟩
 |trans _ _ ih1 ih2=>
  intro zs h;obtain⟨z1,h1,h2⟩:=ih1 zs h;obtain⟨z2,h3,h4⟩:=ih2 z1 h2;exact⟨z2,h1.trans h3,h4⟩
theorem px {l r:List ag} (h:l.Perm r):(ids l).Perm (ids r):=h.flatMap_right _
theorem lP {F:Nat->Prop} {l r:List ag} (h:l.Perm r):Al F l=Al F r:=funext λb=>propext (by unfold Al;rw[(px h).mem_iff])
theorem bh.perm {G:Gl} {w:World} {F:Nat->Prop} {l r:List ag} (hp:l.Perm r) (h:bh G w F l):bh G w F r:=
 ⟨λx hx=>by rw[<-lP hp];exact h.dw x (hp.mem_iff.2 hx),(px hp).nodup_iff.1 h.nodup,λb hb=>h.free b ((px hp).mem_iff.2 hb),h.bound,by rw[<-lP hp];exact h.eX⟩
theorem ja.perm {G:Gl} {N:Nat} {F:Nat->Prop} {O:List ag} {w0 w:World} {a:Act} {s:Sl} {W W':Nu} {zs:List ((Nat×List AV)×Nat)} (h:ja G N F O w0 w a (s,W) zs) (hp:W.Perm W'):
  ∃zs',ja G N F O w0 w a (s,W') zs':=by
 obtain⟨zs',h1,h2⟩:=J9 (·.1) hp zs h.eq;have he:(O++cm zs).Perm (O++cm zs'):=(h1.map _).append_left O;exact⟨zs',h.size,h.df,h2,h.hp.perm he,λt x hx=>by rw[<-lP he];exact h.sl t x hx,λz hz=>h.nu z (h1.mem_iff.2 hz),h.cls,λz hz=>h.new z (h1.mem_iff.2 hz)⟩
def fwd (i:Nat):List Oper->List Bool->List Bool
 |[],m=>m
 |o::r,m=>fwd i r (m++[o.after.any λe=>Region.binds .any e&&(Nat.beq e.on i||m.getD e.on false)])
def reach (ops:Array Oper) (_:Nat) (i j:Nat):Bool:=(fwd i ops.toList []).getD j false
def kV (ops:Array Oper) (listed:Array Bool):Prop:=∀j o,ops[j]? =some o->listed.getD j false=true->∀e∈o.after,Region.binds .any e=true->listed.getD e.on false=true
theorem wL {l:List Bool} {j:Nat} (h:l.length<=j):l.getD j false=false:=by simp[List.getD,uX h]
theorem CM {ops:Array Oper} {listed:Array Bool} (hc:kV ops listed) {i:Nat}:∀(l:List Oper) (m:List Bool) (pre:List Oper),ops.toList=pre++l->m.length=pre.length->
  (∀j,m.getD j false=true->∀o,ops[j]? =some o->(∀e∈o.after,Region.binds .any e=true->listed.getD e.on false=true)->listed.getD i false=true)->
  ∀j,(fwd i l m).getD j false=true->∀o,ops[j]? =some o->(∀e∈o.after,Region.binds .any e=true->listed.getD e.on false=true)->listed.getD i false=true
 |[],_,_,_,_,h=>h
 |x::l,m,pre,hops,hlen,h=>by
  refine CM hc l _ (pre++[x]) (by simp[hops]) (by simp[hlen]) λj hj o ho he=>?_;rcases Nat.lt_trichotomy j m.length with hlt|heq|hgt
  ·exact h j (by simpa[List.getD,mJ hlt]using hj) o ho he
  ·subst heq;have hx:ops[m.length]? =some x:=by
    rw[<-Array.getElem?_toList,hops,hlen];simp
   rw[hx]at ho;cases ho;have hj:(x.after.any λe=>Region.binds .any e&&(Nat.beq e.on i||m.getD e.on false))=true:=by
    simpa using hj
   obtain⟨e,hem,hb⟩:=Array.any_eq_true'.1 hj;simp only[bn,rN]at hb;obtain⟨hb,hb2⟩:=hb;have hl:=he e hem hb;rcases hb2 with hb2|hb2
   ·rw[<-bf hb2];exact hl
   ·have hlt:e.on<m.length:=by
     rcases je e.on m.length with h1|h1
     ·exact h1
     ·rw[wL h1]at hb2;cases hb2
    have hs:e.on<ops.size:=by
     rw[<-rM,hops,ly];omega
    exact h e.on hb2 ops[e.on] (by simp[hs]) λe' he' hb'=>hc e.on ops[e.on] (by simp[hs]) hl e' he' hb'
  ·rw[wL (by simp;omega)]at hj;cases hj
theorem Ce {ops:Array Oper} {listed:Array Bool} (hc:kV ops listed) (n i j:Nat) (h:reach ops n i j=true) (hj:∀o,ops[j]? =some o->∀e∈o.after,Region.binds .any e=true->listed.getD e.on false=true):listed.getD i false=true:=by
 unfold reach at h;cases ho:ops[j]? with
 |none=>
  have hlen:∀(l:List Oper) (m:List Bool),(fwd i l m).length=m.length+l.length:=by
   intro l
   induction l with
   |nil=>intro m;simp[fwd]
   |cons x l ih=>intro m;simp[fwd,ih];omega
  have hge:ops.size<=j:=by simpa using ho
  rw[wL (by rw[hlen];simp;omega)]at h;cases h
 |some o=>exact CM hc ops.toList [] [] rfl rfl (λj hj=>by simp at hj) j h o ho (hj o ho)
theorem kV.set {ops:Array Oper} {listed:Array Bool} {i:Nat} (hc:kV ops listed) (hr:i∈Region.ready .any ops listed):kV ops (listed.setIfInBounds i true):=by
 intro j o ho hl e he hb;by_cases hji:j=i
 ·subst hji;obtain⟨_,o',ho',hall⟩:=mem_ready.1 hr;rw[ho]at ho';cases ho';exact getD_set_true (hall e he hb)
 ·rw[getD_set_ne false (ga hji)]at hl;exact getD_set_true (hc j o ho hl e he hb)
def xK:Op->Bool
 | .move _=>true
 | .assign _=>true
 | .extract _ _=>true
 |_=>false
def tK (ops:Array Oper):List Nat->Array Bool->Bool
 |[],listed=>(Region.ready .any ops listed).isEmpty
 |i::rest,listed=>(match ops[i]? with
   |some o=>decide (Region.ready .any ops listed=[i])||(xK o.op&&o.guard.isNone&&(Region.ready .any ops listed).contains i&&Region.free .any ops listed i)
   |none=>false)&&tK ops rest (listed.setIfInBounds i true)
def ep (ops:Array Oper):List Nat->List Oper
 |[]=>[]
 |i::r=>match ops[i]? with
  |some o=>o::ep ops r
  |none=>ep ops r
section
variable {P:Program} {ops:Array Oper} {Q:Exit->Act->World->Prop}
theorem Lq {o:Oper} {a:Act} {w:World} {n:Next} (he:execOp a.eval o=Sem.pure n) (h:o.asks P a w):False:=by
 have h1:=h.1;rw[he]at h1;have h2:noRoomEvent∈(#[]:Array Event):=h1;simp at h2
theorem Lr {o:Oper} {a:Act} {w:World} {n:Halt} (he:execOp a.eval o=Sem.halt n) (h:o.asks P a w):False:=by
 have h1:=h.1;rw[he]at h1;have h2:noRoomEvent∈(#[]:Array Event):=h1;simp at h2
theorem vj {o:Oper} {a:Act} {w:World} {v:Value} {next:Act->World->Prop} (he:execOp a.eval o=Sem.pure (.value v)) (hg:o.guard=none)
  (h:o.wp P a w next Q\/(o.asks P a w/\LetsOut Q)):∃v,Yields P ops o v a/\next (a.put o.dst v) w:=by
 have hw:Region.wanted o (yielded ops a.tmps)=true:=by simp[Region.wanted,hg]
 have hr:∀w,(execOp a.eval o).run P w= .ok (.value v) w:=λw=>by rw[he];rfl
 rcases h with h|⟨h,_⟩
 ·refine⟨v,.inl ⟨hw,hr⟩,?_⟩;unfold Oper.wp at h;rw[hr w,Oper.upon_value]at h;exact h
 ·exact(Lq he h).elim
theorem Kt {o:Oper} {a:Act} {w:World} {next:Act->World->Prop} (hm:xK o.op=true) (hg:o.guard=none)
  (h:o.wp P a w next Q\/(o.asks P a w/\LetsOut Q)):∃v,Yields P ops o v a/\next (a.put o.dst v) w:=by
 obtain⟨dst,op,ty,pos,after,gd⟩:=o;cases op<;>simp only[xK,fY]at hm
 case move x=>exact vj (v:=a.eval x) rfl hg h
 case assign x=>exact vj (v:=a.eval x) rfl hg h
 case extract x k=>
  have key:(∃v,execOp a.eval ⟨dst,.extract x k,ty,pos,after,gd⟩=Sem.pure (.value v))\/∃e,execOp a.eval ⟨dst,.extract x k,ty,pos,after,gd⟩=Sem.halt (.stuck e):=by
   have h0:execOp a.eval ⟨dst,.extract x k,ty,pos,after,gd⟩=(Instr.extract (a.eval x) k).bind λv=>Sem.pure (.value v):=rfl;rw[h0];unfold Instr.extract;split
   ·split
    ·exact .inl ⟨_,rfl⟩
    ·exact .inr ⟨_,rfl⟩
   ·exact .inr ⟨_,rfl⟩
  rcases key with⟨v,hv⟩|⟨e,hv⟩
  ·exact vj hv hg h
  ·rcases h with h|⟨h,_⟩
   ·unfold Oper.wp at h;rw[hv]at h;exact h.elim
   ·exact(Lr hv h).elim
theorem vy (hs:Region.noSelect ops=true) (hQ:∀c a w d v,Q (.panic c) (Act.put a d v) w->Q (.panic c) a w):∀(l:List Nat) (listed:Array Bool) (a:Act) (w:World),tK ops l listed=true->wpList P ops Q (ep ops l) a w->wpAny P .any ops Q l.length listed a w
 |[],listed,a,w,hB,h=>⟨by simpa[tK]using hB,h⟩
 |i::rest,listed,a,w,hB,h=>by
  simp only[tK,bn]at hB;obtain⟨hB,hrest⟩:=hB;cases ho:ops[i]? with
  |none=>rw[ho]at hB;cases hB
  |some o=>
   rw[ho]at hB;simp only[ep,ho]at h;unfold wpList at h;simp only[rN,jc,bn]at hB;rcases hB with hB|⟨⟨⟨hm,hg⟩,hc⟩,hf⟩
   ·refine wpAny_all hB (by simp) λj hj=>?_;simp only[kC]at hj;subst hj;unfold wpOp;simp only[ho];split
    ·rename_i hw;rw[cV hw]at h;exact h.imp (Oper.wp_mono λa' w' hh=>vy hs hQ rest _ a' w' hrest hh) id
    ·rename_i hw;rw[cW hw]at h;exact vy hs hQ rest _ _ w hrest h
   ·have hg':o.guard=none:=by simpa using hg
    rw[cV (by simp[Region.wanted,hg'])]at h;obtain⟨v,hy,hn⟩:=Kt (ops:=ops) hm hg' h;exact wpAny_take ho hs hf hc (λc a w=>hQ c a w _ _) hy (vy hs hQ rest _ _ w hrest hn)
end
def Cut (C:Cx) (N:Nat) (ops:Array Oper) (O:List ag) (Q':(Nat->Prop)->World->Exit->Act->World->Prop) (fuel:Nat) (listed:Array Bool) (st:iu):Prop:=
 ∀F w0 w a zs,ja C.G N F O w0 w a st zs->wpAny C.P .any ops (Q' F w0) fuel listed a w
def aO (s:Sl) (dst:Option Nat) (x:Option AV):Sl:=match dst with
 |none=>s
 |some d=>λt=>if t=d then x else s t
def jH (C:Cx) (N:Nat) (O:List ag) (ops:Array Oper) (o:Oper) (s:Sl) (x:Option AV) (δ:Nu):Prop:=
 bE N o.dst=true/\((gG ops o s=some true/\((∃y,bp C N o s O y/\x=some y/\δ=[])\/∃d cells,o.dst=some d/\dZ C N o s O cells/\x=none/\δ=[(d,cells)]))\/
  (gG ops o s=some false/\x=some (.v undef)/\δ=[]))
def fresh (o:Oper) (W:Nu):Prop:=∀d,o.dst=some d->∀p∈W,p.1≠d
def mu (C:Cx) (N:Nat) (O:List ag) (ops:Array Oper) (Q':(Nat->Prop)->World->Exit->Act->World->Prop) (m:Nat):Nat->Array Bool->iu->Prop
 |0,listed,st=>Cut C N ops O Q' m listed st
 |n+1,listed,st=>Region.ready .any ops listed≠[]/\∀i∈Region.ready .any ops listed,∃o x δ,ops[i]? =some o/\fresh o st.2/\jH C N O ops o st.1 x δ/\
   mu C N O ops Q' m n (listed.setIfInBounds i true) (aO st.1 o.dst x,st.2++δ)
section
variable {C:Cx} {N:Nat} {O:List ag} {ops:Array Oper} {Q':(Nat->Prop)->World->Exit->Act->World->Prop} {m:Nat}
theorem jj {s:Sl} {dst:Option Nat} {x:Option AV} {t:Nat} (h:∀d,dst=some d->t≠d):aO s dst x t=s t:=by
 cases dst with
 |none=>rfl
 |some d=>simp[aO,h d rfl]
theorem Dj (s:Sl) {x y:Option Nat} (u v:Option AV) (h:∀d,x=some d->y≠some d):aO (aO s x u) y v=aO (aO s y v) x u:=by
 cases x with
 |none=>rfl
 |some d=>
  cases y with
  |none=>rfl
  |some e=>
   have hne:e≠d:=λhe=>h d rfl (by rw[he]);funext t;simp only[aO];by_cases h1:t=e
   ·subst h1;simp[hne]
   ·by_cases h2:t=d
    ·subst h2;simp[h1]
    ·simp[h1,h2]
theorem vc {o:Oper} {t:Nat} (h:t∈tmpsOf o):t∈o.looksAt ops:=lv _ h
theorem pc {o:Oper} {s s':Sl} (h:∀t∈o.looksAt ops,s' t=s t):gG ops o s'=gG ops o s:=by
 unfold gG;cases hg:o.guard with
 |none=>rfl
 |some p=>
  obtain⟨j,want⟩:=p;simp only;cases hj:(ops[j]?).bind (·.dst)with
  |none=>rfl
  |some d=>
   have hd:d∈o.looksAt ops:=R2 _ (by simp only[hg,hj];simp);simp only[h d hd]
theorem jH.congr {o:Oper} {s s':Sl} {x:Option AV} {δ:Nu} (h:jH C N O ops o s x δ) (he:∀t∈o.looksAt ops,s' t=s t):jH C N O ops o s' x δ:=by
 refine⟨h.1,?_⟩;rw[pc he];have ht:∀t∈tmpsOf o,s' t=s t:=λt ht=>he t (vc ht);exact h.2.imp (λ⟨h1,h2⟩=>⟨h1,h2.imp (λ⟨x,g1,g2⟩=>⟨x,g1.congr ht,g2⟩) λ⟨d,cs,g0,g1,g2⟩=>⟨d,cs,g0,g1.congr ht,g2⟩⟩) id
theorem jH.fst {o:Oper} {s:Sl} {x:Option AV} {δ:Nu} (h:jH C N O ops o s x δ):∀p∈δ,o.dst=some p.1:=by
 rcases h.2 with⟨_,⟨y,_,_,rfl⟩|⟨d,cs,h0,_,_,rfl⟩⟩|⟨_,_,rfl⟩
 ·simp
 ·simpa using h0
 ·simp
theorem Dk:∀(n:Nat) (listed:Array Bool) (s:Sl) (W W':Nu),W.Perm W'->mu C N O ops Q' m n listed (s,W)->mu C N O ops Q' m n listed (s,W')
 |0,listed,s,W,W',hp,h=>λF w0 w a zs hd=>by
  obtain⟨zs',hd'⟩:=hd.perm hp.symm;exact h F w0 w a zs' hd'
 |n+1,listed,s,W,W',hp,h=>⟨h.1,λi hi=>by
  obtain⟨o,x,δ,h1,h2,h3,h4⟩:=h.2 i hi;exact⟨o,x,δ,h1,λd hd p hpm=>h2 d hd p (hp.mem_iff.2 hpm),h3,Dk n _ _ _ _ (hp.append_right δ) h4⟩⟩
theorem KN {i:Nat} {oi:Oper} {R:Nat} (hi:ops[i]? =some oi):
  ∀(n:Nat) (listed:Array Bool) (pre:List Nat) (st:iu) (x:Option AV) (δ:Nu),pre.length=n+1->pre.Nodup->i∈pre->kV ops listed->
   (∀j oj,ops[j]? =some oj->j≠i->listed.getD j true=false->reach ops R i j=false->oi.apart ops oj=true/\j∈pre)->
   i∈Region.ready .any ops listed->fresh oi st.2->jH C N O ops oi st.1 x δ->mu C N O ops Q' m n (listed.setIfInBounds i true) (aO st.1 oi.dst x,st.2++δ)->
   mu C N O ops Q' m (n+1) listed st:=by
 intro n
 induction n with
 |zero=>
  intro listed pre st x δ hl hnd hip hc hfree hr hf hs H;refine⟨λh=>(by rw[h]at hr;cases hr),λj hj=>?_⟩;by_cases hji:j=i
  ·subst hji;exact⟨oi,x,δ,hi,hf,hs,H⟩
  ·exfalso;obtain⟨hjun,oj,hoj,hall⟩:=mem_ready.1 hj;have hnr:reach ops R i j=false:=by
    cases hre:reach ops R i j with
    |false=>rfl
    |true=>
     have h1:=Ce hc R i j hre λo ho e he hb=>by rw[hoj]at ho;cases ho;exact hall e he hb
     have h0:=(mem_ready.1 hr).1;rcases je i listed.size with h'|h'
     ·simp[h']at h0 h1;rw[h0]at h1;cases h1
     ·simp[o9 h']at h1
   have hjp:=(hfree j oj hoj hji hjun hnr).2
   match pre,hl,hip,hjp with
   |[p],_,hip,hjp=>simp at hip hjp;exact hji (hjp.trans hip.symm)
 |succ n ih=>
  intro listed pre st x δ hl hnd hip hc hfree hr hf hs H;refine⟨λh=>(by rw[h]at hr;cases hr),λj hj=>?_⟩;by_cases hji:j=i
  ·subst hji;exact⟨oi,x,δ,hi,hf,hs,H⟩
  ·obtain⟨oj,y,ε,hoj,hfj,hsj,Hj⟩:=H.2 j (ready_mono hj hji);obtain⟨hjun,oj',hoj',hall⟩:=mem_ready.1 hj;rw[hoj]at hoj';cases hoj';have hnr:reach ops R i j=false:=by
    cases hre:reach ops R i j with
    |false=>rfl
    |true=>
     have h1:=Ce hc R i j hre λo ho e he hb=>by rw[hoj]at ho;cases ho;exact hall e he hb
     have h0:=(mem_ready.1 hr).1;rcases je i listed.size with h'|h'
     ·simp[h']at h0 h1;rw[h0]at h1;cases h1
     ·simp[o9 h']at h1
   obtain⟨hap,hjp⟩:=hfree j oj hoj hji hjun hnr;obtain⟨a1,a2,a3⟩:=Oper.apart_spec hap;have hsj':jH C N O ops oj st.1 y ε:=hsj.congr λt ht=>(jj λd hd he=>a1 d hd (he▸ht)).symm;have hsi':jH C N O ops oi (aO st.1 oj.dst y) x δ:=hs.congr λt ht=>jj λd hd he=>a3 d hd (he▸ht);refine⟨oj,y,ε,hoj,λd hd p hp=>hfj d hd p (lv _ hp),hsj',?_⟩;refine ih (listed.setIfInBounds j true) (pre.erase j) (aO st.1 oj.dst y,st.2++ε) x δ (by rw[List.length_erase_of_mem hjp,hl];rfl) (hnd.erase j) ((Sj (ga hji)).2 hip) (hc.set hj) ?_ (ready_mono hr (ga hji)) ?_ hsi' ?_
   ·intro k ok hk hki hun hno;have hjk:j≠k:=by
     intro hjk;subst hjk;have:j<listed.size:=by
      rcases je j listed.size with h'|h'
      ·exact h'
      ·simp[o9 h']at hjun
     simp[this]at hun
    rw[getD_set_ne true hjk]at hun;obtain⟨g1,g2⟩:=hfree k ok hk hki hun hno;exact⟨g1,(Sj (ga hjk)).2 g2⟩
   ·intro d hd p hp;rcases ck.1 hp with hp|hp
    ·exact hf d hd p hp
    ·have:=hsj.fst p hp;intro he;exact a2 d hd (by rw[this,he])
   ·rw[JV _ _ hji,<-Dj _ x y a2];refine Dk n _ _ _ _ ?_ Hj;rw[gU,gU];exact(uP).append_left _
theorem rX {w:World} {A:Nat->Prop} {a:Act} {s:Sl} (h:dN w A N a s) {o:Oper} {b:Bool} (hw:gG ops o s=some b):Region.wanted o (yielded ops a.tmps)=b:=by
 unfold gG at hw;unfold Region.wanted;cases hg:o.guard with
 |none=>simp only[hg]at hw⊢;simpa using hw
 |some p=>
  obtain⟨j,want⟩:=p;simp only[hg]at hw⊢;cases hj:(ops[j]?).bind (·.dst)with
  |none=>simp only[hj]at hw;simp only[ao]at hw;subst hw;simp[yielded,hj]
  |some d=>
   simp only[hj]at hw;have hget:∀u,(∃x,s d=some x/\Rel w A x u/\a.tmps.getD d undef=u)->a.tmps[d]? =some u:=by
    rintro u ⟨x,h1,_,h3⟩;have:=(h.2 d x h1).1;rw[<-h.1]at this;rw[uY]at h3;simp[this]at h3⊢;exact h3
   split at hw
   ·rename_i bb hs;simp only[ao]at hw;subst hw;have h1:=(h.2 d _ hs).2;simp only[Rel]at h1;have:=hget (.bool bb) ⟨_,hs,by simp only[Rel],h1⟩;simp only[yielded,hj,aP,this];cases bb<;>cases want<;>rfl
   ·rename_i tt hs;simp only[ao]at hw;subst hw;have h1:=(h.2 d _ hs).2;simp only[Rel]at h1;have:=hget (.tuple tt) ⟨_,hs,by simp only[Rel],h1⟩;simp[yielded,hj,this]
   ·cases hw
theorem jN {F:Nat->Prop} {O W:List ag}:Al (λb=>F b\/b∈ids W) O=Al F (O++W):=
 funext λb=>propext (by simp only[Al,bI,ck];constructor<;>(rintro ⟨h1,h2⟩;simp_all))
theorem bh.front {G:Gl} {w:World} {F:Nat->Prop} {O W:List ag} (h:bh G w F (O++W)):bh G w (λb=>F b\/b∈ids W) O:=by
 have hA:Al (λb=>F b\/b∈ids W) O=Al F (O++W):=jN;have hnd:=h.nodup;rw[bI,jd]at hnd;refine⟨λx hx=>by rw[hA];exact h.dw x (by simp[hx]),hnd.1,λb hb=>?_,λb hb=>?_,by rw[hA];exact h.eX⟩
 ·rintro (h1|h1)
  ·exact h.free b (by simp[bI,hb]) h1
  ·exact hnd.2.2 b hb b h1 rfl
 ·rcases hb with hb|hb
  ·exact h.bound b hb
  ·exact h.lt b (by simp[bI,hb])
theorem rV {a:Act} {d:Nat} {v:Value} (h:d<a.tmps.size):(a.put (some d) v).tmps.getD d undef=v:=B0 _ _ _ h
theorem kG {a:Act} {dst:Option Nat} {t:Nat} {v:Value} (h:∀d,dst=some d->t≠d):(a.put dst v).tmps.getD t undef=a.tmps.getD t undef:=by
 cases dst with
 |none=>rfl
 |some d=>exact BZ _ _ _ _ (ga (h d rfl))
theorem sC {a:Act} {dst:Option Nat} {v:Value}:(a.put dst v).tmps.size=a.tmps.size:=by cases dst<;>simp[Act.put]
theorem pV {a:Act} {dst:Option Nat} {v:Value}:(a.put dst v).defers=a.defers:=by cases dst<;>rfl
theorem ja.GQ {G:Gl} {F:Nat->Prop} {w0 w w':World} {a:Act} {st:iu} {zs:List ((Nat×List AV)×Nat)} (h:ja G N F O w0 w a st zs) {o:Oper} (hd:bE N o.dst=true) (hf:fresh o st.2) {x:AV} {v:Value}
  (hv:Rel w' (Al F (O++cm zs)) x v) (hc:fb w w'):ja G N F O w0 w' (a.put o.dst v) (aO st.1 o.dst (some x),st.2++[]) zs:=by
 have hk:=(hc.ext (O:=O++cm zs)).keeps (F:=F);refine⟨by rw[sC];exact h.size,by rw[pV];exact h.df,by simpa using h.eq,h.hp.later hc.2.2.2,λt y hy=>?_,λz hz=>?_,h.cls.trans hc,h.new⟩
 ·by_cases htd:o.dst=some t
  ·have htN:=so hd t htd;rw[htd]at hy⊢;simp only[aO,if_true,ao]at hy;subst hy;exact⟨htN,by rw[rV (by rw[h.size];exact htN)];exact hv⟩
  ·have hne:∀d,o.dst=some d->t≠d:=λd hd' he=>htd (by rw[hd',he]);have hy':aO st.1 o.dst (some x) t=some y:=hy;rw[jj hne]at hy';obtain⟨h1,h2⟩:=h.sl t y hy';exact⟨h1,by rw[kG hne];exact h2.aU hk⟩
 ·obtain⟨h1,h2⟩:=h.nu z hz;refine⟨h1,?_⟩;rw[kG]
  ·exact h2
  ·intro d hd' he;exact hf d hd' z.1 (by rw[<-h.eq];exact cB.2 ⟨z,hz,rfl⟩) he
theorem ja.Og {G:Gl} {F:Nat->Prop} {w0 w:World} {a:Act} {st:iu} {zs:List ((Nat×List AV)×Nat)} (h:ja G N F O w0 w a st zs) {o:Oper} {d:Nat} (hd:o.dst=some d) (hdN:d<N) (hf:fresh o st.2) {cells:List AV} {vs:List Value} {e:TypeId}
  (hv:ax w (Al F (O++cm zs)) cells vs):ja G N F O w0 (w.alloc (.cells (List.toArray vs) e)) (a.put o.dst (.pointer (some ⟨w.heap.size,0,none⟩))) (aO st.1 o.dst none,st.2++[(d,cells)]) (zs++[((d,cells),w.heap.size)]):=by
 have hc:fb w (w.alloc (.cells vs.toArray e)):=⟨⟨rfl,.of (bq _)⟩,rfl,rfl,by simp,λb hb=>gb w _ b hb⟩;have hents:cm (zs++[((d,cells),w.heap.size)])=cm zs++[.box w.heap.size cells]:=by simp[cm]
 have hext:=iB w (.cells vs.toArray e) (O++cm zs) (.box w.heap.size cells) (by simp[ag.ids]);have hkeep:=hext.keeps (F:=F);rw[gU,<-hents]at hkeep;refine⟨by rw[sC];exact h.size,by rw[pV];exact h.df,by simp[h.eq],?_,λt y hy=>?_,λz hz=>?_,h.cls.trans hc,λz hz=>?_⟩
 ·rw[hents,<-gU];refine h.hp.push (by simp) (λb hb=>gb w _ b hb) (by simp[ag.ids]) (by simp[ag.ids]) ?_;exact⟨e,vs,gE w _,by rw[gU,<-hents];exact hv.aU hkeep⟩
 ·by_cases htd:t=d
  ·subst htd;rw[hd]at hy;simp[aO]at hy
  ·have hne:∀d',o.dst=some d'->t≠d':=λd' hd' he=>htd (by rw[hd]at hd';cases hd';exact he);have hy':aO st.1 o.dst none t=some y:=hy;rw[jj hne]at hy';obtain⟨h1,h2⟩:=h.sl t y hy';exact⟨h1,by rw[kG hne];exact h2.aU hkeep⟩
 ·rcases ck.1 hz with hz|hz
  ·obtain⟨h1,h2⟩:=h.nu z hz;refine⟨h1,?_⟩;rw[kG]
   ·exact h2
   ·intro d' hd' he;exact hf d' hd' z.1 (by rw[<-h.eq];exact cB.2 ⟨z,hz,rfl⟩) he
  ·simp only[kC]at hz;subst hz;rw[hd];exact⟨hdN,rV (by rw[h.size];exact hdN)⟩
 ·rcases ck.1 hz with hz|hz
  ·exact h.new z hz
  ·simp only[kC]at hz;subst hz;exact h.cls.2.2.2.1
theorem Dl:∀(n:Nat) (listed:Array Bool) (st:iu),mu C N O ops Q' m n listed st->Cut C N ops O Q' (n+m) listed st
 |0,listed,st,h=>by rw[lz];exact h
 |n+1,listed,st,h=>λF w0 w a zs hd=>by
  rw[show n+1+m=(n+m)+1 by omega];refine⟨λh0=>absurd h0 h.1,λi hi=>?_⟩;obtain⟨o,x,δ,ho,hf,hs,hn⟩:=h.2 i hi;have ih:=Dl n _ _ hn F w0;have hsl:dN w (Al F (O++cm zs)) N a st.1:=⟨hd.size,hd.sl⟩;have hopd:g8 w (Al (λb=>F b\/b∈ids (cm zs)) O) N a o st.1:=λt _ y hy=>by rw[jN];exact hd.sl t y hy
  unfold wpOp;simp only[ho];obtain⟨hdst,hs⟩:=hs;rcases hs with⟨hw,hs⟩|⟨hw,rfl,rfl⟩
  ·rw[cV (rX hsl hw)];refine .inl ?_;rcases hs with⟨y,hp,rfl,rfl⟩|⟨d,cells,hdd,hp,rfl,rfl⟩
   ·refine hp _ w a hd.size hd.df hd.hp.front hopd _ _ λv w' hv hc=>?_;rw[jN]at hv;exact ih w' _ zs (hd.GQ hdst hf hv hc)
   ·refine hp _ w a hd.size hd.df hd.hp.front hopd _ _ λvs e hv=>?_;rw[jN]at hv;exact ih _ _ _ (hd.Og hdd (so hdst d hdd) hf hv)
  ·rw[cW (by rw[rX hsl hw];simp)];exact ih w _ zs (hd.GQ hdst hf (by simp only[Rel]) (fb.refl w))
end
def mm (C:Cx) (N:Nat) (O:List ag) (ops:Array Oper) (Qe:iu->Prop):List Oper->iu->Prop
 |[],st=>Qe st
 |o::rest,st=>fresh o st.2/\∃x δ,jH C N O ops o st.1 x δ/\mm C N O ops Qe rest (aO st.1 o.dst x,st.2++δ)
def xL (ops:Array Oper) (pre:List Nat) (listed:Array Bool) (i:Nat):Bool:=
 match ops[i]? with
 |none=>false
 |some oi=>(List.range ops.size).all λj=>j==i||listed.getD j true||(match ops[j]? with
   |some oj=>oi.apart ops oj&&pre.contains j
   |none=>true)||reach ops 3 i j
def dP:List Nat->Bool
 |[]=>true
 |x::r=>!r.contains x&&dP r
def ua (ops:Array Oper):List Nat->Array Bool->Bool
 |[],_=>true
 |i::rest,listed=>(Region.ready .any ops listed).contains i&&xL ops (i::rest) listed i&&dP (i::rest)&&ua ops rest (listed.setIfInBounds i true)
def gF (l:List Nat) (listed:Array Bool):Array Bool:=l.foldl (λq i=>q.setIfInBounds i true) listed
section
variable {C:Cx} {N:Nat} {O:List ag} {ops:Array Oper} {Q':(Nat->Prop)->World->Exit->Act->World->Prop} {m:Nat}
theorem vk:∀{l:List Nat},dP l=true->l.Nodup
 |[],_=>by simp
 |x::r,h=>by
  simp only[dP,bn,iA]at h;rw[JW];exact⟨(λhx=>by have:=BL.2 hx;rw[h.1]at this;cases this),vk h.2⟩
theorem D8:∀(l:List Nat) (listed:Array Bool) (st:iu),kV ops listed->ua ops l listed=true->(ep ops l).length=l.length->
  mm C N O ops (λst=>Cut C N ops O Q' m (gF l listed) st) (ep ops l) st->mu C N O ops Q' m l.length listed st
 |[],listed,st,_,_,_,h=>h
 |i::rest,listed,st,hc,hB,hl,h=>by
  simp only[ua,bn]at hB;obtain⟨⟨⟨hr,hf⟩,hnd⟩,hB⟩:=hB;have hr':i∈Region.ready .any ops listed:=by simpa using hr
  cases ho:ops[i]? with
  |none=>simp[xL,ho]at hf
  |some o=>
   simp only[ep,ho,iz]at hl h;obtain⟨h1,x,δ,h2,h3⟩:=h;refine KN (R:=3) ho rest.length listed (i::rest) st x δ (by simp) (vk hnd) (by simp) hc ?_ hr' h1 h2 ?_
   ·intro j oj hj hji hun hno;simp only[xL,ho,fH,BC]at hf;have:=hf j (fZ.1 hj).1;simp only[hj,rN,beq_iff_eq,hji,false_or,hun,hno,fY,or_false,bn]at this;exact⟨this.1,by simpa using this.2⟩
   ·exact D8 rest _ _ (hc.set hr') hB (by omega) (by simpa[gF]using h3)
theorem My:kV ops (Array.replicate ops.size false):=by
 intro j o _ h;simp[Array.getElem?_replicate]at h;split at h<;>simp at h
theorem vI {Qe Qe':iu->Prop} (h:∀st,Qe st->Qe' st):∀{l:List Oper} {st:iu},mm C N O ops Qe l st->mm C N O ops Qe' l st
 |[],_,hh=>h _ hh
 |_::_,_,⟨h1,x,δ,h2,h3⟩=>⟨h1,x,δ,h2,vI h h3⟩
def eu (n:Nat):List ((Nat×List AV)×Nat)->Sg
 |[]=>[]
 |z::zs=>(z.1.1,.own n z.2 0)::eu (n+1) zs
theorem m5 {Z:Sg}:∀{zs:List ((Nat×List AV)×Nat)} {n t:Nat} {x:AV},look (eu n zs++Z) t=some x->(∃z∈zs,∃k,t=z.1.1/\x= .own k z.2 0)\/look Z t=some x
 |[],_,_,_,h=> .inr h
 |z::zs,n,t,x,h=>by
  simp only[eu,gT,look]at h;cases hb:Nat.beq z.1.1 t with
  |true=>
   rw[hb]at h;simp only[ao]at h;exact .inl ⟨z,by simp,n,(bf hb).symm,h.symm⟩
  |false=>
   rw[hb]at h;rcases m5 h with⟨z',h1,h2⟩|h
   ·exact .inl ⟨z',by simp[h1],h2⟩
   ·exact .inr h
def fu:Nu->(List ((Nat×List AV)×Nat)->Prop)->Prop
 |[],P=>P []
 |p::W,P=>∀b:Nat,fu W λzs=>P ((p,b)::zs)
theorem sq:∀{W:Nu} {P:List ((Nat×List AV)×Nat)->Prop},fu W P->∀zs,zs.map (·.1)=W->P zs
 |[],P,h,zs,hz=>by
  cases zs with
  |nil=>exact h
  |cons _ _=>simp at hz
 |p::W,P,h,zs,hz=>by
  cases zs with
  |nil=>simp at hz
  |cons z zs=>
   simp only[cA,jb]at hz;obtain⟨h1,h2⟩:=hz;have:=sq (h z.2) zs h2;obtain⟨p',b⟩:=z;simp only at h1;subst h1;exact this
