/- The program logic, eighth part: make, elements of own rows, package-level arrays, regions whose order is open. -/
import Derived.Test.YtnocmolegijmkaaGreatKB7
import Derived.Deep.Quiet
set_option linter.all false
noncomputable section
namespace Go.Bw
open Go
section
variable {N:Nat} {Q:AQ} {O:Sg} {L:List aq} {ops:Array Oper} {rest:List Oper} {E:Env} {w:World} {A:Nat->Prop} {a:Act}
theorem PX (z:List Value):∀n,bq w A z.length (List.replicate n (z.map .v)) (fZ n z)
 |0=>by simp[fZ,bq]
 |n+1=>by
  simp only[anK,fZ,bq];exact⟨z,_,rfl,by simp,oI z,PX z n⟩
theorem Qv (z:List Value):∀n m,fZ (n+m) z=fZ n z++fZ m z
 |0,m=>by simp[fZ]
 |n+1,m=>by rw[show n+1+m=(n+m)+1 by omega];simp[fZ,Qv z n m]
theorem cj.make {d:Nat} {t:TypeId} {x y:Operand} {ty:TypeId} {pos:String} {after:Array Edge} {e k sz by' sz' by'':Nat} {z z':List Value} {td':TD} {kl kc:IntKind} {li ci:Int} (l c:Nat)
  (hb:c*by''<=140737488355328) (hl:l<=c) (hx:ev (look O) x=some (.v (.int kl li))) (hli:li=(l:Int)) (hy:ev (look O) y=some (.v (.int kc ci))) (hci:ci=(c:Int)) (ht:bc E.T t=some ⟨.slice e k,sz,by',z⟩) (hte:bc E.T e=some ⟨td',sz',by'',z'⟩)
  (hk:Nat.ble 1 k=true) (hby:Nat.ble 1 by''=true) (hd:Nat.blt d N=true)
  (kk:∀b,cj E.toCx N ops rest Q ((d,.os L.length (some ⟨b,0,none⟩) l c)::O) (L++[.row (.slice (some ⟨b,0,none⟩) l c) e k (List.replicate l (z'.map .v))])):cj E.toCx N ops (⟨some d,.makeSlice t x y,ty,pos,after,none⟩::rest) Q O L:=
 cj.qS (R:=λr L'=>∃b,r= .os L.length (some ⟨b,0,none⟩) l c/\L'=L++[.row (.slice (some ⟨b,0,none⟩) l c) e k (List.replicate l (z'.map .v))]) rfl hd (λF a w hs=>by
  obtain⟨hu,hke,hh⟩:=kO (E.tok _ _ ht) rfl;obtain⟨_,ti,_,hi,_,hsz,hbb,zv,hz1,hz2⟩:=fx (E.tok _ _ hte);have hzl:=EA (E.tok _ _ hte);simp only at hsz hbb hz2 hzl;have hk:=eH hk;have hby:=eH hby;have hsize:ti.size=k:=by rw[hke];simp[jg,hi]
  have hzs:zv.cells.size=z'.length:=by have:=congrArg List.length hz2;simpa using this
  have hzk:z'.length=k:=by omega
  have hx':=bH hs.sg hx;have hy':=bH hs.sg hy;simp only[Rel]at hx' hy';subst hli;subst hci;have hcb:c<=140737488355328:=iM (HE c hby) hb;have hr:=run_make (P:=E.P) w t e ti zv hu hi hz1 kl kc (l:Int) (c:Int) (by omega) (by omega) (by rw[hbb,<-Int.natCast_mul,DG];omega) (by omega);simp only[mH]at hr;have hm:madeCells zv.cells (c*ti.size)=(fZ c z').toArray:=by
   apply kM;have:=Rj zv.cells c;rw[hzs,hzk,hz2]at this;simp only[madeCells,hsize];simpa[hzs,hzk]using this
  rw[hm]at hr;have hext:=nK w (.cells (fZ c z').toArray e) L (.row (.slice (some ⟨w.heap.size,0,none⟩) l c) e k (List.replicate l (z'.map .v))) (by simp[aq.ids,Value.ownBlock]);refine⟨.slice (some ⟨w.heap.size,0,none⟩) l c,_,_,_,⟨w.heap.size,rfl,rfl⟩,by simp[execOp,hx',hy',hr],by simp only[Rel],?_,hext⟩;refine hs.hp.push (by simp) (λb hb=>lA w _ b hb) (by simp[aq.ids,Value.ownBlock]) (by simp[aq.ids,Value.ownBlock]) ?_;refine⟨fZ l z',by rw[<-hzk];exact PX z' l,?_,.inr ⟨w.heap.size,c,_,by simp,mG _,l6 w _,by simpa using hl,by simp only[maxLen];omega,?_,?_⟩⟩
  ·simp[xU,hzk]
  ·simp[xU,hzk]
  ·have:c=l+(c-l):=by omega
   rw[this,Qv];simp only[pB];rw[<-hzk,<-xU];exact OK)
  (λ_ _ ⟨b,h1,h2⟩=>by subst h1;subst h2;exact kk b)
theorem abH {tg:Nat} {o:Oper} {t:TypeId} {x ix:Operand} (ho:o.op= .indexAddr t x ix) {e k sz by':Nat} {z:List Value} {i:Nat} {a0:Option Addr} {n0 c0:Nat} {rows:List (List AV)} {kd:IntKind} {n:Int} (j:Nat) (ht:bc E.T t=some ⟨.slice e k,sz,by',z⟩) (hx:ev (look O) x=some (.os tg a0 n0 c0)) (hi:nth L i=some (.row (.slice a0 n0 c0) e k rows)) (hix:ev (look O) ix=some (.v (.int kd n)))
  (hj:n=(j:Int)) (hr:j<rows.length):pv E.toCx N o O L (.oe i (.slice a0 n0 c0) (j*k)):=λF a w hs=>by
 obtain⟨hu,hke,hh⟩:=kO (E.tok _ _ ht) rfl;have h1:=bH hs.sg hx;have h2:=bH hs.sg hix;simp only[Rel]at h1 h2;subst hj;obtain⟨vs,h3,h4,h5⟩:=ju hs.hp hi;rcases h5 with⟨_,h0⟩|⟨g,cap,cur,hv,_,hg,hn,_⟩
 ·omega
 ·cases hv;refine⟨.pointer (some ⟨g,j*k,none⟩),by simp only[Rel];exact⟨g,_,_,rfl,rfl⟩,λw' _=>?_⟩;rw[hke];simp[execOp,ho,h1,h2,Instr.indexAt,asIntOf,run_underlying hu,hr,l7 hh,Addr.add_lit]
theorem aa' {tg:Nat} {o:Oper} {t:TypeId} {p:Operand} (ho:o.op= .load t p) (j off:Nat) {i:Nat} {v:Value} {e k n:Nat} {rows:List (List AV)} {r:List AV} {x:AV} (hp:ev (look O) p=some (.oe tg v n)) (hn:n=j*k+off) (hi:nth L i=some (.row v e k rows)) (hr:rows[j]? =some r) (hl:kx E.T t r off=some x):
  pv E.toCx N o O L x:=λF a w hs=>by
 have h1:=bH hs.sg hp;simp only[Rel]at h1;obtain⟨g,len,cap,hv,h1⟩:=h1;obtain⟨vs,h2,h3⟩:=ju hs.hp hi;obtain⟨hrk,us,h4,h5⟩:=h2.get hr;have hlen:j*k+us.length<=vs.length:=by
  rw[h2.length,h4.length,hrk];have:j<rows.length:=(cr.1 hr).1
  calc j*k+k=(j+1)*k:=by rw[jc,HG]
   _<=rows.length*k:=gg k (by omega)
 subst hn;rcases h3.2 with⟨hvn,_⟩|⟨g',cap',cur,hvg,_,hg,_,_,_,htake⟩
 ·rw[hv]at hvn;cases hvn
 ·rw[hv]at hvg;cases hvg;have hb:g<w.heap.size:=(gQ.1 hg).1;obtain⟨val,h6,h7⟩:=adq (E:=E) (b:=g) (s:=j*k) hl h4;refine⟨val,h6,λw' hw'=>?_⟩;have:=h7 w' (λi u hiu=>by
   have h8:=h5 i u hiu;rw[<-htake,fT]at h8;split at h8
   ·have hc:cur[j*k+i]? =some u:=by simpa using h8
    simp[World.cell?,hw'.2 g hb,hg,hc]
   ·cases h8)
  simp[execOp,ho,h1,Instr.loadAt,Instr.sureAddr,this]
theorem bq.set {k:Nat}:∀{rows:List (List AV)} {vs us:List Value} {j:Nat} {r:List AV},bq w A k rows vs->j<rows.length->r.length=k->aL w A r us->bq w A k (rows.set j r) (dE vs (j*k) us)
 |[],_,_,_,_,_,hlt,_,_=>by simp at hlt
 |q::rs,vs,us,0,r,h,_,hk,hr=>by
  simp only[bq]at h;obtain⟨v1,v2,rfl,hq,h1,h2⟩:=h;simp only[DD,bq,aaq];refine⟨us,v2,?_,hk,hr,h2⟩;have hlen:us.length=v1.length:=by rw[hr.length,h1.length,hk,hq]
  have key:∀(us v1:List Value),us.length=v1.length->dE (v1++v2) 0 us=us++v2:=by
   intro us
   induction us with
   |nil=>intro v1 hl;have:v1=[]:=jb (by simpa using hl.symm);subst this;cases v2<;>simp[dE,over]
   |cons u us ih=>intro v1 hl;cases v1 with
    |nil=>simp at hl
    |cons x v1=>
     have:=ih v1 (by simpa using hl);simp only[ko];have h0:∀(l:List Value) (ys:List Value),dE l 0 ys=over l ys:=by intro l ys;cases l<;>rfl
     rw[h0]at this⊢;simp[over,this]
  exact key us v1 hlen
 |q::rs,vs,us,j+1,r,h,hj,hk,hr=>by
  simp only[bq]at h;obtain⟨v1,v2,rfl,hq,h1,h2⟩:=h;simp only[q7,bq];have hl1:v1.length=k:=by rw[h1.length,hq]
  refine⟨v1,dE v2 (j*k) us,?_,hq,h1,bq.set h2 (by simpa using hj) hk hr⟩;have key:∀(v1:List Value) (m:Nat),dE (v1++v2) (v1.length+m) us=v1++dE v2 m us:=by
   intro v1 m
   induction v1 with
   |nil=>simp
   |cons x v1 ih=>rw[gP,show v1.length+1+m=(v1.length+m)+1 by omega];simp[dE,ih]
  have:=key v1 (j*k);rw[hl1]at this;rw[<-this];congr 1;rw[jc];omega
theorem ra {D:Type}:∀{xs ys:List D} {p:Nat},p+ys.length<=xs.length->(dE xs p ys).length=xs.length
 |[],ys,p,h=>by
  have:ys=[]:=jb (by simp at h;simp[h.2]);subst this;rw[tU]
 |x::xs,[],p,_=>by rw[tU]
 |x::xs,y::ys,0,h=>by
  have h0:dE xs 0 ys=over xs ys:=by cases xs<;>rfl
  have:=ra (xs:=xs) (ys:=ys) (p:=0) (by simpa using h);rw[h0]at this;simp[dE,over,this]
 |x::xs,y::ys,p+1,h=>by
  simp only[dE,gP];rw[ra (by simp at h⊢;omega)]
theorem rj {D:Type}:∀{xs ys:List D} {p:Nat},p+ys.length<=xs.length->∀i,(dE xs p ys)[i]? =if p<=i/\i<p+ys.length then ys[i-p]? else xs[i]?
 |xs,[],p,_,i=>by rw[tU,aM (by simp only[l4];omega)]
 |[],y::ys,p,h,i=>by simp at h
 |x::xs,y::ys,0,h,i=>by
  have h0:dE xs 0 ys=over xs ys:=by cases xs<;>rfl
  have ih:=rj (xs:=xs) (ys:=ys) (p:=0) (by simpa using h);rw[h0]at ih;simp only[dE,over];cases i with
  |zero=>simp
  |succ i=>
   simp only[nD,ih i,gP];by_cases hi:i<ys.length
   ·rw[bg (by omega),bg (by omega)];simp
   ·rw[aM (by omega),aM (by omega)]
 |x::xs,y::ys,p+1,h,i=>by
  simp only[dE];cases i with
  |zero=>simp
  |succ i=>
   simp only[nD];rw[rj (by simp at h⊢;omega) i];by_cases hi:p<=i/\i<p+(y::ys).length
   ·rw[bg hi,bg (by omega)];congr 1;omega
   ·rw[aM hi,aM (by omega)]
theorem O1 {tg:Nat} {o:Oper} {t:TypeId} {p x:Operand} (ho:o.op= .store t p x) (j off:Nat) {i:Nat} {v:Value} {e k n:Nat} {rows:List (List AV)} {r r':List AV} {y:AV} {ti:TI} (hp:ev (look O) p=some (.oe tg v n)) (hn:n=j*k+off) (hx:ev (look O) x=some y) (hi:nth L i=some (.row v e k rows)) (hr:rows[j]? =some r)
  (ht:bc E.T t=some ti) (hk:Nat.beq (cH y).length ti.size=true) (h1:fc (cH y)=true) (hl:fN r off (cH y)=some r'):
  Cv E.toCx N o O L (L.set i (.row v e k (rows.set j r'))):=λF a w hs=>by
 have hp':=bH hs.sg hp;simp only[Rel]at hp';obtain⟨g,len,cap,hv,hp'⟩:=hp';have hy:=yy (bH hs.sg hx);obtain⟨l,rr,rfl,hset⟩:=mJ hi;simp only[hset];obtain⟨vs,h2,h3⟩:=hs.hp.eG (.row v e k rows) (by simp);obtain⟨hrk,us,h4,h5⟩:=h2.get hr;have hjlt:j<rows.length:=(cr.1 hr).1;have hlen:=xZ hl;have hyl:=hy.length;subst hn;obtain⟨h30,h3⟩:=h3;rcases h3 with⟨hvn,_⟩|⟨g',cap',cur,hvg,_,hg,hnc,hcm,hcs,htake⟩
 ·rw[hv]at hvn;cases hvn
 ·rw[hv]at hvg;cases hvg;have hvl:vs.length=rows.length*k:=h2.length;have hjk:(j+1)*k<=rows.length*k:=gg k (by omega);rw[jc,HG]at hjk;have hcurlen:vs.length<=cur.toList.length:=by rw[<-htake,iK];omega
  have hg':w.heap[g]? =some (.cells cur.toList.toArray e (0,0)):=by simpa using hg
  obtain⟨w',h6,h7,h8,h9,h10,h11,h12⟩:=xS (P:=E.P) g e (a.eval x).cells.toList 0 (j*k+off) cur.toList w hg' (by omega) (yD h1 hy);have hids:∀c∈aq.ids (.row v e k (rows.set j r')),c∈aq.ids (.row v e k rows)\/w.heap.size<=c:=λc hc=> .inl hc;have hown:aq.ids (.row v e k rows)=[g]:=by simp[aq.ids,hv,Value.ownBlock]
  have hoth:∀c,c∉aq.ids (.row v e k rows)->w'.heap[c]? =w.heap[c]? :=λc hc=>h12 c (λe=>hc (by rw[hown,e];simp));have hkeep:dF w (Al F (l++aq.row v e k rows::rr)) w' (Al F (l++aq.row v e k (rows.set j r')::rr)):=by
   refine⟨by omega,λc hc ha=>⟨?_,hoth c λhcb=>ha.2 (by simp[cB,cJ,hcb])⟩⟩;simpa[Al,cB,cJ,aq.ids]using ha
  refine⟨w',?_,?_,?_⟩
  ·have hsz:(a.eval x).cells.size=ti.size:=by
    have:=bQ hk;rw[<-hyl]at this;simpa using this
   simp[execOp,ho,hp',Instr.storeAt,Instr.sureAddr,storeVar,IY (E.tok _ _ ht),hsz,h6]
  ·refine hs.hp.lU (by omega) (λc _ hc=>hoth c hc) hids (by simp[aq.ids,hv,Value.ownBlock]) ?_;have hr'k:r'.length=k:=by rw[hlen.2,hrk]
   have hnew:=(ya hl h4 hy).keep hkeep;have husl:us.length=k:=by rw[h4.length,hrk]
   have hle1:off+(a.eval x).cells.toList.length<=us.length:=by omega
   have hsl:(dE us off (a.eval x).cells.toList).length=k:=by rw[ra hle1,husl]
   have hle2:j*k+(dE us off (a.eval x).cells.toList).length<=vs.length:=by omega
   have hle3:j*k+off+0+(a.eval x).cells.toList.length<=cur.toList.length:=by omega
   refine⟨dE vs (j*k) (dE us off (a.eval x).cells.toList),bq.set (h2.keep hkeep) hjlt hr'k hnew,?_,.inr ⟨g,cap,_,by simpa using hv,mG _,h7,by simpa using hnc,hcm,?_,?_⟩⟩
   ·rw[ra hle2,hvl];simp
   ·simp only[HA];rw[ra hle3];simpa using hcs
   ·apply nC;intro i;simp only[lZ];rw[fT,rj hle2,rj hle1,rj hle3,hsl];have hvi:∀i,i<rows.length*k->vs[i]? =cur.toList[i]? :=λi hi=>by rw[<-htake,fT,bg hi]
    by_cases hi:i<rows.length*k
    ·rw[bg hi];by_cases h13:j*k<=i/\i<j*k+k
     ·rw[bg h13];by_cases h14:off<=i-j*k/\i-j*k<off+(a.eval x).cells.toList.length
      ·rw[bg h14,bg (by omega)];congr 1;omega
      ·rw[aM h14,aM (by omega),<-hvi i hi];have:i-j*k<us.length:=by omega
       have h15:=h5 (i-j*k) us[i-j*k] (by simp[this]);rw[show j*k+(i-j*k)=i by omega]at h15;rw[h15];simp[this]
     ·rw[aM h13,aM (by omega),hvi i hi]
    ·rw[aM hi,aM (by omega),kK (by omega)]
  ·refine⟨h8,h9,h10.1,by omega,λc _ hc=>hoth c λhcb=>hc (by simp[cB,cJ,hcb]),λc hc=> .inl ?_,.of (HB h10.2.symm)⟩;simpa[cB,cJ,aq.ids]using hc
def wI:Gl->Nat->Option (List Value)
 |[],_=>none
 |(k,x)::r,t=>match Nat.beq k t with
  |true=>some x
  |false=>wI r t
theorem Rk:∀{G:Gl} {t:Nat} {x:List Value},wI G t=some x->(t,x)∈G
 |[],_,_,h=>by simp[wI]at h
 |(k,y)::r,t,x,h=>by
  simp only[wI]at h;cases hb:Nat.beq k t with
  |true=>rw[hb]at h;simp only[aE]at h;subst h;rw[bQ hb];simp
  |false=>rw[hb]at h;exact DJ _ (Rk h)
theorem acn {o:Oper} {t:TypeId} {p:Operand} (ho:o.op= .load t p) {g off:Nat} {vs:List Value} {u:Value} {d:TD} {k b:Nat} {z:List Value} (hp:ev (look O) p=some (.v (.pointer (some ⟨g,off,none⟩)))) (hg:wI E.G g=some vs) (hu:vs[off]? =some u) (ht:bc E.T t=some ⟨d,k,b,z⟩) (hd:d.agg=false):
  pv E.toCx N o O L (.v u):=λF a w hs=>by
 have h1:=bH hs.sg hp;simp only[Rel]at h1;obtain⟨_,e,fz,hh⟩:=hs.hp.gK _ (Rk hg);have hb:g<w.heap.size:=(gQ.1 hh).1;refine⟨u,gJ _,λw' hw'=>?_⟩;have hc:w'.cell? ⟨g,off,none⟩=some u:=tC ((hw'.2 g hb).trans hh) off u hu;have:=nG (P:=E.P) (v0:=u) (E.tok _ _ ht) (b:=g) (o:=off) (vs:=[u]) (w':=w')
  (λj v hj=>by cases j with
   |zero=>simp at hj;subst hj;simpa using hc
   |succ j=>simp at hj) (λhg'=>by simp only at hg';rw[hd]at hg';cases hg') (λ_=>rfl)
 simp only at this;simp[execOp,ho,h1,Instr.loadAt,Instr.sureAddr,this,hd]
theorem fm.sub {G:Gl} {L':List aq} (hsl:L'.Sublist L):fm G N O L O L':=λF w a hs=>by
 have hids:(ids L').Sublist (ids L):=by
  have:∀{l r:List aq},l.Sublist r->(ids l).Sublist (ids r):=by
   intro l r h
   induction h with
   |slnil=>exact HF _
   |cons a h ih=>rw[cJ];exact ih.trans (anN _ _)
   |cons_cons a h ih=>rw[cJ,cJ];exact anO (HF _) ih
  exact this hsl
 have hsub:∀b∈ids L',b∈ids L:=λb hb=>hids.subset hb;have hkeep:dF w (Al F L) w (Al F L'):=⟨bX _,λb _ h=>⟨⟨h.1,λhm=>h.2 (hsub b hm)⟩,rfl⟩⟩;exact⟨⟨hs.sg.keep hkeep,⟨λx hx=>(hs.hp.eG x (hsl.subset hx)).keep hkeep (λ_ _=>rfl),hids.nodup hs.hp.nodup,λb hb=>hs.hp.free b (hsub b hb),hs.hp.bound,hs.hp.gK.keep hkeep⟩,hs.df⟩,hsub⟩
theorem uv {i:Nat} (h:i<4611686018427387904):IntKind.i64.wrap ((i:Int)+1)=((i+1:Nat):Int):=by
 rw[IntKind.wrap_i64];omega
end
def tmpsOf (o:Oper):List Nat:=o.op.operands.toList.filterMap λ| .tmp t=>some t|_=>none
def lU (s:Sl) (dst:Option Nat) (x:AV):Sl:=match dst with
 |none=>s
 |some d=>λt=>if t=d then some x else s t
def ji (w:World) (w':World):Prop:=(w'.os=w.os/\nr w w')/\w'.tape=w.tape/\w'.output=w.output/\mi w w'
theorem ji.refl (w:World):ji w w:=⟨⟨rfl,.of (bX _)⟩,rfl,rfl,mi.refl w⟩
theorem ji.ext {w w':World} {L:List aq} (h:ji w w'):Ext L w L w':=⟨h.1.1,h.2.1,h.2.2.1,h.2.2.2.1,λb hb _=>h.2.2.2.2 b hb,λ_ hb=> .inl hb,h.1.2⟩
theorem ji.trans {w w' w'':World} (h:ji w w') (g:ji w' w''):ji w w'':=
 ⟨⟨g.1.1.trans h.1.1,h.1.2.trans g.1.2⟩,g.2.1.trans h.2.1,g.2.2.1.trans h.2.2.1,iM h.2.2.2.1 g.2.2.2.1,λb hb=>(g.2.2.2.2 b (oG hb h.2.2.2.1)).trans (h.2.2.2.2 b hb)⟩
def mg (w:World) (A:Nat->Prop) (N:Nat) (a:Act) (o:Oper) (s:Sl):Prop:=∀t∈tmpsOf o,∀y,s t=some y->t<N/\Rel w A y (a.tmps.getD t undef)
def ck (C:Cx) (N:Nat) (o:Oper) (s:Sl) (L:List aq) (x:AV):Prop:=
 ∀F w (a:Act),a.tmps.size=N->a.defers=[]->bM C.G w F L->mg w (Al F L) N a o s->∀(K:Act->World->Prop) (Q:Exit->Act->World->Prop),
  (∀v w',Rel w' (Al F L) x v->ji w w'->K (a.put o.dst v) w')->o.wp C.P a w K Q
def gA (C:Cx) (N:Nat) (o:Oper) (s:Sl) (L:List aq) (cells:List AV):Prop:=
 ∀F w (a:Act),a.tmps.size=N->a.defers=[]->bM C.G w F L->mg w (Al F L) N a o s->∀(K:Act->World->Prop) (Q:Exit->Act->World->Prop),
  (∀vs e,aL w (Al F L) cells vs->K (a.put o.dst (.pointer (some ⟨w.heap.size,0,none⟩))) (w.alloc (.cells (List.toArray vs) e)))->o.wp C.P a w K Q
section
variable {C:Cx} {N:Nat} {o:Oper} {s s':Sl} {L L':List aq} {x:AV} {R:AV->List aq->Prop}
theorem mg.congr {w:World} {A:Nat->Prop} {a:Act} (h:mg w A N a o s') (he:∀t∈tmpsOf o,s' t=s t):mg w A N a o s:=λt ht y hy=>h t ht y (by rw[he t ht];exact hy)
theorem ck.congr (h:ck C N o s L x) (he:∀t∈tmpsOf o,s' t=s t):ck C N o s' L x:=λF w a h1 h2 h3 h4=>h F w a h1 h2 h3 (h4.congr he)
theorem gA.congr {cells:List AV} (h:gA C N o s L cells) (he:∀t∈tmpsOf o,s' t=s t):gA C N o s' L cells:=λF w a h1 h2 h3 h4=>h F w a h1 h2 h3 (h4.congr he)
theorem bM.later {G:Gl} {w w':World} {F:Nat->Prop} {L:List aq} (h:bM G w F L) (hl:mi w w'):bM G w' F L:=by
 have hk:dF w (Al F L) w' (Al F L):=⟨hl.1,λb hb ha=>⟨ha,hl.2 b hb⟩⟩;exact⟨λx hx=>(h.eG x hx).keep hk (λb hb=>hl.2 b ((h.eG x hx).lt b hb)),h.nodup,h.free,λb hb=>oG (h.bound b hb) hl.1,h.gK.keep hk⟩
end
def lH (ops:Array Oper) (o:Oper) (s:Sl):Option Bool:=match o.guard with
 |none=>some true
 |some (j,want)=>match(ops[j]?).bind (·.dst)with
  |none=>some false
  |some d=>match s d with
   |some (.v (.bool b))=>some (b==want)
   |some (.v (.tuple _))=>some false
   |_=>none
abbrev my:=Sl×List (Nat×List AV)
abbrev Nu:=List (Nat×List AV)
def dw (zs:List ((Nat×List AV)×Nat)):List aq:=zs.map λz=> .box z.2 z.1.2
structure nw (G:Gl) (N:Nat) (F:Nat->Prop) (L:List aq) (w0 w:World) (a:Act) (st:my) (zs:List ((Nat×List AV)×Nat)):Prop where
 size:a.tmps.size=N
 df:a.defers=[]
 eq:zs.map (·.1)=st.2
 hp:bM G w F (L++dw zs)
 sl:∀t x,st.1 t=some x->t<N/\Rel w (Al F (L++dw zs)) x (a.tmps.getD t undef)
 nu:∀z∈zs,z.1.1<N/\a.tmps.getD z.1.1 undef= .pointer (some ⟨z.2,0,none⟩)
 cls:ji w0 w
 new:∀z∈zs,w0.heap.size<=z.2
theorem aaH {D β:Type} (f:D->β) {W W':List β} (h:W.Perm W'):∀zs:List D,zs.map f=W->∃zs',zs.Perm zs'/\zs'.map f=W':=by
 induction h with
 |nil=>intro zs h;exact⟨zs,.refl _,h⟩
 |cons x _ ih=>
  intro zs h;cases zs with
  |nil=>cases h
  |cons z zs=>
   simp only[dp,kn]at h;obtain⟨zs',h1,h2⟩:=ih zs h.2;exact⟨z::zs',h1.cons z,by simp[h.1,h2]⟩
 |swap x y l=>
  intro zs h
  match zs,h with
  |z1::z2::zs,h=>
   simp only[dp,kn]at h;exact⟨z2::z1::zs,.swap _ _ _,by simp[h.1,h.2.1,h.2.2]⟩
 |trans _ _ ih1 ih2=>
  intro zs h;obtain⟨z1,h1,h2⟩:=ih1 zs h;obtain⟨z2,h3,h4⟩:=ih2 z1 h2;exact⟨z2,h1.trans h3,h4⟩
theorem Ey {l r:List aq} (h:l.Perm r):(ids l).Perm (ids r):=h.flatMap_right _
theorem zK {F:Nat->Prop} {l r:List aq} (h:l.Perm r):Al F l=Al F r:=funext λb=>propext (by unfold Al;rw[(Ey h).mem_iff])
theorem bM.perm {G:Gl} {w:World} {F:Nat->Prop} {l r:List aq} (hp:l.Perm r) (h:bM G w F l):bM G w F r:=
 ⟨λx hx=>by rw[<-zK hp];exact h.eG x (hp.mem_iff.2 hx),(Ey hp).nodup_iff.1 h.nodup,λb hb=>h.free b ((Ey hp).mem_iff.2 hb),h.bound,by rw[<-zK hp];exact h.gK⟩
theorem nw.perm {G:Gl} {N:Nat} {F:Nat->Prop} {L:List aq} {w0 w:World} {a:Act} {s:Sl} {W W':Nu} {zs:List ((Nat×List AV)×Nat)} (h:nw G N F L w0 w a (s,W) zs) (hp:W.Perm W'):
  ∃zs',nw G N F L w0 w a (s,W') zs':=by
 obtain⟨zs',h1,h2⟩:=aaH (·.1) hp zs h.eq;have he:(L++dw zs).Perm (L++dw zs'):=(h1.map _).append_left L;exact⟨zs',h.size,h.df,h2,h.hp.perm he,λt x hx=>by rw[<-zK he];exact h.sl t x hx,λz hz=>h.nu z (h1.mem_iff.2 hz),h.cls,λz hz=>h.new z (h1.mem_iff.2 hz)⟩
def fwd (i:Nat):List Oper->List Bool->List Bool
 |[],m=>m
 |o::r,m=>fwd i r (m++[o.after.any λe=>Region.binds .any e&&(Nat.beq e.on i||m.getD e.on false)])
def reach (ops:Array Oper) (_:Nat) (i j:Nat):Bool:=(fwd i ops.toList []).getD j false
def qf (ops:Array Oper) (listed:Array Bool):Prop:=∀j o,ops[j]? =some o->listed.getD j false=true->∀e∈o.after,Region.binds .any e=true->listed.getD e.on false=true
theorem JG {l:List Bool} {j:Nat} (h:l.length<=j):l.getD j false=false:=by simp[List.getD,kK h]
theorem PW {ops:Array Oper} {listed:Array Bool} (hc:qf ops listed) {i:Nat}:∀(l:List Oper) (m:List Bool) (pre:List Oper),ops.toList=pre++l->m.length=pre.length->
  (∀j,m.getD j false=true->∀o,ops[j]? =some o->(∀e∈o.after,Region.binds .any e=true->listed.getD e.on false=true)->listed.getD i false=true)->
  ∀j,(fwd i l m).getD j false=true->∀o,ops[j]? =some o->(∀e∈o.after,Region.binds .any e=true->listed.getD e.on false=true)->listed.getD i false=true
 |[],_,_,_,_,h=>h
 |x::l,m,pre,hops,hlen,h=>by
  refine PW hc l _ (pre++[x]) (by simp[hops]) (by simp[hlen]) λj hj o ho he=>?_;rcases Nat.lt_trichotomy j m.length with hlt|heq|hgt
  ·exact h j (by simpa[List.getD,mF hlt]using hj) o ho he
  ·subst heq;have hx:ops[m.length]? =some x:=by
    rw[<-Dz,hops,hlen];simp
   rw[hx]at ho;cases ho;have hj:(x.after.any λe=>Region.binds .any e&&(Nat.beq e.on i||m.getD e.on false))=true:=by
    simpa using hj
   obtain⟨e,hem,hb⟩:=Array.any_eq_true'.1 hj;simp only[bS,tz]at hb;obtain⟨hb,hb2⟩:=hb;have hl:=he e hem hb;rcases hb2 with hb2|hb2
   ·rw[<-bQ hb2];exact hl
   ·have hlt:e.on<m.length:=by
     rcases nE e.on m.length with h1|h1
     ·exact h1
     ·rw[JG h1]at hb2;cases hb2
    have hs:e.on<ops.size:=by
     rw[<-xL,hops,kp];omega
    exact h e.on hb2 ops[e.on] (by simp[hs]) λe' he' hb'=>hc e.on ops[e.on] (by simp[hs]) hl e' he' hb'
  ·rw[JG (by simp;omega)]at hj;cases hj
theorem O3 {ops:Array Oper} {listed:Array Bool} (hc:qf ops listed) (n i j:Nat) (h:reach ops n i j=true) (hj:∀o,ops[j]? =some o->∀e∈o.after,Region.binds .any e=true->listed.getD e.on false=true):listed.getD i false=true:=by
 unfold reach at h;cases ho:ops[j]? with
 |none=>
  have hlen:∀(l:List Oper) (m:List Bool),(fwd i l m).length=m.length+l.length:=by
   intro l
   induction l with
   |nil=>intro m;simp[fwd]
   |cons x l ih=>intro m;simp[fwd,ih];omega
  have hge:ops.size<=j:=by simpa using ho
  rw[JG (by rw[hlen];simp;omega)]at h;cases h
 |some o=>exact PW hc ops.toList [] [] rfl rfl (λj hj=>by simp at hj) j h o ho (hj o ho)
theorem qf.set {ops:Array Oper} {listed:Array Bool} {i:Nat} (hc:qf ops listed) (hr:i∈Region.ready .any ops listed):qf ops (listed.setIfInBounds i true):=by
 intro j o ho hl e he hb;by_cases hji:j=i
 ·subst hji;obtain⟨_,o',ho',hall⟩:=mem_ready.1 hr;rw[ho]at ho';cases ho';exact getD_set_true (hall e he hb)
 ·rw[getD_set_ne false (jm hji)]at hl;exact getD_set_true (hc j o ho hl e he hb)
def Ky:Op->Bool
 | .move _=>true
 | .assign _=>true
 | .extract _ _=>true
 |_=>false
def FW (ops:Array Oper):List Nat->Array Bool->Bool
 |[],listed=>(Region.ready .any ops listed).isEmpty
 |i::rest,listed=>(match ops[i]? with
   |some o=>decide (Region.ready .any ops listed=[i])||(Ky o.op&&o.guard.isNone&&(Region.ready .any ops listed).contains i&&Region.free .any ops listed i)
   |none=>false)&&FW ops rest (listed.setIfInBounds i true)
def gT (ops:Array Oper):List Nat->List Oper
 |[]=>[]
 |i::r=>match ops[i]? with
  |some o=>o::gT ops r
  |none=>gT ops r
section
variable {P:Program} {ops:Array Oper} {Q:Exit->Act->World->Prop}
theorem acq {o:Oper} {a:Act} {w:World} {n:Next} (he:execOp a.eval o=Sem.pure n) (h:o.asks P a w):False:=by
 have h1:=h.1;rw[he]at h1;have h2:noRoomEvent∈(#[]:Array Event):=h1;simp at h2
theorem acr {o:Oper} {a:Act} {w:World} {n:Halt} (he:execOp a.eval o=Sem.halt n) (h:o.asks P a w):False:=by
 have h1:=h.1;rw[he]at h1;have h2:noRoomEvent∈(#[]:Array Event):=h1;simp at h2
theorem H5 {o:Oper} {a:Act} {w:World} {v:Value} {next:Act->World->Prop} (he:execOp a.eval o=Sem.pure (.value v)) (hg:o.guard=none)
  (h:o.wp P a w next Q\/(o.asks P a w/\LetsOut Q)):∃v,Yields P ops o v a/\next (a.put o.dst v) w:=by
 have hw:Region.wanted o (yielded ops a.tmps)=true:=by simp[Region.wanted,hg]
 have hr:∀w,(execOp a.eval o).run P w= .ok (.value v) w:=λw=>by rw[he];rfl
 rcases h with h|⟨h,_⟩
 ·refine⟨v,.inl ⟨hw,hr⟩,?_⟩;unfold Oper.wp at h;rw[hr w,Oper.upon_value]at h;exact h
 ·exact(acq he h).elim
theorem abb {o:Oper} {a:Act} {w:World} {next:Act->World->Prop} (hm:Ky o.op=true) (hg:o.guard=none)
  (h:o.wp P a w next Q\/(o.asks P a w/\LetsOut Q)):∃v,Yields P ops o v a/\next (a.put o.dst v) w:=by
 obtain⟨dst,op,ty,pos,after,gd⟩:=o;cases op<;>simp only[Ky,kI]at hm
 case move x=>exact H5 (v:=a.eval x) rfl hg h
 case assign x=>exact H5 (v:=a.eval x) rfl hg h
 case extract x k=>
  have key:(∃v,execOp a.eval ⟨dst,.extract x k,ty,pos,after,gd⟩=Sem.pure (.value v))\/∃e,execOp a.eval ⟨dst,.extract x k,ty,pos,after,gd⟩=Sem.halt (.stuck e):=by
   have h0:execOp a.eval ⟨dst,.extract x k,ty,pos,after,gd⟩=(Instr.extract (a.eval x) k).bind λv=>Sem.pure (.value v):=rfl;rw[h0];unfold Instr.extract;split
   ·split
    ·exact .inl ⟨_,rfl⟩
    ·exact .inr ⟨_,rfl⟩
   ·exact .inr ⟨_,rfl⟩
  rcases key with⟨v,hv⟩|⟨e,hv⟩
  ·exact H5 hv hg h
  ·rcases h with h|⟨h,_⟩
   ·unfold Oper.wp at h;rw[hv]at h;exact h.elim
   ·exact(acr hv h).elim
theorem Il (hs:Region.noSelect ops=true) (hQ:∀c a w d v,Q (.panic c) (Act.put a d v) w->Q (.panic c) a w):∀(l:List Nat) (listed:Array Bool) (a:Act) (w:World),FW ops l listed=true->wpList P ops Q (gT ops l) a w->wpAny P .any ops Q l.length listed a w
 |[],listed,a,w,hB,h=>⟨by simpa[FW]using hB,h⟩
 |i::rest,listed,a,w,hB,h=>by
  simp only[FW,bS]at hB;obtain⟨hB,hrest⟩:=hB;cases ho:ops[i]? with
  |none=>rw[ho]at hB;cases hB
  |some o=>
   rw[ho]at hB;simp only[gT,ho]at h;unfold wpList at h;simp only[tz,jQ,bS]at hB;rcases hB with hB|⟨⟨⟨hm,hg⟩,hc⟩,hf⟩
   ·refine wpAny_all hB (by simp) λj hj=>?_;simp only[iZ]at hj;subst hj;unfold wpOp;simp only[ho];split
    ·rename_i hw;rw[bg hw]at h;exact h.imp (Oper.wp_mono λa' w' hh=>Il hs hQ rest _ a' w' hrest hh) id
    ·rename_i hw;rw[aM hw]at h;exact Il hs hQ rest _ _ w hrest h
   ·have hg':o.guard=none:=by simpa using hg
    rw[bg (by simp[Region.wanted,hg'])]at h;obtain⟨v,hy,hn⟩:=abb (ops:=ops) hm hg' h;exact wpAny_take ho hs hf hc (λc a w=>hQ c a w _ _) hy (Il hs hQ rest _ _ w hrest hn)
end
def Cut (C:Cx) (N:Nat) (ops:Array Oper) (L:List aq) (Q':(Nat->Prop)->World->Exit->Act->World->Prop) (fuel:Nat) (listed:Array Bool) (st:my):Prop:=
 ∀F w0 w a zs,nw C.G N F L w0 w a st zs->wpAny C.P .any ops (Q' F w0) fuel listed a w
def bm (s:Sl) (dst:Option Nat) (x:Option AV):Sl:=match dst with
 |none=>s
 |some d=>λt=>if t=d then x else s t
def oE (C:Cx) (N:Nat) (L:List aq) (ops:Array Oper) (o:Oper) (s:Sl) (x:Option AV) (δ:Nu):Prop:=
 cP N o.dst=true/\((lH ops o s=some true/\((∃y,ck C N o s L y/\x=some y/\δ=[])\/∃d cells,o.dst=some d/\gA C N o s L cells/\x=none/\δ=[(d,cells)]))\/
  (lH ops o s=some false/\x=some (.v undef)/\δ=[]))
def fresh (o:Oper) (W:Nu):Prop:=∀d,o.dst=some d->∀p∈W,p.1≠d
def sQ (C:Cx) (N:Nat) (L:List aq) (ops:Array Oper) (Q':(Nat->Prop)->World->Exit->Act->World->Prop) (m:Nat):Nat->Array Bool->my->Prop
 |0,listed,st=>Cut C N ops L Q' m listed st
 |n+1,listed,st=>Region.ready .any ops listed≠[]/\∀i∈Region.ready .any ops listed,∃o x δ,ops[i]? =some o/\fresh o st.2/\oE C N L ops o st.1 x δ/\
   sQ C N L ops Q' m n (listed.setIfInBounds i true) (bm st.1 o.dst x,st.2++δ)
section
variable {C:Cx} {N:Nat} {L:List aq} {ops:Array Oper} {Q':(Nat->Prop)->World->Exit->Act->World->Prop} {m:Nat}
theorem nI {s:Sl} {dst:Option Nat} {x:Option AV} {t:Nat} (h:∀d,dst=some d->t≠d):bm s dst x t=s t:=by
 cases dst with
 |none=>rfl
 |some d=>simp[bm,h d rfl]
theorem Qr (s:Sl) {x y:Option Nat} (u v:Option AV) (h:∀d,x=some d->y≠some d):bm (bm s x u) y v=bm (bm s y v) x u:=by
 cases x with
 |none=>rfl
 |some d=>
  cases y with
  |none=>rfl
  |some e=>
   have hne:e≠d:=λhe=>h d rfl (by rw[he]);funext t;simp only[bm];by_cases h1:t=e
   ·subst h1;simp[hne]
   ·by_cases h2:t=d
    ·subst h2;simp[h1]
    ·simp[h1,h2]
theorem HW {o:Oper} {t:Nat} (h:t∈tmpsOf o):t∈o.looksAt ops:=mE _ h
theorem xT {o:Oper} {s s':Sl} (h:∀t∈o.looksAt ops,s' t=s t):lH ops o s'=lH ops o s:=by
 unfold lH;cases hg:o.guard with
 |none=>rfl
 |some p=>
  obtain⟨j,want⟩:=p;simp only;cases hj:(ops[j]?).bind (·.dst)with
  |none=>rfl
  |some d=>
   have hd:d∈o.looksAt ops:=anJ _ (by simp only[hg,hj];simp);simp only[h d hd]
theorem oE.congr {o:Oper} {s s':Sl} {x:Option AV} {δ:Nu} (h:oE C N L ops o s x δ) (he:∀t∈o.looksAt ops,s' t=s t):oE C N L ops o s' x δ:=by
 refine⟨h.1,?_⟩;rw[xT he];have ht:∀t∈tmpsOf o,s' t=s t:=λt ht=>he t (HW ht);exact h.2.imp (λ⟨h1,h2⟩=>⟨h1,h2.imp (λ⟨x,g1,g2⟩=>⟨x,g1.congr ht,g2⟩) λ⟨d,cs,g0,g1,g2⟩=>⟨d,cs,g0,g1.congr ht,g2⟩⟩) id
theorem oE.fst {o:Oper} {s:Sl} {x:Option AV} {δ:Nu} (h:oE C N L ops o s x δ):∀p∈δ,o.dst=some p.1:=by
 rcases h.2 with⟨_,⟨y,_,_,rfl⟩|⟨d,cs,h0,_,_,rfl⟩⟩|⟨_,_,rfl⟩
 ·simp
 ·simpa using h0
 ·simp
theorem Qs:∀(n:Nat) (listed:Array Bool) (s:Sl) (W W':Nu),W.Perm W'->sQ C N L ops Q' m n listed (s,W)->sQ C N L ops Q' m n listed (s,W')
 |0,listed,s,W,W',hp,h=>λF w0 w a zs hd=>by
  obtain⟨zs',hd'⟩:=hd.perm hp.symm;exact h F w0 w a zs' hd'
 |n+1,listed,s,W,W',hp,h=>⟨h.1,λi hi=>by
  obtain⟨o,x,δ,h1,h2,h3,h4⟩:=h.2 i hi;exact⟨o,x,δ,h1,λd hd p hpm=>h2 d hd p (hp.mem_iff.2 hpm),h3,Qs n _ _ _ _ (hp.append_right δ) h4⟩⟩
theorem abI {i:Nat} {oi:Oper} {R:Nat} (hi:ops[i]? =some oi):
  ∀(n:Nat) (listed:Array Bool) (pre:List Nat) (st:my) (x:Option AV) (δ:Nu),pre.length=n+1->pre.Nodup->i∈pre->qf ops listed->
   (∀j oj,ops[j]? =some oj->j≠i->listed.getD j true=false->reach ops R i j=false->oi.apart ops oj=true/\j∈pre)->
   i∈Region.ready .any ops listed->fresh oi st.2->oE C N L ops oi st.1 x δ->sQ C N L ops Q' m n (listed.setIfInBounds i true) (bm st.1 oi.dst x,st.2++δ)->
   sQ C N L ops Q' m (n+1) listed st:=by
 intro n
 induction n with
 |zero=>
  intro listed pre st x δ hl hnd hip hc hfree hr hf hs H;refine⟨λh=>(by rw[h]at hr;cases hr),λj hj=>?_⟩;by_cases hji:j=i
  ·subst hji;exact⟨oi,x,δ,hi,hf,hs,H⟩
  ·exfalso;obtain⟨hjun,oj,hoj,hall⟩:=mem_ready.1 hj;have hnr:reach ops R i j=false:=by
    cases hre:reach ops R i j with
    |false=>rfl
    |true=>
     have h1:=O3 hc R i j hre λo ho e he hb=>by rw[hoj]at ho;cases ho;exact hall e he hb
     have h0:=(mem_ready.1 hr).1;rcases nE i listed.size with h'|h'
     ·simp[h']at h0 h1;rw[h0]at h1;cases h1
     ·simp[tq h']at h1
   have hjp:=(hfree j oj hoj hji hjun hnr).2
   match pre,hl,hip,hjp with
   |[p],_,hip,hjp=>simp at hip hjp;exact hji (hjp.trans hip.symm)
 |succ n ih=>
  intro listed pre st x δ hl hnd hip hc hfree hr hf hs H;refine⟨λh=>(by rw[h]at hr;cases hr),λj hj=>?_⟩;by_cases hji:j=i
  ·subst hji;exact⟨oi,x,δ,hi,hf,hs,H⟩
  ·obtain⟨oj,y,ε,hoj,hfj,hsj,Hj⟩:=H.2 j (ready_mono hj hji);obtain⟨hjun,oj',hoj',hall⟩:=mem_ready.1 hj;rw[hoj]at hoj';cases hoj';have hnr:reach ops R i j=false:=by
    cases hre:reach ops R i j with
    |false=>rfl
    |true=>
     have h1:=O3 hc R i j hre λo ho e he hb=>by rw[hoj]at ho;cases ho;exact hall e he hb
     have h0:=(mem_ready.1 hr).1;rcases nE i listed.size with h'|h'
     ·simp[h']at h0 h1;rw[h0]at h1;cases h1
     ·simp[tq h']at h1
   obtain⟨hap,hjp⟩:=hfree j oj hoj hji hjun hnr;obtain⟨a1,a2,a3⟩:=Oper.apart_spec hap;have hsj':oE C N L ops oj st.1 y ε:=hsj.congr λt ht=>(nI λd hd he=>a1 d hd (he▸ht)).symm;have hsi':oE C N L ops oi (bm st.1 oj.dst y) x δ:=hs.congr λt ht=>nI λd hd he=>a3 d hd (he▸ht);refine⟨oj,y,ε,hoj,λd hd p hp=>hfj d hd p (mE _ hp),hsj',?_⟩;refine ih (listed.setIfInBounds j true) (pre.erase j) (bm st.1 oj.dst y,st.2++ε) x δ (by rw[anS hjp,hl];rfl) (hnd.erase j) ((aao (jm hji)).2 hip) (hc.set hj) ?_ (ready_mono hr (jm hji)) ?_ hsi' ?_
   ·intro k ok hk hki hun hno;have hjk:j≠k:=by
     intro hjk;subst hjk;have:j<listed.size:=by
      rcases nE j listed.size with h'|h'
      ·exact h'
      ·simp[tq h']at hjun
     simp[this]at hun
    rw[getD_set_ne true hjk]at hun;obtain⟨g1,g2⟩:=hfree k ok hk hki hun hno;exact⟨g1,(aao (jm hjk)).2 g2⟩
   ·intro d hd p hp;rcases b7.1 hp with hp|hp
    ·exact hf d hd p hp
    ·have:=hsj.fst p hp;intro he;exact a2 d hd (by rw[this,he])
   ·rw[aap _ _ hji,<-Qr _ x y a2];refine Qs n _ _ _ _ ?_ Hj;rw[lX,lX];exact(Hy).append_left _
theorem DT {w:World} {A:Nat->Prop} {a:Act} {s:Sl} (h:gM w A N a s) {o:Oper} {b:Bool} (hw:lH ops o s=some b):Region.wanted o (yielded ops a.tmps)=b:=by
 unfold lH at hw;unfold Region.wanted;cases hg:o.guard with
 |none=>simp only[hg]at hw⊢;simpa using hw
 |some p=>
  obtain⟨j,want⟩:=p;simp only[hg]at hw⊢;cases hj:(ops[j]?).bind (·.dst)with
  |none=>simp only[hj]at hw;simp only[aE]at hw;subst hw;simp[yielded,hj]
  |some d=>
   simp only[hj]at hw;have hget:∀u,(∃x,s d=some x/\Rel w A x u/\a.tmps.getD d undef=u)->a.tmps[d]? =some u:=by
    rintro u ⟨x,h1,_,h3⟩;have:=(h.2 d x h1).1;rw[<-h.1]at this;rw[HI]at h3;simp[this]at h3⊢;exact h3
   split at hw
   ·rename_i bb hs;simp only[aE]at hw;subst hw;have h1:=(h.2 d _ hs).2;simp only[Rel]at h1;have:=hget (.bool bb) ⟨_,hs,by simp only[Rel],h1⟩;simp only[yielded,hj,au,this];cases bb<;>cases want<;>rfl
   ·rename_i tt hs;simp only[aE]at hw;subst hw;have h1:=(h.2 d _ hs).2;simp only[Rel]at h1;have:=hget (.tuple tt) ⟨_,hs,by simp only[Rel],h1⟩;simp[yielded,hj,this]
   ·cases hw
theorem oO {F:Nat->Prop} {L W:List aq}:Al (λb=>F b\/b∈ids W) L=Al F (L++W):=
 funext λb=>propext (by simp only[Al,cB,b7];constructor<;>(rintro ⟨h1,h2⟩;simp_all))
theorem bM.front {G:Gl} {w:World} {F:Nat->Prop} {L W:List aq} (h:bM G w F (L++W)):bM G w (λb=>F b\/b∈ids W) L:=by
 have hA:Al (λb=>F b\/b∈ids W) L=Al F (L++W):=oO;have hnd:=h.nodup;rw[cB,ly]at hnd;refine⟨λx hx=>by rw[hA];exact h.eG x (by simp[hx]),hnd.1,λb hb=>?_,λb hb=>?_,by rw[hA];exact h.gK⟩
 ·rintro (h1|h1)
  ·exact h.free b (by simp[cB,hb]) h1
  ·exact hnd.2.2 b hb b h1 rfl
 ·rcases hb with hb|hb
  ·exact h.bound b hb
  ·exact h.lt b (by simp[cB,hb])
theorem DP {a:Act} {d:Nat} {v:Value} (h:d<a.tmps.size):(a.put (some d) v).tmps.getD d undef=v:=OW _ _ _ h
theorem pE {a:Act} {dst:Option Nat} {t:Nat} {v:Value} (h:∀d,dst=some d->t≠d):(a.put dst v).tmps.getD t undef=a.tmps.getD t undef:=by
 cases dst with
 |none=>rfl
 |some d=>exact OV _ _ _ _ (jm (h d rfl))
theorem Ez {a:Act} {dst:Option Nat} {v:Value}:(a.put dst v).tmps.size=a.tmps.size:=by cases dst<;>simp[Act.put]
theorem Ao {a:Act} {dst:Option Nat} {v:Value}:(a.put dst v).defers=a.defers:=by cases dst<;>rfl
theorem nw.Wb {G:Gl} {F:Nat->Prop} {w0 w w':World} {a:Act} {st:my} {zs:List ((Nat×List AV)×Nat)} (h:nw G N F L w0 w a st zs) {o:Oper} (hd:cP N o.dst=true) (hf:fresh o st.2) {x:AV} {v:Value}
  (hv:Rel w' (Al F (L++dw zs)) x v) (hc:ji w w'):nw G N F L w0 w' (a.put o.dst v) (bm st.1 o.dst (some x),st.2++[]) zs:=by
 have hk:=(hc.ext (L:=L++dw zs)).keeps (F:=F);refine⟨by rw[Ez];exact h.size,by rw[Ao];exact h.df,by simpa using h.eq,h.hp.later hc.2.2.2,λt y hy=>?_,λz hz=>?_,h.cls.trans hc,h.new⟩
 ·by_cases htd:o.dst=some t
  ·have htN:=Eh hd t htd;rw[htd]at hy⊢;simp only[bm,if_true,aE]at hy;subst hy;exact⟨htN,by rw[DP (by rw[h.size];exact htN)];exact hv⟩
  ·have hne:∀d,o.dst=some d->t≠d:=λd hd' he=>htd (by rw[hd',he]);have hy':bm st.1 o.dst (some x) t=some y:=hy;rw[nI hne]at hy';obtain⟨h1,h2⟩:=h.sl t y hy';exact⟨h1,by rw[pE hne];exact h2.keep hk⟩
 ·obtain⟨h1,h2⟩:=h.nu z hz;refine⟨h1,?_⟩;rw[pE]
  ·exact h2
  ·intro d hd' he;exact hf d hd' z.1 (by rw[<-h.eq];exact dP.2 ⟨z,hz,rfl⟩) he
theorem nw.agR {G:Gl} {F:Nat->Prop} {w0 w:World} {a:Act} {st:my} {zs:List ((Nat×List AV)×Nat)} (h:nw G N F L w0 w a st zs) {o:Oper} {d:Nat} (hd:o.dst=some d) (hdN:d<N) (hf:fresh o st.2) {cells:List AV} {vs:List Value} {e:TypeId}
  (hv:aL w (Al F (L++dw zs)) cells vs):nw G N F L w0 (w.alloc (.cells (List.toArray vs) e)) (a.put o.dst (.pointer (some ⟨w.heap.size,0,none⟩))) (bm st.1 o.dst none,st.2++[(d,cells)]) (zs++[((d,cells),w.heap.size)]):=by
 have hc:ji w (w.alloc (.cells vs.toArray e)):=⟨⟨rfl,.of (bX _)⟩,rfl,rfl,by simp,λb hb=>lA w _ b hb⟩;have hents:dw (zs++[((d,cells),w.heap.size)])=dw zs++[.box w.heap.size cells]:=by simp[dw]
 have hext:=nK w (.cells vs.toArray e) (L++dw zs) (.box w.heap.size cells) (by simp[aq.ids]);have hkeep:=hext.keeps (F:=F);rw[lX,<-hents]at hkeep;refine⟨by rw[Ez];exact h.size,by rw[Ao];exact h.df,by simp[h.eq],?_,λt y hy=>?_,λz hz=>?_,h.cls.trans hc,λz hz=>?_⟩
 ·rw[hents,<-lX];refine h.hp.push (by simp) (λb hb=>lA w _ b hb) (by simp[aq.ids]) (by simp[aq.ids]) ?_;exact⟨e,vs,l6 w _,by rw[lX,<-hents];exact hv.keep hkeep⟩
 ·by_cases htd:t=d
  ·subst htd;rw[hd]at hy;simp[bm]at hy
  ·have hne:∀d',o.dst=some d'->t≠d':=λd' hd' he=>htd (by rw[hd]at hd';cases hd';exact he);have hy':bm st.1 o.dst none t=some y:=hy;rw[nI hne]at hy';obtain⟨h1,h2⟩:=h.sl t y hy';exact⟨h1,by rw[pE hne];exact h2.keep hkeep⟩
 ·rcases b7.1 hz with hz|hz
  ·obtain⟨h1,h2⟩:=h.nu z hz;refine⟨h1,?_⟩;rw[pE]
   ·exact h2
   ·intro d' hd' he;exact hf d' hd' z.1 (by rw[<-h.eq];exact dP.2 ⟨z,hz,rfl⟩) he
  ·simp only[iZ]at hz;subst hz;rw[hd];exact⟨hdN,DP (by rw[h.size];exact hdN)⟩
 ·rcases b7.1 hz with hz|hz
  ·exact h.new z hz
  ·simp only[iZ]at hz;subst hz;exact h.cls.2.2.2.1
theorem Qt:∀(n:Nat) (listed:Array Bool) (st:my),sQ C N L ops Q' m n listed st->Cut C N ops L Q' (n+m) listed st
 |0,listed,st,h=>by rw[kJ];exact h
 |n+1,listed,st,h=>λF w0 w a zs hd=>by
  rw[show n+1+m=(n+m)+1 by omega];refine⟨λh0=>absurd h0 h.1,λi hi=>?_⟩;obtain⟨o,x,δ,ho,hf,hs,hn⟩:=h.2 i hi;have ih:=Qt n _ _ hn F w0;have hsl:gM w (Al F (L++dw zs)) N a st.1:=⟨hd.size,hd.sl⟩;have hopd:mg w (Al (λb=>F b\/b∈ids (dw zs)) L) N a o st.1:=λt _ y hy=>by rw[oO];exact hd.sl t y hy
  unfold wpOp;simp only[ho];obtain⟨hdst,hs⟩:=hs;rcases hs with⟨hw,hs⟩|⟨hw,rfl,rfl⟩
  ·rw[bg (DT hsl hw)];refine .inl ?_;rcases hs with⟨y,hp,rfl,rfl⟩|⟨d,cells,hdd,hp,rfl,rfl⟩
   ·refine hp _ w a hd.size hd.df hd.hp.front hopd _ _ λv w' hv hc=>?_;rw[oO]at hv;exact ih w' _ zs (hd.Wb hdst hf hv hc)
   ·refine hp _ w a hd.size hd.df hd.hp.front hopd _ _ λvs e hv=>?_;rw[oO]at hv;exact ih _ _ _ (hd.agR hdd (Eh hdst d hdd) hf hv)
  ·rw[aM (by rw[DT hsl hw];simp)];exact ih w _ zs (hd.Wb hdst hf (by simp only[Rel]) (ji.refl w))
end
def sL (C:Cx) (N:Nat) (L:List aq) (ops:Array Oper) (Qe:my->Prop):List Oper->my->Prop
 |[],st=>Qe st
 |o::rest,st=>fresh o st.2/\∃x δ,oE C N L ops o st.1 x δ/\sL C N L ops Qe rest (bm st.1 o.dst x,st.2++δ)
def Kz (ops:Array Oper) (pre:List Nat) (listed:Array Bool) (i:Nat):Bool:=
 match ops[i]? with
 |none=>false
 |some oi=>(List.range ops.size).all λj=>j==i||listed.getD j true||(match ops[j]? with
   |some oj=>oi.apart ops oj&&pre.contains j
   |none=>true)||reach ops 3 i j
def fW:List Nat->Bool
 |[]=>true
 |x::r=>!r.contains x&&fW r
def Gb (ops:Array Oper):List Nat->Array Bool->Bool
 |[],_=>true
 |i::rest,listed=>(Region.ready .any ops listed).contains i&&Kz ops (i::rest) listed i&&fW (i::rest)&&Gb ops rest (listed.setIfInBounds i true)
def lE (l:List Nat) (listed:Array Bool):Array Bool:=l.foldl (λq i=>q.setIfInBounds i true) listed
section
variable {C:Cx} {N:Nat} {L:List aq} {ops:Array Oper} {Q':(Nat->Prop)->World->Exit->Act->World->Prop} {m:Nat}
theorem H6:∀{l:List Nat},fW l=true->l.Nodup
 |[],_=>by simp
 |x::r,h=>by
  simp only[fW,bS,kL]at h;rw[OJ];exact⟨(λhx=>by have:=tu.2 hx;rw[h.1]at this;cases this),H6 h.2⟩
theorem Ri:∀(l:List Nat) (listed:Array Bool) (st:my),qf ops listed->Gb ops l listed=true->(gT ops l).length=l.length->
  sL C N L ops (λst=>Cut C N ops L Q' m (lE l listed) st) (gT ops l) st->sQ C N L ops Q' m l.length listed st
 |[],listed,st,_,_,_,h=>h
 |i::rest,listed,st,hc,hB,hl,h=>by
  simp only[Gb,bS]at hB;obtain⟨⟨⟨hr,hf⟩,hnd⟩,hB⟩:=hB;have hr':i∈Region.ready .any ops listed:=by simpa using hr
  cases ho:ops[i]? with
  |none=>simp[Kz,ho]at hf
  |some o=>
   simp only[gT,ho,gP]at hl h;obtain⟨h1,x,δ,h2,h3⟩:=h;refine abI (R:=3) ho rest.length listed (i::rest) st x δ (by simp) (H6 hnd) (by simp) hc ?_ hr' h1 h2 ?_
   ·intro j oj hj hji hun hno;simp only[Kz,ho,gf,Dw]at hf;have:=hf j (gQ.1 hj).1;simp only[hj,tz,beq_iff_eq,hji,false_or,hun,hno,kI,or_false,bS]at this;exact⟨this.1,by simpa using this.2⟩
   ·exact Ri rest _ _ (hc.set hr') hB (by omega) (by simpa[lE]using h3)
theorem ae1:qf ops (Array.replicate ops.size false):=by
 intro j o _ h;simp[Array.getElem?_replicate]at h;split at h<;>simp at h
theorem Iw {Qe Qe':my->Prop} (h:∀st,Qe st->Qe' st):∀{l:List Oper} {st:my},sL C N L ops Qe l st->sL C N L ops Qe' l st
 |[],_,hh=>h _ hh
 |_::_,_,⟨h1,x,δ,h2,h3⟩=>⟨h1,x,δ,h2,Iw h h3⟩
def gX (n:Nat):List ((Nat×List AV)×Nat)->Sg
 |[]=>[]
 |z::zs=>(z.1.1,.own n z.2 0)::gX (n+1) zs
theorem tY {O:Sg}:∀{zs:List ((Nat×List AV)×Nat)} {n t:Nat} {x:AV},look (gX n zs++O) t=some x->(∃z∈zs,∃k,t=z.1.1/\x= .own k z.2 0)\/look O t=some x
 |[],_,_,_,h=> .inr h
 |z::zs,n,t,x,h=>by
  simp only[gX,ko,look]at h;cases hb:Nat.beq z.1.1 t with
  |true=>
   rw[hb]at h;simp only[aE]at h;exact .inl ⟨z,by simp,n,(bQ hb).symm,h.symm⟩
  |false=>
   rw[hb]at h;rcases tY h with⟨z',h1,h2⟩|h
   ·exact .inl ⟨z',by simp[h1],h2⟩
   ·exact .inr h
def jD:Nu->(List ((Nat×List AV)×Nat)->Prop)->Prop
 |[],P=>P []
 |p::W,P=>∀b:Nat,jD W λzs=>P ((p,b)::zs)
theorem Ei:∀{W:Nu} {P:List ((Nat×List AV)×Nat)->Prop},jD W P->∀zs,zs.map (·.1)=W->P zs
 |[],P,h,zs,hz=>by
  cases zs with
  |nil=>exact h
  |cons _ _=>simp at hz
 |p::W,P,h,zs,hz=>by
  cases zs with
  |nil=>simp at hz
  |cons z zs=>
   simp only[dp,kn]at hz;obtain⟨h1,h2⟩:=hz;have:=Ei (h z.2) zs h2;obtain⟨p',b⟩:=z;simp only at h1;subst h1;exact this
