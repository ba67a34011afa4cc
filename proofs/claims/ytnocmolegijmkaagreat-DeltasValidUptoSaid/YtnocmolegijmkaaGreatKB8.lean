/- The program logic, eighth part: make, elements of own rows, package-level arrays, regions whose order is open. -/
import Derived.Test.YtnocmolegijmkaaGreatKB7
import Derived.Deep.Quiet
set_option linter.all false
noncomputable section
namespace Go.Bw
open Go
section
variable {N:Nat} {Q:AQ} {O:Sg} {L:List aj} {ops:Array Oper} {rest:List Oper} {E:Env} {w:World} {A:Nat->Prop} {a:Act}
theorem Gr (z:List Value):∀n,bc w A z.length (List.replicate n (z.map .v)) (eB n z)
 |0=>by simp[eB,bc]
 |n+1=>by
  simp only[List.replicate_succ,eB,bc];exact⟨z,_,rfl,by simp,mh z,Gr z n⟩
theorem GV (z:List Value):∀n m,eB (n+m) z=eB n z++eB m z
 |0,m=>by simp[eB]
 |n+1,m=>by rw[show n+1+m=(n+m)+1 by omega];simp[eB,GV z n m]
theorem bE.make {d:Nat} {t:TypeId} {x y:Operand} {ty:TypeId} {pos:String} {after:Array Edge} {e k sz by' sz' by'':Nat} {z z':List Value} {td':TD} {kl kc:IntKind} {li ci:Int} (l c:Nat)
  (hb:c*by''<=140737488355328) (hl:l<=c) (hx:ev (look O) x=some (.v (.int kl li))) (hli:li=(l:Int)) (hy:ev (look O) y=some (.v (.int kc ci))) (hci:ci=(c:Int)) (ht:aP E.T t=some ⟨.slice e k,sz,by',z⟩) (hte:aP E.T e=some ⟨td',sz',by'',z'⟩)
  (hk:Nat.ble 1 k=true) (hby:Nat.ble 1 by''=true) (hd:Nat.blt d N=true)
  (kk:∀b,bE E.toCx N ops rest Q ((d,.os L.length (some ⟨b,0,none⟩) l c)::O) (L++[.row (.slice (some ⟨b,0,none⟩) l c) e k (List.replicate l (z'.map .v))])):bE E.toCx N ops (⟨some d,.makeSlice t x y,ty,pos,after,none⟩::rest) Q O L:=
 bE.za (R:=λr L'=>∃b,r= .os L.length (some ⟨b,0,none⟩) l c/\L'=L++[.row (.slice (some ⟨b,0,none⟩) l c) e k (List.replicate l (z'.map .v))]) rfl hd (λF a w hs=>by
  obtain⟨hu,hke,hh⟩:=kK (E.tok _ _ ht) rfl;obtain⟨_,ti,_,hi,_,hsz,hbb,zv,hz1,hz2⟩:=dW (E.tok _ _ hte);have hzl:=wE (E.tok _ _ hte);simp only at hsz hbb hz2 hzl;have hk:=dj hk;have hby:=dj hby;have hsize:ti.size=k:=by rw[hke];simp[fW,hi]
  have hzs:zv.cells.size=z'.length:=by have:=congrArg List.length hz2;simpa using this
  have hzk:z'.length=k:=by omega
  have hx':=a8 hs.sg hx;have hy':=a8 hs.sg hy;simp only[Rel]at hx' hy';subst hli;subst hci;have hcb:c<=140737488355328:=mR (z7 c hby) hb;have hr:=run_make (P:=E.P) w t e ti zv hu hi hz1 kl kc (l:Int) (c:Int) (by omega) (by omega) (by rw[hbb,<-Int.natCast_mul,vw];omega) (by omega);simp only[iR]at hr;have hm:madeCells zv.cells (c*ti.size)=(eB c z').toArray:=by
   apply iQ;have:=HB zv.cells c;rw[hzs,hzk,hz2]at this;simp only[madeCells,hsize];simpa[hzs,hzk]using this
  rw[hm]at hr;have hext:=mi w (.cells (eB c z').toArray e) L (.row (.slice (some ⟨w.heap.size,0,none⟩) l c) e k (List.replicate l (z'.map .v))) (by simp[aj.ids,Value.ownBlock]);refine⟨.slice (some ⟨w.heap.size,0,none⟩) l c,_,_,_,⟨w.heap.size,rfl,rfl⟩,by simp[execOp,hx',hy',hr],by simp only[Rel],?_,hext⟩;refine hs.hp.push (by simp) (λb hb=>jZ w _ b hb) (by simp[aj.ids,Value.ownBlock]) (by simp[aj.ids,Value.ownBlock]) ?_;refine⟨eB l z',by rw[<-hzk];exact Gr z' l,?_,.inr ⟨w.heap.size,c,_,by simp,mP _,kJ w _,by simpa using hl,by simp only[maxLen];omega,?_,?_⟩⟩
  ·simp[sB,hzk]
  ·simp[sB,hzk]
  ·have:c=l+(c-l):=by omega
   rw[this,GV];simp only[FC];rw[<-hzk,<-sB];exact M7)
  (λ_ _ ⟨b,h1,h2⟩=>by subst h1;subst h2;exact kk b)
theorem Oc {tg:Nat} {o:Oper} {t:TypeId} {x ix:Operand} (ho:o.op= .indexAddr t x ix) {e k sz by':Nat} {z:List Value} {i:Nat} {a0:Option Addr} {n0 c0:Nat} {rows:List (List AV)} {kd:IntKind} {n:Int} (j:Nat) (ht:aP E.T t=some ⟨.slice e k,sz,by',z⟩) (hx:ev (look O) x=some (.os tg a0 n0 c0)) (hi:nth L i=some (.row (.slice a0 n0 c0) e k rows)) (hix:ev (look O) ix=some (.v (.int kd n)))
  (hj:n=(j:Int)) (hr:j<rows.length):nZ E.toCx N o O L (.oe i (.slice a0 n0 c0) (j*k)):=λF a w hs=>by
 obtain⟨hu,hke,hh⟩:=kK (E.tok _ _ ht) rfl;have h1:=a8 hs.sg hx;have h2:=a8 hs.sg hix;simp only[Rel]at h1 h2;subst hj;obtain⟨vs,h3,h4,h5⟩:=ie hs.hp hi;rcases h5 with⟨_,h0⟩|⟨g,cap,cur,hv,_,hg,hn,_⟩
 ·omega
 ·cases hv;refine⟨.pointer (some ⟨g,j*k,none⟩),by simp only[Rel];exact⟨g,_,_,rfl,rfl⟩,λw' _=>?_⟩;rw[hke];simp[execOp,ho,h1,h2,Instr.indexAt,asIntOf,run_underlying hu,hr,lD hh,Addr.add_lit]
theorem NN {tg:Nat} {o:Oper} {t:TypeId} {p:Operand} (ho:o.op= .load t p) (j off:Nat) {i:Nat} {v:Value} {e k n:Nat} {rows:List (List AV)} {r:List AV} {x:AV} (hp:ev (look O) p=some (.oe tg v n)) (hn:n=j*k+off) (hi:nth L i=some (.row v e k rows)) (hr:rows[j]? =some r) (hl:iA E.T t r off=some x):
  nZ E.toCx N o O L x:=λF a w hs=>by
 have h1:=a8 hs.sg hp;simp only[Rel]at h1;obtain⟨g,len,cap,hv,h1⟩:=h1;obtain⟨vs,h2,h3⟩:=ie hs.hp hi;obtain⟨hrk,us,h4,h5⟩:=h2.get hr;have hlen:j*k+us.length<=vs.length:=by
  rw[h2.length,h4.length,hrk];have:j<rows.length:=(cX.1 hr).1
  calc j*k+k=(j+1)*k:=by rw[jx,Aa]
   _<=rows.length*k:=FD k (by omega)
 subst hn;rcases h3.2 with⟨hvn,_⟩|⟨g',cap',cur,hvg,_,hg,_,_,_,htake⟩
 ·rw[hv]at hvn;cases hvn
 ·rw[hv]at hvg;cases hvg;have hb:g<w.heap.size:=(kF.1 hg).1;obtain⟨val,h6,h7⟩:=PE (E:=E) (b:=g) (s:=j*k) hl h4;refine⟨val,h6,λw' hw'=>?_⟩;have:=h7 w' (λi u hiu=>by
   have h8:=h5 i u hiu;rw[<-htake,kI]at h8;split at h8
   ·have hc:cur[j*k+i]? =some u:=by simpa using h8
    simp[World.cell?,hw'.2 g hb,hg,hc]
   ·cases h8)
  simp[execOp,ho,h1,Instr.loadAt,Instr.sureAddr,this]
theorem bc.set {k:Nat}:∀{rows:List (List AV)} {vs us:List Value} {j:Nat} {r:List AV},bc w A k rows vs->j<rows.length->r.length=k->aG w A r us->bc w A k (rows.set j r) (cF vs (j*k) us)
 |[],_,_,_,_,_,hlt,_,_=>by simp at hlt
 |q::rs,vs,us,0,r,h,_,hk,hr=>by
  simp only[bc]at h;obtain⟨v1,v2,rfl,hq,h1,h2⟩:=h;simp only[Fv,bc,M8];refine⟨us,v2,?_,hk,hr,h2⟩;have hlen:us.length=v1.length:=by rw[hr.length,h1.length,hk,hq]
  have key:∀(us v1:List Value),us.length=v1.length->cF (v1++v2) 0 us=us++v2:=by
   intro us
   induction us with
   |nil=>intro v1 hl;have:v1=[]:=lv (by simpa using hl.symm);subst this;cases v2<;>simp[cF,over]
   |cons u us ih=>intro v1 hl;cases v1 with
    |nil=>simp at hl
    |cons x v1=>
     have:=ih v1 (by simpa using hl);simp only[iO];have h0:∀(l:List Value) (ys:List Value),cF l 0 ys=over l ys:=by intro l ys;cases l<;>rfl
     rw[h0]at this⊢;simp[over,this]
  exact key us v1 hlen
 |q::rs,vs,us,j+1,r,h,hj,hk,hr=>by
  simp only[bc]at h;obtain⟨v1,v2,rfl,hq,h1,h2⟩:=h;simp only[sr,bc];have hl1:v1.length=k:=by rw[h1.length,hq]
  refine⟨v1,cF v2 (j*k) us,?_,hq,h1,bc.set h2 (by simpa using hj) hk hr⟩;have key:∀(v1:List Value) (m:Nat),cF (v1++v2) (v1.length+m) us=v1++cF v2 m us:=by
   intro v1 m
   induction v1 with
   |nil=>simp
   |cons x v1 ih=>rw[eG,show v1.length+1+m=(v1.length+m)+1 by omega];simp[cF,ih]
  have:=key v1 (j*k);rw[hl1]at this;rw[<-this];congr 1;rw[jx];omega
theorem sA {D:Type}:∀{xs ys:List D} {p:Nat},p+ys.length<=xs.length->(cF xs p ys).length=xs.length
 |[],ys,p,h=>by
  have:ys=[]:=lv (by simp at h;simp[h.2]);subst this;rw[qg]
 |x::xs,[],p,_=>by rw[qg]
 |x::xs,y::ys,0,h=>by
  have h0:cF xs 0 ys=over xs ys:=by cases xs<;>rfl
  have:=sA (xs:=xs) (ys:=ys) (p:=0) (by simpa using h);rw[h0]at this;simp[cF,over,this]
 |x::xs,y::ys,p+1,h=>by
  simp only[cF,eG];rw[sA (by simp at h⊢;omega)]
theorem sI {D:Type}:∀{xs ys:List D} {p:Nat},p+ys.length<=xs.length->∀i,(cF xs p ys)[i]? =if p<=i/\i<p+ys.length then ys[i-p]? else xs[i]?
 |xs,[],p,_,i=>by rw[qg,bI (by simp only[mQ];omega)]
 |[],y::ys,p,h,i=>by simp at h
 |x::xs,y::ys,0,h,i=>by
  have h0:cF xs 0 ys=over xs ys:=by cases xs<;>rfl
  have ih:=sI (xs:=xs) (ys:=ys) (p:=0) (by simpa using h);rw[h0]at ih;simp only[cF,over];cases i with
  |zero=>simp
  |succ i=>
   simp only[mS,ih i,eG];by_cases hi:i<ys.length
   ·rw[ck (by omega),ck (by omega)];simp
   ·rw[bI (by omega),bI (by omega)]
 |x::xs,y::ys,p+1,h,i=>by
  simp only[cF];cases i with
  |zero=>simp
  |succ i=>
   simp only[mS];rw[sI (by simp at h⊢;omega) i];by_cases hi:p<=i/\i<p+(y::ys).length
   ·rw[ck hi,ck (by omega)];congr 1;omega
   ·rw[bI hi,bI (by omega)]
theorem FQ {tg:Nat} {o:Oper} {t:TypeId} {p x:Operand} (ho:o.op= .store t p x) (j off:Nat) {i:Nat} {v:Value} {e k n:Nat} {rows:List (List AV)} {r r':List AV} {y:AV} {ti:TI} (hp:ev (look O) p=some (.oe tg v n)) (hn:n=j*k+off) (hx:ev (look O) x=some y) (hi:nth L i=some (.row v e k rows)) (hr:rows[j]? =some r)
  (ht:aP E.T t=some ti) (hk:Nat.beq (bW y).length ti.size=true) (h1:ek (bW y)=true) (hl:ew r off (bW y)=some r'):
  zc E.toCx N o O L (L.set i (.row v e k (rows.set j r'))):=λF a w hs=>by
 have hp':=a8 hs.sg hp;simp only[Rel]at hp';obtain⟨g,len,cap,hv,hp'⟩:=hp';have hy:=sH (a8 hs.sg hx);obtain⟨l,rr,rfl,hset⟩:=sM hi;simp only[hset];obtain⟨vs,h2,h3⟩:=hs.hp.ec (.row v e k rows) (by simp);obtain⟨hrk,us,h4,h5⟩:=h2.get hr;have hjlt:j<rows.length:=(cX.1 hr).1;have hlen:=sC hl;have hyl:=hy.length;subst hn;obtain⟨h30,h3⟩:=h3;rcases h3 with⟨hvn,_⟩|⟨g',cap',cur,hvg,_,hg,hnc,hcm,hcs,htake⟩
 ·rw[hv]at hvn;cases hvn
 ·rw[hv]at hvg;cases hvg;have hvl:vs.length=rows.length*k:=h2.length;have hjk:(j+1)*k<=rows.length*k:=FD k (by omega);rw[jx,Aa]at hjk;have hcurlen:vs.length<=cur.toList.length:=by rw[<-htake,iS];omega
  have hg':w.heap[g]? =some (.cells cur.toList.toArray e (0,0)):=by simpa using hg
  obtain⟨w',h6,h7,h8,h9,h10,h11,h12⟩:=Ai (P:=E.P) g e (a.eval x).cells.toList 0 (j*k+off) cur.toList w hg' (by omega) (we h1 hy);have hids:∀c∈aj.ids (.row v e k (rows.set j r')),c∈aj.ids (.row v e k rows)\/w.heap.size<=c:=λc hc=> .inl hc;have hown:aj.ids (.row v e k rows)=[g]:=by simp[aj.ids,hv,Value.ownBlock]
  have hoth:∀c,c∉aj.ids (.row v e k rows)->w'.heap[c]? =w.heap[c]? :=λc hc=>h12 c (λe=>hc (by rw[hown,e];simp));have hkeep:cR w (Al F (l++aj.row v e k rows::rr)) w' (Al F (l++aj.row v e k (rows.set j r')::rr)):=by
   refine⟨by omega,λc hc ha=>⟨?_,hoth c λhcb=>ha.2 (by simp[b5,cy,hcb])⟩⟩;simpa[Al,b5,cy,aj.ids]using ha
  refine⟨w',?_,?_,?_⟩
  ·have hsz:(a.eval x).cells.size=ti.size:=by
    have:=bg hk;rw[<-hyl]at this;simpa using this
   simp[execOp,ho,hp',Instr.storeAt,Instr.sureAddr,storeVar,A6 (E.tok _ _ ht),hsz,h6]
  ·refine hs.hp.rT (by omega) (λc _ hc=>hoth c hc) hids (by simp[aj.ids,hv,Value.ownBlock]) ?_;have hr'k:r'.length=k:=by rw[hlen.2,hrk]
   have hnew:=(sD hl h4 hy).aX hkeep;have husl:us.length=k:=by rw[h4.length,hrk]
   have hle1:off+(a.eval x).cells.toList.length<=us.length:=by omega
   have hsl:(cF us off (a.eval x).cells.toList).length=k:=by rw[sA hle1,husl]
   have hle2:j*k+(cF us off (a.eval x).cells.toList).length<=vs.length:=by omega
   have hle3:j*k+off+0+(a.eval x).cells.toList.length<=cur.toList.length:=by omega
   refine⟨cF vs (j*k) (cF us off (a.eval x).cells.toList),bc.set (h2.aX hkeep) hjlt hr'k hnew,?_,.inr ⟨g,cap,_,by simpa using hv,mP _,h7,by simpa using hnc,hcm,?_,?_⟩⟩
   ·rw[sA hle2,hvl];simp
   ·simp only[M9];rw[sA hle3];simpa using hcs
   ·apply FE;intro i;simp only[oo];rw[kI,sI hle2,sI hle1,sI hle3,hsl];have hvi:∀i,i<rows.length*k->vs[i]? =cur.toList[i]? :=λi hi=>by rw[<-htake,kI,ck hi]
    by_cases hi:i<rows.length*k
    ·rw[ck hi];by_cases h13:j*k<=i/\i<j*k+k
     ·rw[ck h13];by_cases h14:off<=i-j*k/\i-j*k<off+(a.eval x).cells.toList.length
      ·rw[ck h14,ck (by omega)];congr 1;omega
      ·rw[bI h14,bI (by omega),<-hvi i hi];have:i-j*k<us.length:=by omega
       have h15:=h5 (i-j*k) us[i-j*k] (by simp[this]);rw[show j*k+(i-j*k)=i by omega]at h15;rw[h15];simp[this]
     ·rw[bI h13,bI (by omega),hvi i hi]
    ·rw[bI hi,bI (by omega),pX (by omega)]
  ·refine⟨h8,h9,h10.1,by omega,λc _ hc=>hoth c λhcb=>hc (by simp[b5,cy,hcb]),λc hc=> .inl ?_,.of (Nat.le_of_eq h10.2.symm)⟩;simpa[b5,cy,aj.ids]using hc
def rz:Gl->Nat->Option (List Value)
 |[],_=>none
 |(k,x)::r,t=>match Nat.beq k t with
  |true=>some x
  |false=>rz r t
theorem HC:∀{G:Gl} {t:Nat} {x:List Value},rz G t=some x->(t,x)∈G
 |[],_,_,h=>by simp[rz]at h
 |(k,y)::r,t,x,h=>by
  simp only[rz]at h;cases hb:Nat.beq k t with
  |true=>rw[hb]at h;simp only[ax]at h;subst h;rw[bg hb];simp
  |false=>rw[hb]at h;exact vC _ (HC h)
theorem OR {o:Oper} {t:TypeId} {p:Operand} (ho:o.op= .load t p) {g off:Nat} {vs:List Value} {u:Value} {d:TD} {k b:Nat} {z:List Value} (hp:ev (look O) p=some (.v (.pointer (some ⟨g,off,none⟩)))) (hg:rz E.G g=some vs) (hu:vs[off]? =some u) (ht:aP E.T t=some ⟨d,k,b,z⟩) (hd:d.agg=false):
  nZ E.toCx N o O L (.v u):=λF a w hs=>by
 have h1:=a8 hs.sg hp;simp only[Rel]at h1;obtain⟨_,e,fz,hh⟩:=hs.hp.b0 _ (HC hg);have hb:g<w.heap.size:=(kF.1 hh).1;refine⟨u,eX _,λw' hw'=>?_⟩;have hc:w'.cell? ⟨g,off,none⟩=some u:=p0 ((hw'.2 g hb).trans hh) off u hu;have:=lz (P:=E.P) (v0:=u) (E.tok _ _ ht) (b:=g) (o:=off) (vs:=[u]) (w':=w')
  (λj v hj=>by cases j with
   |zero=>simp at hj;subst hj;simpa using hc
   |succ j=>simp at hj) (λhg'=>by simp only at hg';rw[hd]at hg';cases hg') (λ_=>rfl)
 simp only at this;simp[execOp,ho,h1,Instr.loadAt,Instr.sureAddr,this,hd]
theorem gT.sub {G:Gl} {L':List aj} (hsl:L'.Sublist L):gT G N O L O L':=λF w a hs=>by
 have hids:(ids L').Sublist (ids L):=by
  have:∀{l r:List aj},l.Sublist r->(ids l).Sublist (ids r):=by
   intro l r h
   induction h with
   |slnil=>exact Fy _
   |cons a h ih=>rw[cy];exact ih.trans (XV _ _)
   |cons_cons a h ih=>rw[cy,cy];exact XW (Fy _) ih
  exact this hsl
 have hsub:∀b∈ids L',b∈ids L:=λb hb=>hids.subset hb;have hkeep:cR w (Al F L) w (Al F L'):=⟨bC _,λb _ h=>⟨⟨h.1,λhm=>h.2 (hsub b hm)⟩,rfl⟩⟩;exact⟨⟨hs.sg.aX hkeep,⟨λx hx=>(hs.hp.ec x (hsl.subset hx)).aX hkeep (λ_ _=>rfl),hids.nodup hs.hp.nodup,λb hb=>hs.hp.free b (hsub b hb),hs.hp.bound,hs.hp.b0.aX hkeep⟩,hs.df⟩,hsub⟩
theorem mm {i:Nat} (h:i<4611686018427387904):IntKind.i64.wrap ((i:Int)+1)=((i+1:Nat):Int):=by
 rw[IntKind.wrap_i64];omega
end
def tmpsOf (o:Oper):List Nat:=o.op.operands.toList.filterMap λ| .tmp t=>some t|_=>none
def rT (s:Sl) (dst:Option Nat) (x:AV):Sl:=match dst with
 |none=>s
 |some d=>λt=>if t=d then some x else s t
def gg (w:World) (w':World):Prop:=(w'.os=w.os/\n5 w w')/\w'.tape=w.tape/\w'.output=w.output/\ki w w'
theorem gg.refl (w:World):gg w w:=⟨⟨rfl,.of (bC _)⟩,rfl,rfl,ki.refl w⟩
theorem gg.ext {w w':World} {L:List aj} (h:gg w w'):Ext L w L w':=⟨h.1.1,h.2.1,h.2.2.1,h.2.2.2.1,λb hb _=>h.2.2.2.2 b hb,λ_ hb=> .inl hb,h.1.2⟩
theorem gg.trans {w w' w'':World} (h:gg w w') (g:gg w' w''):gg w w'':=
 ⟨⟨g.1.1.trans h.1.1,h.1.2.trans g.1.2⟩,g.2.1.trans h.2.1,g.2.2.1.trans h.2.2.1,mR h.2.2.2.1 g.2.2.2.1,λb hb=>(g.2.2.2.2 b (pW hb h.2.2.2.1)).trans (h.2.2.2.2 b hb)⟩
def kg (w:World) (A:Nat->Prop) (N:Nat) (a:Act) (o:Oper) (s:Sl):Prop:=∀t∈tmpsOf o,∀y,s t=some y->t<N/\Rel w A y (a.tmps.getD t undef)
def bB (C:Cx) (N:Nat) (o:Oper) (s:Sl) (L:List aj) (x:AV):Prop:=
 ∀F w (a:Act),a.tmps.size=N->a.defers=[]->bh C.G w F L->kg w (Al F L) N a o s->∀(K:Act->World->Prop) (Q:Exit->Act->World->Prop),
  (∀v w',Rel w' (Al F L) x v->gg w w'->K (a.put o.dst v) w')->o.wp C.P a w K Q
def eR (C:Cx) (N:Nat) (o:Oper) (s:Sl) (L:List aj) (cells:List AV):Prop:=
 ∀F w (a:Act),a.tmps.size=N->a.defers=[]->bh C.G w F L->kg w (Al F L) N a o s->∀(K:Act->World->Prop) (Q:Exit->Act->World->Prop),
  (∀vs e,aG w (Al F L) cells vs->K (a.put o.dst (.pointer (some ⟨w.heap.size,0,none⟩))) (w.alloc (.cells (List.toArray vs) e)))->o.wp C.P a w K Q
section
variable {C:Cx} {N:Nat} {o:Oper} {s s':Sl} {L L':List aj} {x:AV} {R:AV->List aj->Prop}
theorem kg.congr {w:World} {A:Nat->Prop} {a:Act} (h:kg w A N a o s') (he:∀t∈tmpsOf o,s' t=s t):kg w A N a o s:=λt ht y hy=>h t ht y (by rw[he t ht];exact hy)
theorem bB.congr (h:bB C N o s L x) (he:∀t∈tmpsOf o,s' t=s t):bB C N o s' L x:=λF w a h1 h2 h3 h4=>h F w a h1 h2 h3 (h4.congr he)
theorem eR.congr {cells:List AV} (h:eR C N o s L cells) (he:∀t∈tmpsOf o,s' t=s t):eR C N o s' L cells:=λF w a h1 h2 h3 h4=>h F w a h1 h2 h3 (h4.congr he)
theorem bh.later {G:Gl} {w w':World} {F:Nat->Prop} {L:List aj} (h:bh G w F L) (hl:ki w w'):bh G w' F L:=by
 have hk:cR w (Al F L) w' (Al F L):=⟨hl.1,λb hb ha=>⟨ha,hl.2 b hb⟩⟩;exact⟨λx hx=>(h.ec x hx).aX hk (λb hb=>hl.2 b ((h.ec x hx).lt b hb)),h.nodup,h.free,λb hb=>pW (h.bound b hb) hl.1,h.b0.aX hk⟩
end
def jB (ops:Array Oper) (o:Oper) (s:Sl):Option Bool:=match o.guard with
 |none=>some true
 |some (j,want)=>match(ops[j]?).bind (·.dst)with
  |none=>some false
  |some d=>match s d with
   |some (.v (.bool b))=>some (b==want)
   |some (.v (.tuple _))=>some false
   |_=>none
abbrev kC:=Sl×List (Nat×List AV)
abbrev Nu:=List (Nat×List AV)
def cA (zs:List ((Nat×List AV)×Nat)):List aj:=zs.map λz=> .box z.2 z.1.2
structure lg (G:Gl) (N:Nat) (F:Nat->Prop) (L:List aj) (w0 w:World) (a:Act) (st:kC) (zs:List ((Nat×List AV)×Nat)):Prop where
 size:a.tmps.size=N
 df:a.defers=[]
 eq:zs.map (·.1)=st.2
 hp:bh G w F (L++cA zs)
 sl:∀t x,st.1 t=some x->t<N/\Rel w (Al F (L++cA zs)) x (a.tmps.getD t undef)
 nu:∀z∈zs,z.1.1<N/\a.tmps.getD z.1.1 undef= .pointer (some ⟨z.2,0,none⟩)
 cls:gg w0 w
 new:∀z∈zs,w0.heap.size<=z.2
theorem No {D β:Type} (f:D->β) {W W':List β} (h:W.Perm W'):∀zs:List D,zs.map f=W->∃zs',zs.Perm zs'/\zs'.map f=W':=by
 induction h with
 |nil=>intro zs h;exact⟨zs,.refl _,h⟩
 |cons x _ ih=>
  intro zs h;cases zs with
  |nil=>cases h
  |cons z zs=>
   simp only[dA,jV]at h;obtain⟨zs',h1,h2⟩:=ih zs h.2;exact⟨z::zs',h1.cons z,by simp[h.1,h2]⟩
 |swap x y l=>
  intro zs h
  match zs,h with
  |z1::z2::zs,h=>
   simp only[dA,jV]at h;exact⟨z2::z1::zs,.swap _ _ _,by simp[h.1,h.2.1,h.2.2]⟩
 |trans _ _ ih1 ih2=>
  intro zs h;obtain⟨z1,h1,h2⟩:=ih1 zs h;obtain⟨z2,h3,h4⟩:=ih2 z1 h2;exact⟨z2,h1.trans h3,h4⟩
theorem wC {l r:List aj} (h:l.Perm r):(ids l).Perm (ids r):=h.flatMap_right _
theorem sZ {F:Nat->Prop} {l r:List aj} (h:l.Perm r):Al F l=Al F r:=funext λb=>propext (by unfold Al;rw[(wC h).mem_iff])
theorem bh.perm {G:Gl} {w:World} {F:Nat->Prop} {l r:List aj} (hp:l.Perm r) (h:bh G w F l):bh G w F r:=
 ⟨λx hx=>by rw[<-sZ hp];exact h.ec x (hp.mem_iff.2 hx),(wC hp).nodup_iff.1 h.nodup,λb hb=>h.free b ((wC hp).mem_iff.2 hb),h.bound,by rw[<-sZ hp];exact h.b0⟩
theorem lg.perm {G:Gl} {N:Nat} {F:Nat->Prop} {L:List aj} {w0 w:World} {a:Act} {s:Sl} {W W':Nu} {zs:List ((Nat×List AV)×Nat)} (h:lg G N F L w0 w a (s,W) zs) (hp:W.Perm W'):
  ∃zs',lg G N F L w0 w a (s,W') zs':=by
 obtain⟨zs',h1,h2⟩:=No (·.1) hp zs h.eq;have he:(L++cA zs).Perm (L++cA zs'):=(h1.map _).append_left L;exact⟨zs',h.size,h.df,h2,h.hp.perm he,λt x hx=>by rw[<-sZ he];exact h.sl t x hx,λz hz=>h.nu z (h1.mem_iff.2 hz),h.cls,λz hz=>h.new z (h1.mem_iff.2 hz)⟩
def fwd (i:Nat):List Oper->List Bool->List Bool
 |[],m=>m
 |o::r,m=>fwd i r (m++[o.after.any λe=>Region.binds .any e&&(Nat.beq e.on i||m.getD e.on false)])
def reach (ops:Array Oper) (_:Nat) (i j:Nat):Bool:=(fwd i ops.toList []).getD j false
def nz (ops:Array Oper) (listed:Array Bool):Prop:=∀j o,ops[j]? =some o->listed.getD j false=true->∀e∈o.after,Region.binds .any e=true->listed.getD e.on false=true
theorem Bt {l:List Bool} {j:Nat} (h:l.length<=j):l.getD j false=false:=by simp[List.getD,pX h]
theorem Gq {ops:Array Oper} {listed:Array Bool} (hc:nz ops listed) {i:Nat}:∀(l:List Oper) (m:List Bool) (pre:List Oper),ops.toList=pre++l->m.length=pre.length->
  (∀j,m.getD j false=true->∀o,ops[j]? =some o->(∀e∈o.after,Region.binds .any e=true->listed.getD e.on false=true)->listed.getD i false=true)->
  ∀j,(fwd i l m).getD j false=true->∀o,ops[j]? =some o->(∀e∈o.after,Region.binds .any e=true->listed.getD e.on false=true)->listed.getD i false=true
 |[],_,_,_,_,h=>h
 |x::l,m,pre,hops,hlen,h=>by
  refine Gq hc l _ (pre++[x]) (by simp[hops]) (by simp[hlen]) λj hj o ho he=>?_;rcases M4 j m.length with hlt|heq|hgt
  ·exact h j (by simpa[List.getD,pT hlt]using hj) o ho he
  ·subst heq;have hx:ops[m.length]? =some x:=by
    rw[<-Array.getElem?_toList,hops,hlen];simp
   rw[hx]at ho;cases ho;have hj:(x.after.any λe=>Region.binds .any e&&(Nat.beq e.on i||m.getD e.on false))=true:=by
    simpa using hj
   obtain⟨e,hem,hb⟩:=Array.any_eq_true'.1 hj;simp only[bj,Ac]at hb;obtain⟨hb,hb2⟩:=hb;have hl:=he e hem hb;rcases hb2 with hb2|hb2
   ·rw[<-bg hb2];exact hl
   ·have hlt:e.on<m.length:=by
     rcases lr e.on m.length with h1|h1
     ·exact h1
     ·rw[Bt h1]at hb2;cases hb2
    have hs:e.on<ops.size:=by
     rw[<-vy,hops,lx];omega
    exact h e.on hb2 ops[e.on] (by simp[hs]) λe' he' hb'=>hc e.on ops[e.on] (by simp[hs]) hl e' he' hb'
  ·rw[Bt (by simp;omega)]at hj;cases hj
theorem FT {ops:Array Oper} {listed:Array Bool} (hc:nz ops listed) (n i j:Nat) (h:reach ops n i j=true) (hj:∀o,ops[j]? =some o->∀e∈o.after,Region.binds .any e=true->listed.getD e.on false=true):listed.getD i false=true:=by
 unfold reach at h;cases ho:ops[j]? with
 |none=>
  have hlen:∀(l:List Oper) (m:List Bool),(fwd i l m).length=m.length+l.length:=by
   intro l
   induction l with
   |nil=>intro m;simp[fwd]
   |cons x l ih=>intro m;simp[fwd,ih];omega
  have hge:ops.size<=j:=by simpa using ho
  rw[Bt (by rw[hlen];simp;omega)]at h;cases h
 |some o=>exact Gq hc ops.toList [] [] rfl rfl (λj hj=>by simp at hj) j h o ho (hj o ho)
theorem nz.set {ops:Array Oper} {listed:Array Bool} {i:Nat} (hc:nz ops listed) (hr:i∈Region.ready .any ops listed):nz ops (listed.setIfInBounds i true):=by
 intro j o ho hl e he hb;by_cases hji:j=i
 ·subst hji;obtain⟨_,o',ho',hall⟩:=mem_ready.1 hr;rw[ho]at ho';cases ho';exact getD_set_true (hall e he hb)
 ·rw[getD_set_ne false (iP hji)]at hl;exact getD_set_true (hc j o ho hl e he hb)
def C1:Op->Bool
 | .move _=>true
 | .assign _=>true
 | .extract _ _=>true
 |_=>false
def xQ (ops:Array Oper):List Nat->Array Bool->Bool
 |[],listed=>(Region.ready .any ops listed).isEmpty
 |i::rest,listed=>(match ops[i]? with
   |some o=>decide (Region.ready .any ops listed=[i])||(C1 o.op&&o.guard.isNone&&(Region.ready .any ops listed).contains i&&Region.free .any ops listed i)
   |none=>false)&&xQ ops rest (listed.setIfInBounds i true)
def fi (ops:Array Oper):List Nat->List Oper
 |[]=>[]
 |i::r=>match ops[i]? with
  |some o=>o::fi ops r
  |none=>fi ops r
section
variable {P:Program} {ops:Array Oper} {Q:Exit->Act->World->Prop}
theorem OU {o:Oper} {a:Act} {w:World} {n:Next} (he:execOp a.eval o=Sem.pure n) (h:o.asks P a w):False:=by
 have h1:=h.1;rw[he]at h1;have h2:noRoomEvent∈(#[]:Array Event):=h1;simp at h2
theorem OV {o:Oper} {a:Act} {w:World} {n:Halt} (he:execOp a.eval o=Sem.halt n) (h:o.asks P a w):False:=by
 have h1:=h.1;rw[he]at h1;have h2:noRoomEvent∈(#[]:Array Event):=h1;simp at h2
theorem As {o:Oper} {a:Act} {w:World} {v:Value} {next:Act->World->Prop} (he:execOp a.eval o=Sem.pure (.value v)) (hg:o.guard=none)
  (h:o.wp P a w next Q\/(o.asks P a w/\LetsOut Q)):∃v,Yields P ops o v a/\next (a.put o.dst v) w:=by
 have hw:Region.wanted o (yielded ops a.tmps)=true:=by simp[Region.wanted,hg]
 have hr:∀w,(execOp a.eval o).run P w= .ok (.value v) w:=λw=>by rw[he];rfl
 rcases h with h|⟨h,_⟩
 ·refine⟨v,.inl ⟨hw,hr⟩,?_⟩;unfold Oper.wp at h;rw[hr w,Oper.upon_value]at h;exact h
 ·exact(OU he h).elim
theorem NP {o:Oper} {a:Act} {w:World} {next:Act->World->Prop} (hm:C1 o.op=true) (hg:o.guard=none)
  (h:o.wp P a w next Q\/(o.asks P a w/\LetsOut Q)):∃v,Yields P ops o v a/\next (a.put o.dst v) w:=by
 obtain⟨dst,op,ty,pos,after,gd⟩:=o;cases op<;>simp only[C1,iN]at hm
 case move x=>exact As (v:=a.eval x) rfl hg h
 case assign x=>exact As (v:=a.eval x) rfl hg h
 case extract x k=>
  have key:(∃v,execOp a.eval ⟨dst,.extract x k,ty,pos,after,gd⟩=Sem.pure (.value v))\/∃e,execOp a.eval ⟨dst,.extract x k,ty,pos,after,gd⟩=Sem.halt (.stuck e):=by
   have h0:execOp a.eval ⟨dst,.extract x k,ty,pos,after,gd⟩=(Instr.extract (a.eval x) k).bind λv=>Sem.pure (.value v):=rfl;rw[h0];unfold Instr.extract;split
   ·split
    ·exact .inl ⟨_,rfl⟩
    ·exact .inr ⟨_,rfl⟩
   ·exact .inr ⟨_,rfl⟩
  rcases key with⟨v,hv⟩|⟨e,hv⟩
  ·exact As hv hg h
  ·rcases h with h|⟨h,_⟩
   ·unfold Oper.wp at h;rw[hv]at h;exact h.elim
   ·exact(OV hv h).elim
theorem AD (hs:Region.noSelect ops=true) (hQ:∀c a w d v,Q (.panic c) (Act.put a d v) w->Q (.panic c) a w):∀(l:List Nat) (listed:Array Bool) (a:Act) (w:World),xQ ops l listed=true->wpList P ops Q (fi ops l) a w->wpAny P .any ops Q l.length listed a w
 |[],listed,a,w,hB,h=>⟨by simpa[xQ]using hB,h⟩
 |i::rest,listed,a,w,hB,h=>by
  simp only[xQ,bj]at hB;obtain⟨hB,hrest⟩:=hB;cases ho:ops[i]? with
  |none=>rw[ho]at hB;cases hB
  |some o=>
   rw[ho]at hB;simp only[fi,ho]at h;unfold wpList at h;simp only[Ac,og,bj]at hB;rcases hB with hB|⟨⟨⟨hm,hg⟩,hc⟩,hf⟩
   ·refine wpAny_all hB (by simp) λj hj=>?_;simp only[mN]at hj;subst hj;unfold wpOp;simp only[ho];split
    ·rename_i hw;rw[ck hw]at h;exact h.imp (Oper.wp_mono λa' w' hh=>AD hs hQ rest _ a' w' hrest hh) id
    ·rename_i hw;rw[bI hw]at h;exact AD hs hQ rest _ _ w hrest h
   ·have hg':o.guard=none:=by simpa using hg
    rw[ck (by simp[Region.wanted,hg'])]at h;obtain⟨v,hy,hn⟩:=NP (ops:=ops) hm hg' h;exact wpAny_take ho hs hf hc (λc a w=>hQ c a w _ _) hy (AD hs hQ rest _ _ w hrest hn)
end
def Cut (C:Cx) (N:Nat) (ops:Array Oper) (L:List aj) (Q':(Nat->Prop)->World->Exit->Act->World->Prop) (fuel:Nat) (listed:Array Bool) (st:kC):Prop:=
 ∀F w0 w a zs,lg C.G N F L w0 w a st zs->wpAny C.P .any ops (Q' F w0) fuel listed a w
def aQ (s:Sl) (dst:Option Nat) (x:Option AV):Sl:=match dst with
 |none=>s
 |some d=>λt=>if t=d then x else s t
def mb (C:Cx) (N:Nat) (L:List aj) (ops:Array Oper) (o:Oper) (s:Sl) (x:Option AV) (δ:Nu):Prop:=
 b8 N o.dst=true/\((jB ops o s=some true/\((∃y,bB C N o s L y/\x=some y/\δ=[])\/∃d cells,o.dst=some d/\eR C N o s L cells/\x=none/\δ=[(d,cells)]))\/
  (jB ops o s=some false/\x=some (.v undef)/\δ=[]))
def fresh (o:Oper) (W:Nu):Prop:=∀d,o.dst=some d->∀p∈W,p.1≠d
def pr (C:Cx) (N:Nat) (L:List aj) (ops:Array Oper) (Q':(Nat->Prop)->World->Exit->Act->World->Prop) (m:Nat):Nat->Array Bool->kC->Prop
 |0,listed,st=>Cut C N ops L Q' m listed st
 |n+1,listed,st=>Region.ready .any ops listed≠[]/\∀i∈Region.ready .any ops listed,∃o x δ,ops[i]? =some o/\fresh o st.2/\mb C N L ops o st.1 x δ/\
   pr C N L ops Q' m n (listed.setIfInBounds i true) (aQ st.1 o.dst x,st.2++δ)
section
variable {C:Cx} {N:Nat} {L:List aj} {ops:Array Oper} {Q':(Nat->Prop)->World->Exit->Act->World->Prop} {m:Nat}
theorem lB {s:Sl} {dst:Option Nat} {x:Option AV} {t:Nat} (h:∀d,dst=some d->t≠d):aQ s dst x t=s t:=by
 cases dst with
 |none=>rfl
 |some d=>simp[aQ,h d rfl]
theorem GR (s:Sl) {x y:Option Nat} (u v:Option AV) (h:∀d,x=some d->y≠some d):aQ (aQ s x u) y v=aQ (aQ s y v) x u:=by
 cases x with
 |none=>rfl
 |some d=>
  cases y with
  |none=>rfl
  |some e=>
   have hne:e≠d:=λhe=>h d rfl (by rw[he]);funext t;simp only[aQ];by_cases h1:t=e
   ·subst h1;simp[hne]
   ·by_cases h2:t=d
    ·subst h2;simp[h1]
    ·simp[h1,h2]
theorem Ao {o:Oper} {t:Nat} (h:t∈tmpsOf o):t∈o.looksAt ops:=oh _ h
theorem sy {o:Oper} {s s':Sl} (h:∀t∈o.looksAt ops,s' t=s t):jB ops o s'=jB ops o s:=by
 unfold jB;cases hg:o.guard with
 |none=>rfl
 |some p=>
  obtain⟨j,want⟩:=p;simp only;cases hj:(ops[j]?).bind (·.dst)with
  |none=>rfl
  |some d=>
   have hd:d∈o.looksAt ops:=X0 _ (by simp only[hg,hj];simp);simp only[h d hd]
theorem mb.congr {o:Oper} {s s':Sl} {x:Option AV} {δ:Nu} (h:mb C N L ops o s x δ) (he:∀t∈o.looksAt ops,s' t=s t):mb C N L ops o s' x δ:=by
 refine⟨h.1,?_⟩;rw[sy he];have ht:∀t∈tmpsOf o,s' t=s t:=λt ht=>he t (Ao ht);exact h.2.imp (λ⟨h1,h2⟩=>⟨h1,h2.imp (λ⟨x,g1,g2⟩=>⟨x,g1.congr ht,g2⟩) λ⟨d,cs,g0,g1,g2⟩=>⟨d,cs,g0,g1.congr ht,g2⟩⟩) id
theorem mb.fst {o:Oper} {s:Sl} {x:Option AV} {δ:Nu} (h:mb C N L ops o s x δ):∀p∈δ,o.dst=some p.1:=by
 rcases h.2 with⟨_,⟨y,_,_,rfl⟩|⟨d,cs,h0,_,_,rfl⟩⟩|⟨_,_,rfl⟩
 ·simp
 ·simpa using h0
 ·simp
theorem GS:∀(n:Nat) (listed:Array Bool) (s:Sl) (W W':Nu),W.Perm W'->pr C N L ops Q' m n listed (s,W)->pr C N L ops Q' m n listed (s,W')
 |0,listed,s,W,W',hp,h=>λF w0 w a zs hd=>by
  obtain⟨zs',hd'⟩:=hd.perm hp.symm;exact h F w0 w a zs' hd'
 |n+1,listed,s,W,W',hp,h=>⟨h.1,λi hi=>by
  obtain⟨o,x,δ,h1,h2,h3,h4⟩:=h.2 i hi;exact⟨o,x,δ,h1,λd hd p hpm=>h2 d hd p (hp.mem_iff.2 hpm),h3,GS n _ _ _ _ (hp.append_right δ) h4⟩⟩
theorem Od {i:Nat} {oi:Oper} {R:Nat} (hi:ops[i]? =some oi):
  ∀(n:Nat) (listed:Array Bool) (pre:List Nat) (st:kC) (x:Option AV) (δ:Nu),pre.length=n+1->pre.Nodup->i∈pre->nz ops listed->
   (∀j oj,ops[j]? =some oj->j≠i->listed.getD j true=false->reach ops R i j=false->oi.apart ops oj=true/\j∈pre)->
   i∈Region.ready .any ops listed->fresh oi st.2->mb C N L ops oi st.1 x δ->pr C N L ops Q' m n (listed.setIfInBounds i true) (aQ st.1 oi.dst x,st.2++δ)->
   pr C N L ops Q' m (n+1) listed st:=by
 intro n
 induction n with
 |zero=>
  intro listed pre st x δ hl hnd hip hc hfree hr hf hs H;refine⟨λh=>(by rw[h]at hr;cases hr),λj hj=>?_⟩;by_cases hji:j=i
  ·subst hji;exact⟨oi,x,δ,hi,hf,hs,H⟩
  ·exfalso;obtain⟨hjun,oj,hoj,hall⟩:=mem_ready.1 hj;have hnr:reach ops R i j=false:=by
    cases hre:reach ops R i j with
    |false=>rfl
    |true=>
     have h1:=FT hc R i j hre λo ho e he hb=>by rw[hoj]at ho;cases ho;exact hall e he hb
     have h0:=(mem_ready.1 hr).1;rcases lr i listed.size with h'|h'
     ·simp[h']at h0 h1;rw[h0]at h1;cases h1
     ·simp[sv h']at h1
   have hjp:=(hfree j oj hoj hji hjun hnr).2
   match pre,hl,hip,hjp with
   |[p],_,hip,hjp=>simp at hip hjp;exact hji (hjp.trans hip.symm)
 |succ n ih=>
  intro listed pre st x δ hl hnd hip hc hfree hr hf hs H;refine⟨λh=>(by rw[h]at hr;cases hr),λj hj=>?_⟩;by_cases hji:j=i
  ·subst hji;exact⟨oi,x,δ,hi,hf,hs,H⟩
  ·obtain⟨oj,y,ε,hoj,hfj,hsj,Hj⟩:=H.2 j (ready_mono hj hji);obtain⟨hjun,oj',hoj',hall⟩:=mem_ready.1 hj;rw[hoj]at hoj';cases hoj';have hnr:reach ops R i j=false:=by
    cases hre:reach ops R i j with
    |false=>rfl
    |true=>
     have h1:=FT hc R i j hre λo ho e he hb=>by rw[hoj]at ho;cases ho;exact hall e he hb
     have h0:=(mem_ready.1 hr).1;rcases lr i listed.size with h'|h'
     ·simp[h']at h0 h1;rw[h0]at h1;cases h1
     ·simp[sv h']at h1
   obtain⟨hap,hjp⟩:=hfree j oj hoj hji hjun hnr;obtain⟨a1,a2,a3⟩:=Oper.apart_spec hap;have hsj':mb C N L ops oj st.1 y ε:=hsj.congr λt ht=>(lB λd hd he=>a1 d hd (he▸ht)).symm;have hsi':mb C N L ops oi (aQ st.1 oj.dst y) x δ:=hs.congr λt ht=>lB λd hd he=>a3 d hd (he▸ht);refine⟨oj,y,ε,hoj,λd hd p hp=>hfj d hd p (oh _ hp),hsj',?_⟩;refine ih (listed.setIfInBounds j true) (pre.erase j) (aQ st.1 oj.dst y,st.2++ε) x δ (by rw[List.length_erase_of_mem hjp,hl];rfl) (hnd.erase j) ((X1 (iP hji)).2 hip) (hc.set hj) ?_ (ready_mono hr (iP hji)) ?_ hsi' ?_
   ·intro k ok hk hki hun hno;have hjk:j≠k:=by
     intro hjk;subst hjk;have:j<listed.size:=by
      rcases lr j listed.size with h'|h'
      ·exact h'
      ·simp[sv h']at hjun
     simp[this]at hun
    rw[getD_set_ne true hjk]at hun;obtain⟨g1,g2⟩:=hfree k ok hk hki hun hno;exact⟨g1,(X1 (iP hjk)).2 g2⟩
   ·intro d hd p hp;rcases cD.1 hp with hp|hp
    ·exact hf d hd p hp
    ·have:=hsj.fst p hp;intro he;exact a2 d hd (by rw[this,he])
   ·rw[M5 _ _ hji,<-GR _ x y a2];refine GS n _ _ _ _ ?_ Hj;rw[jX,jX];exact(zW).append_left _
theorem vH {w:World} {A:Nat->Prop} {a:Act} {s:Sl} (h:eZ w A N a s) {o:Oper} {b:Bool} (hw:jB ops o s=some b):Region.wanted o (yielded ops a.tmps)=b:=by
 unfold jB at hw;unfold Region.wanted;cases hg:o.guard with
 |none=>simp only[hg]at hw⊢;simpa using hw
 |some p=>
  obtain⟨j,want⟩:=p;simp only[hg]at hw⊢;cases hj:(ops[j]?).bind (·.dst)with
  |none=>simp only[hj]at hw;simp only[ax]at hw;subst hw;simp[yielded,hj]
  |some d=>
   simp only[hj]at hw;have hget:∀u,(∃x,s d=some x/\Rel w A x u/\a.tmps.getD d undef=u)->a.tmps[d]? =some u:=by
    rintro u ⟨x,h1,_,h3⟩;have:=(h.2 d x h1).1;rw[<-h.1]at this;rw[Ad]at h3;simp[this]at h3⊢;exact h3
   split at hw
   ·rename_i bb hs;simp only[ax]at hw;subst hw;have h1:=(h.2 d _ hs).2;simp only[Rel]at h1;have:=hget (.bool bb) ⟨_,hs,by simp only[Rel],h1⟩;simp only[yielded,hj,aE,this];cases bb<;>cases want<;>rfl
   ·rename_i tt hs;simp only[ax]at hw;subst hw;have h1:=(h.2 d _ hs).2;simp only[Rel]at h1;have:=hget (.tuple tt) ⟨_,hs,by simp only[Rel],h1⟩;simp[yielded,hj,this]
   ·cases hw
theorem ml {F:Nat->Prop} {L W:List aj}:Al (λb=>F b\/b∈ids W) L=Al F (L++W):=
 funext λb=>propext (by simp only[Al,b5,cD];constructor<;>(rintro ⟨h1,h2⟩;simp_all))
theorem bh.front {G:Gl} {w:World} {F:Nat->Prop} {L W:List aj} (h:bh G w F (L++W)):bh G w (λb=>F b\/b∈ids W) L:=by
 have hA:Al (λb=>F b\/b∈ids W) L=Al F (L++W):=ml;have hnd:=h.nodup;rw[b5,me]at hnd;refine⟨λx hx=>by rw[hA];exact h.ec x (by simp[hx]),hnd.1,λb hb=>?_,λb hb=>?_,by rw[hA];exact h.b0⟩
 ·rintro (h1|h1)
  ·exact h.free b (by simp[b5,hb]) h1
  ·exact hnd.2.2 b hb b h1 rfl
 ·rcases hb with hb|hb
  ·exact h.bound b hb
  ·exact h.lt b (by simp[b5,hb])
theorem vF {a:Act} {d:Nat} {v:Value} (h:d<a.tmps.size):(a.put (some d) v).tmps.getD d undef=v:=FN _ _ _ h
theorem mT {a:Act} {dst:Option Nat} {t:Nat} {v:Value} (h:∀d,dst=some d->t≠d):(a.put dst v).tmps.getD t undef=a.tmps.getD t undef:=by
 cases dst with
 |none=>rfl
 |some d=>exact FL _ _ _ _ (iP (h d rfl))
theorem wD {a:Act} {dst:Option Nat} {v:Value}:(a.put dst v).tmps.size=a.tmps.size:=by cases dst<;>simp[Act.put]
theorem tH {a:Act} {dst:Option Nat} {v:Value}:(a.put dst v).defers=a.defers:=by cases dst<;>rfl
theorem lg.Kw {G:Gl} {F:Nat->Prop} {w0 w w':World} {a:Act} {st:kC} {zs:List ((Nat×List AV)×Nat)} (h:lg G N F L w0 w a st zs) {o:Oper} (hd:b8 N o.dst=true) (hf:fresh o st.2) {x:AV} {v:Value}
  (hv:Rel w' (Al F (L++cA zs)) x v) (hc:gg w w'):lg G N F L w0 w' (a.put o.dst v) (aQ st.1 o.dst (some x),st.2++[]) zs:=by
 have hk:=(hc.ext (L:=L++cA zs)).keeps (F:=F);refine⟨by rw[wD];exact h.size,by rw[tH];exact h.df,by simpa using h.eq,h.hp.later hc.2.2.2,λt y hy=>?_,λz hz=>?_,h.cls.trans hc,h.new⟩
 ·by_cases htd:o.dst=some t
  ·have htN:=v7 hd t htd;rw[htd]at hy⊢;simp only[aQ,if_true,ax]at hy;subst hy;exact⟨htN,by rw[vF (by rw[h.size];exact htN)];exact hv⟩
  ·have hne:∀d,o.dst=some d->t≠d:=λd hd' he=>htd (by rw[hd',he]);have hy':aQ st.1 o.dst (some x) t=some y:=hy;rw[lB hne]at hy';obtain⟨h1,h2⟩:=h.sl t y hy';exact⟨h1,by rw[mT hne];exact h2.aX hk⟩
 ·obtain⟨h1,h2⟩:=h.nu z hz;refine⟨h1,?_⟩;rw[mT]
  ·exact h2
  ·intro d hd' he;exact hf d hd' z.1 (by rw[<-h.eq];exact dk.2 ⟨z,hz,rfl⟩) he
theorem lg.TO {G:Gl} {F:Nat->Prop} {w0 w:World} {a:Act} {st:kC} {zs:List ((Nat×List AV)×Nat)} (h:lg G N F L w0 w a st zs) {o:Oper} {d:Nat} (hd:o.dst=some d) (hdN:d<N) (hf:fresh o st.2) {cells:List AV} {vs:List Value} {e:TypeId}
  (hv:aG w (Al F (L++cA zs)) cells vs):lg G N F L w0 (w.alloc (.cells (List.toArray vs) e)) (a.put o.dst (.pointer (some ⟨w.heap.size,0,none⟩))) (aQ st.1 o.dst none,st.2++[(d,cells)]) (zs++[((d,cells),w.heap.size)]):=by
 have hc:gg w (w.alloc (.cells vs.toArray e)):=⟨⟨rfl,.of (bC _)⟩,rfl,rfl,by simp,λb hb=>jZ w _ b hb⟩;have hents:cA (zs++[((d,cells),w.heap.size)])=cA zs++[.box w.heap.size cells]:=by simp[cA]
 have hext:=mi w (.cells vs.toArray e) (L++cA zs) (.box w.heap.size cells) (by simp[aj.ids]);have hkeep:=hext.keeps (F:=F);rw[jX,<-hents]at hkeep;refine⟨by rw[wD];exact h.size,by rw[tH];exact h.df,by simp[h.eq],?_,λt y hy=>?_,λz hz=>?_,h.cls.trans hc,λz hz=>?_⟩
 ·rw[hents,<-jX];refine h.hp.push (by simp) (λb hb=>jZ w _ b hb) (by simp[aj.ids]) (by simp[aj.ids]) ?_;exact⟨e,vs,kJ w _,by rw[jX,<-hents];exact hv.aX hkeep⟩
 ·by_cases htd:t=d
  ·subst htd;rw[hd]at hy;simp[aQ]at hy
  ·have hne:∀d',o.dst=some d'->t≠d':=λd' hd' he=>htd (by rw[hd]at hd';cases hd';exact he);have hy':aQ st.1 o.dst none t=some y:=hy;rw[lB hne]at hy';obtain⟨h1,h2⟩:=h.sl t y hy';exact⟨h1,by rw[mT hne];exact h2.aX hkeep⟩
 ·rcases cD.1 hz with hz|hz
  ·obtain⟨h1,h2⟩:=h.nu z hz;refine⟨h1,?_⟩;rw[mT]
   ·exact h2
   ·intro d' hd' he;exact hf d' hd' z.1 (by rw[<-h.eq];exact dk.2 ⟨z,hz,rfl⟩) he
  ·simp only[mN]at hz;subst hz;rw[hd];exact⟨hdN,vF (by rw[h.size];exact hdN)⟩
 ·rcases cD.1 hz with hz|hz
  ·exact h.new z hz
  ·simp only[mN]at hz;subst hz;exact h.cls.2.2.2.1
theorem GU:∀(n:Nat) (listed:Array Bool) (st:kC),pr C N L ops Q' m n listed st->Cut C N ops L Q' (n+m) listed st
 |0,listed,st,h=>by rw[mO];exact h
 |n+1,listed,st,h=>λF w0 w a zs hd=>by
  rw[show n+1+m=(n+m)+1 by omega];refine⟨λh0=>absurd h0 h.1,λi hi=>?_⟩;obtain⟨o,x,δ,ho,hf,hs,hn⟩:=h.2 i hi;have ih:=GU n _ _ hn F w0;have hsl:eZ w (Al F (L++cA zs)) N a st.1:=⟨hd.size,hd.sl⟩;have hopd:kg w (Al (λb=>F b\/b∈ids (cA zs)) L) N a o st.1:=λt _ y hy=>by rw[ml];exact hd.sl t y hy
  unfold wpOp;simp only[ho];obtain⟨hdst,hs⟩:=hs;rcases hs with⟨hw,hs⟩|⟨hw,rfl,rfl⟩
  ·rw[ck (vH hsl hw)];refine .inl ?_;rcases hs with⟨y,hp,rfl,rfl⟩|⟨d,cells,hdd,hp,rfl,rfl⟩
   ·refine hp _ w a hd.size hd.df hd.hp.front hopd _ _ λv w' hv hc=>?_;rw[ml]at hv;exact ih w' _ zs (hd.Kw hdst hf hv hc)
   ·refine hp _ w a hd.size hd.df hd.hp.front hopd _ _ λvs e hv=>?_;rw[ml]at hv;exact ih _ _ _ (hd.TO hdd (v7 hdst d hdd) hf hv)
  ·rw[bI (by rw[vH hsl hw];simp)];exact ih w _ zs (hd.Kw hdst hf (by simp only[Rel]) (gg.refl w))
end
def pj (C:Cx) (N:Nat) (L:List aj) (ops:Array Oper) (Qe:kC->Prop):List Oper->kC->Prop
 |[],st=>Qe st
 |o::rest,st=>fresh o st.2/\∃x δ,mb C N L ops o st.1 x δ/\pj C N L ops Qe rest (aQ st.1 o.dst x,st.2++δ)
def C2 (ops:Array Oper) (pre:List Nat) (listed:Array Bool) (i:Nat):Bool:=
 match ops[i]? with
 |none=>false
 |some oi=>(List.range ops.size).all λj=>j==i||listed.getD j true||(match ops[j]? with
   |some oj=>oi.apart ops oj&&pre.contains j
   |none=>true)||reach ops 3 i j
def eH:List Nat->Bool
 |[]=>true
 |x::r=>!r.contains x&&eH r
def yb (ops:Array Oper):List Nat->Array Bool->Bool
 |[],_=>true
 |i::rest,listed=>(Region.ready .any ops listed).contains i&&C2 ops (i::rest) listed i&&eH (i::rest)&&yb ops rest (listed.setIfInBounds i true)
def jA (l:List Nat) (listed:Array Bool):Array Bool:=l.foldl (λq i=>q.setIfInBounds i true) listed
section
variable {C:Cx} {N:Nat} {L:List aj} {ops:Array Oper} {Q':(Nat->Prop)->World->Exit->Act->World->Prop} {m:Nat}
theorem Au:∀{l:List Nat},eH l=true->l.Nodup
 |[],_=>by simp
 |x::r,h=>by
  simp only[eH,bj,lu]at h;rw[M6];exact⟨(λhx=>by have:=Fx.2 hx;rw[h.1]at this;cases this),Au h.2⟩
theorem HA:∀(l:List Nat) (listed:Array Bool) (st:kC),nz ops listed->yb ops l listed=true->(fi ops l).length=l.length->
  pj C N L ops (λst=>Cut C N ops L Q' m (jA l listed) st) (fi ops l) st->pr C N L ops Q' m l.length listed st
 |[],listed,st,_,_,_,h=>h
 |i::rest,listed,st,hc,hB,hl,h=>by
  simp only[yb,bj]at hB;obtain⟨⟨⟨hr,hf⟩,hnd⟩,hB⟩:=hB;have hr':i∈Region.ready .any ops listed:=by simpa using hr
  cases ho:ops[i]? with
  |none=>simp[C2,ho]at hf
  |some o=>
   simp only[fi,ho,eG]at hl h;obtain⟨h1,x,δ,h2,h3⟩:=h;refine Od (R:=3) ho rest.length listed (i::rest) st x δ (by simp) (Au hnd) (by simp) hc ?_ hr' h1 h2 ?_
   ·intro j oj hj hji hun hno;simp only[C2,ho,ju,FB]at hf;have:=hf j (kF.1 hj).1;simp only[hj,Ac,beq_iff_eq,hji,false_or,hun,hno,iN,or_false,bj]at this;exact⟨this.1,by simpa using this.2⟩
   ·exact HA rest _ _ (hc.set hr') hB (by omega) (by simpa[jA]using h3)
theorem QA:nz ops (Array.replicate ops.size false):=by
 intro j o _ h;simp[Array.getElem?_replicate]at h;split at h<;>simp at h
theorem AK {Qe Qe':kC->Prop} (h:∀st,Qe st->Qe' st):∀{l:List Oper} {st:kC},pj C N L ops Qe l st->pj C N L ops Qe' l st
 |[],_,hh=>h _ hh
 |_::_,_,⟨h1,x,δ,h2,h3⟩=>⟨h1,x,δ,h2,AK h h3⟩
def fp (n:Nat):List ((Nat×List AV)×Nat)->Sg
 |[]=>[]
 |z::zs=>(z.1.1,.own n z.2 0)::fp (n+1) zs
theorem ql {O:Sg}:∀{zs:List ((Nat×List AV)×Nat)} {n t:Nat} {x:AV},look (fp n zs++O) t=some x->(∃z∈zs,∃k,t=z.1.1/\x= .own k z.2 0)\/look O t=some x
 |[],_,_,_,h=> .inr h
 |z::zs,n,t,x,h=>by
  simp only[fp,iO,look]at h;cases hb:Nat.beq z.1.1 t with
  |true=>
   rw[hb]at h;simp only[ax]at h;exact .inl ⟨z,by simp,n,(bg hb).symm,h.symm⟩
  |false=>
   rw[hb]at h;rcases ql h with⟨z',h1,h2⟩|h
   ·exact .inl ⟨z',by simp[h1],h2⟩
   ·exact .inr h
def gB:Nu->(List ((Nat×List AV)×Nat)->Prop)->Prop
 |[],P=>P []
 |p::W,P=>∀b:Nat,gB W λzs=>P ((p,b)::zs)
theorem v8:∀{W:Nu} {P:List ((Nat×List AV)×Nat)->Prop},gB W P->∀zs,zs.map (·.1)=W->P zs
 |[],P,h,zs,hz=>by
  cases zs with
  |nil=>exact h
  |cons _ _=>simp at hz
 |p::W,P,h,zs,hz=>by
  cases zs with
  |nil=>simp at hz
  |cons z zs=>
   simp only[dA,jV]at hz;obtain⟨h1,h2⟩:=hz;have:=v8 (h z.2) zs h2;obtain⟨p',b⟩:=z;simp only at h1;subst h1;exact this
