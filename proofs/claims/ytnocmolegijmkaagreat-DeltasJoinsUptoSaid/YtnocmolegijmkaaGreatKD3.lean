/- The abstract machine, third part: operations on own memory; handing own memory on; calls. -/
import Derived.Test.YtnocmolegijmkaaGreatKD1
set_option linter.all false
noncomputable section
namespace Go.Bw
open Go
theorem Oper.ado {P:Program} {o:Oper} {a:Act} {w:World} {K K':Act->World->Prop} {Q Q':Exit->Act->World->Prop} (h:∀a w,K a w->K' a w) (hq:∀e a w,Q e a w->Q' e a w)
  (hh:o.wp P a w K Q):o.wp P a w K' Q':=by
 unfold Oper.wp at*
 generalize (execOp a.eval o).run P w=r at*
 cases r with
 |ok n w'=>
  cases n<;>simp only[Oper.upon]at hh⊢<;>
   first
    |exact h _ _ hh
    |exact Calls.mono hh (λe w'' he=>by cases e<;>first|exact h _ _ he|exact hq _ _ _ he|exact(let⟨a,w,hz⟩:=he;⟨a,w,hq _ _ _ hz⟩))
    |exact Rows.mono hh (λ_ _ he=>h _ _ he)
 |halt x w'=>cases x<;>simp only[Oper.upon]at hh⊢<;>first|exact hh|exact hq _ _ _ hh
theorem HV {P:Program} {ops:Array Oper} {Q Q':Exit->Act->World->Prop} (hq:∀e a w,Q e a w->Q' e a w):∀{l:List Oper} {a:Act} {w:World},wpList P ops Q l a w->wpList P ops Q' l a w
 |[],_,_,h=>hq _ _ _ h
 |o::rest,a,w,h=>by
  unfold wpList at h⊢;split
  ·rename_i hw;rw[bg hw]at h;exact h.imp (Oper.ado (λ_ _ hh=>HV hq hh) hq) λ⟨h1,a,w,h2⟩=>⟨h1,a,w,hq _ _ _ h2⟩
  ·rename_i hw;rw[aM hw]at h;exact HV hq h
theorem cj.mono {C:Cx} {N:Nat} {ops:Array Oper} {rest:List Oper} {Q Q':AQ} {O:Sg} {L:List aq} (h:cj C N ops rest Q O L) (hq:∀e O L,Q e O L->Q' e O L):cj C N ops rest Q' O L:=λF w0 L0 a w hs hx=>
 HV (λ_ _ _ ⟨e0,O',L',h1,h2⟩=>⟨e0,O',L',hq _ _ _ h1,h2⟩) (h F w0 L0 a w hs hx)
theorem DO.up {E:Env} {N K:Nat} {all rest:List Oper} {Q:DQ} {σB:Sg} {LB:List aq} {Z Z':aN} (hl:Z.le Z') (h:cj E.toCx N all.toArray rest (lift K Z' Q) σB LB):cj E.toCx N all.toArray rest (lift K Z Q) σB LB:=
 h.mono λ_ _ _ h=>rm (hl.toK K) (λ_ _ _ h=>h) h
def Hp.push (L:Hp) (x:bC):Hp:=⟨Tr.put 24 L.e L.n (some x),L.n+1⟩
def Hp.set (L:Hp) (i:Nat) (x:bC):Hp:=⟨Tr.put 24 L.e i (some x),L.n⟩
def aN.gL (Z:aN) (t b:Nat):aN:=⟨λu=>if u=t then some b else Z.b u,Z.s⟩
def aN.bm (Z:aN) (t n:Nat) (x:Option Addr×Nat):aN:=⟨Z.b,λu m=>if u=t/\m=n then some x else Z.s u m⟩
theorem aN.EW {Z:aN} {t b:Nat} (h:Z.b t=none):Z.le (Z.gL t b):=⟨λu x hx=>by
 have:u≠t:=λe=>by subst e;rw[h]at hx;cases hx
 simp[aN.gL,this,hx],λ_ _ _ h=>h⟩
theorem aN.mb {Z:aN} {t n:Nat} {x:Option Addr×Nat} (h:∀y,Z.s t n=some y->y=x):Z.le (Z.bm t n x):=⟨λ_ _ h=>h,λu m y hy=>by
 by_cases hu:u=t/\m=n
 ·obtain⟨rfl,rfl⟩:=hu;simp[aN.bm,h y hy]
 ·simp[aN.bm,hu,hy]⟩
theorem aaB {D:Type} {l r:List D} {i:Nat} {x:D} (h:nth l i=some x):nth (l++r) i=some x:=by
 rw[cM]at h⊢;rw[mF (cr.1 h).1];exact h
theorem HS.lt {Z:aN} {L:Hp} {LB:List aq} (hh:HS Z L LB) {i:Nat} {x:bC} (h:L.e.get i=some x):i<L.n:=by
 obtain⟨y,h1,_⟩:=hh.en i x h;rw[cM]at h1;rw[<-hh.len];exact(cr.1 h1).1
theorem HS.push {Z Z':aN} {L:Hp} {LB:List aq} (hh:HS Z L LB) (hl:Z.le Z') (hs:∀i,i≠L.n->Z'.s i=Z.s i) (hb:∀i,i≠L.n->Z'.b i=Z.b i) {x:bC} {y:aq} (hx:mZ Z' L.n x y):HS Z' (L.push x) (LB++[y]):=by
 refine⟨λi z hz=>?_,by simp[Hp.push,hh.len],λt ht=>?_⟩
 ·rcases Tr.fy 24 L.e L.n i _ z hz with⟨rfl,h1⟩|⟨hne,h1⟩
  ·cases h1;exact⟨y,by rw[cM,<-hh.len];simp,hx⟩
  ·obtain⟨q,h2,h3⟩:=hh.en i z h1;exact⟨q,aaB h2,h3.mono hl (hs i hne)⟩
 ·have:t≠L.n:=by simp[Hp.push]at ht;omega
  rw[hb t this,hs t this];exact hh.iX t (by simp[Hp.push]at ht;omega)
theorem HS.set {Z Z':aN} {L:Hp} {LB:List aq} (hh:HS Z L LB) (hl:Z.le Z') {i:Nat} (hs:∀j,j≠i->Z'.s j=Z.s j) (hb:∀j,j≠i->Z'.b j=Z.b j) (hi:i<L.n) {x:bC} {y:aq} (hx:mZ Z' i x y):HS Z' (L.set i x) (LB.set i y):=by
 refine⟨λj z hz=>?_,by simp[Hp.set,hh.len],λt ht=>?_⟩
 ·rcases Tr.fy 24 L.e i j _ z hz with⟨rfl,h1⟩|⟨hne,h1⟩
  ·cases h1;exact⟨y,by rw[cM];simp[hh.len,hi],hx⟩
  ·obtain⟨q,h2,h3⟩:=hh.en j z h1;exact⟨q,by rw[cM]at h2⊢;rw[DI (jm hne)];exact h2,h3.mono hl (hs j hne)⟩
 ·have:t≠i:=by simp[Hp.set]at ht;omega
  rw[hb t this,hs t this];exact hh.iX t ht
section
variable {E:Env} {N K:Nat} {Q:DQ} {O:TS} {L:Hp} {o:Oper} {x:CV} {all rest:List Oper}
theorem DO.xy {cells:List CV} {d:Nat} (hg:o.guard=none) (hd:o.dst=some d) (hdN:Nat.blt d N=true) (h:∀Z s LB,SS Z O s->HS Z L LB->∃cs,aS Z cells cs/\gA E.toCx N o s LB cs)
  (k:DO E N K all rest Q (cv O (some d) (.own L.n 0)) (L.push (.box cells))):DO E N K all (o::rest) Q O L:=λZ σB LB hs hh=>by
 obtain⟨cs,h1,h2⟩:=h Z _ LB hs hh;refine cj.xy hg hd hdN h2 λb=>?_;have hdom:=hh.iX L.n (bX _);have hl:Z.le (Z.gL L.n b):=aN.EW hdom.1;have hbn:(Z.gL L.n b).b L.n=some b:=by simp[aN.gL]
 refine DO.up hl (k _ _ _ ((hs.mono hl).put (some d) (by simp only[aK];exact⟨b,LB.length,hbn,rfl⟩)) ?_);exact hh.push hl (λ_ _=>rfl) (λi hi=>by simp[aN.gL,hi]) ⟨b,cs,hbn,rfl,h1.mono hl⟩
theorem EX {t:TypeId} {p:Operand} (ho:o.op= .box t p) (hp:aY O p=some x):∀Z s LB,SS Z O s->HS Z L LB->∃cs,aS Z (eC x) cs/\gA E.toCx N o s LB cs:=λZ s LB hs _=>by
 obtain⟨y,h1,h2⟩:=cu hs hp;exact⟨_,DX h2,gA.box ho h1⟩
theorem D8 {t:TypeId} {td:TD} {sz by':Nat} {z:List Value} (ho:o.op= .alloc t) (ht:bc E.T t=some ⟨td,sz,by',z⟩):∀Z s LB,SS Z O s->HS Z L LB->∃cs,aS Z ((z.map .v).map .d) cs/\gA E.toCx N o s LB cs:=λ_ _ _ _ _=>
 ⟨_,jv _,gA.alloc ho ht⟩
def nb:List CV->Bool
 |[]=>true
 | .d y::r=>match fc [y]with
  |true=>nb r
  |false=>false
 | .agg _::_=>false
 | .bY _::_=>false
 |_::r=>nb r
theorem abF {y:AV} {r:List AV} (h:fc [y]=true) (hr:fc r=true):fc (y::r)=true:=by
 cases y<;>simp_all [fc]
theorem Ih {Z:aN}:∀{xs:List CV} {ys:List AV},nb xs=true->aS Z xs ys->fc ys=true
 |[],ys,_,h=>by simp only[aS]at h;subst h;rfl
 |x::r,ys,ho,h=>by
  simp only[aS]at h;obtain⟨y,r',rfl,h1,h2⟩:=h;have key:nb r=true->fc [y]=true->fc (y::r')=true:=λh3 h4=>abF h4 (Ih h3 h2);cases x with
  |d z=>
   simp only[aK]at h1;subst h1;simp only[nb]at ho;split at ho
   ·rename_i h3;exact key ho h3
   ·cases ho
  |agg xs=>cases ho
  |bY xs=>cases ho
  |own t n=>simp only[aK]at h1;obtain⟨b,t',_,rfl⟩:=h1;exact key ho rfl
  |os t n=>simp only[aK]at h1;obtain⟨a,c,t',_,rfl⟩:=h1;exact key ho rfl
  |oe t n m=>simp only[aK]at h1;obtain⟨a,c,t',_,rfl⟩:=h1;exact key ho rfl
  |om t=>simp only[aK]at h1;obtain⟨b,t',_,rfl⟩:=h1;exact key ho rfl
  |fn f fs cs=>simp only[aK]at h1;obtain⟨us,vs,rfl,_⟩:=h1;exact key ho rfl
  |bP t z=>simp only[aK]at h1;obtain⟨u,rfl,_⟩:=h1;exact key ho rfl
theorem DO.store {t:TypeId} {p v:Operand} {i off:Nat} {cs cs':List CV} {ti:TI} (hg:o.guard=none) (ho:o.op= .store t p v) (hd:o.dst=none) (hp:aY O p=some (.own i off)) (hv:aY O v=some x) (hi:L.e.get i=some (.box cs)) (ht:bc E.T t=some ti)
  (hk:Nat.beq (eC x).length ti.size=true) (h1:nb (eC x)=true) (hl:mK cs off (eC x)=some cs') (k:DO E N K all rest Q O (L.set i (.box cs'))):DO E N K all (o::rest) Q O L:=λZ σB LB hs hh=>by
 obtain⟨y,h2,h3⟩:=cu hs hp;simp only[aK]at h3;obtain⟨b,t',h3,rfl⟩:=h3;obtain⟨z,h4,h5⟩:=cu hs hv;obtain⟨q,h6,h7⟩:=hh.en i _ hi;obtain⟨b',us,h8,rfl,h9⟩:=h7;rw[h3]at h8;cases h8;have hc:=DX h5;obtain⟨us',h10,h11⟩:=DS hl h9 hc;refine cj.Ni hg hd (Ql ho h2 h4 h6 ht (by rw[hc.length];exact hk) (Ih h1 hc) h10) (k Z _ _ hs ?_);exact hh.set (.refl Z) (λ_ _=>rfl) (λ_ _=>rfl) (hh.lt hi) ⟨b,us',h3,rfl,h11⟩
theorem DO.l9 {t:TypeId} {p v:Operand} {i n m e kk:Nat} {rows:List (List AV)} {r r':List AV} {y:AV} {ti:TI} (j off:Nat) (hg:o.guard=none) (ho:o.op= .store t p v) (hd:o.dst=none) (hp:aY O p=some (.oe i n m)) (hv:aY O v=some (.d y)) (hi:L.e.get i=some (.row e kk rows)) (hn:n=rows.length)
  (hm:m=j*kk+off) (hr:rows[j]? =some r) (ht:bc E.T t=some ti) (hk:Nat.beq (cH y).length ti.size=true) (h1:fc (cH y)=true) (hl:fN r off (cH y)=some r') (k:DO E N K all rest Q O (L.set i (.row e kk (rows.set j r')))):DO E N K all (o::rest) Q O L:=λZ σB LB hs hh=>by
 obtain⟨z,h2,h3⟩:=cu hs hp;simp only[aK]at h3;obtain⟨a,c,t',h3,rfl⟩:=h3;obtain⟨z,h4,h5⟩:=cu hs hv;simp only[aK]at h5;subst h5;obtain⟨q,h6,h7⟩:=hh.en i _ hi;obtain⟨⟨a',c',h8,rfl⟩,h9⟩:=h7;subst hn;rw[h3]at h8;cases h8;refine cj.Ni hg hd (O1 ho j off h2 hm h4 h6 hr ht hk h1 hl) (k Z _ _ hs ?_);exact hh.set (.refl Z) (λ_ _=>rfl) (λ_ _=>rfl) (hh.lt hi) ⟨⟨a,c,by simpa using h3,by simp⟩,by simpa using h9⟩
theorem DO.lit {d n:Nat} {t:TypeId} {parts:Array (Nat×Operand)} {ty:TypeId} {pos:String} {after:Array Edge} {e k sz by' sz' by'':Nat} {z z':List Value} {td':TD} {cells:List AV}
  (ht:bc E.T t=some ⟨.slice e k,sz,by',z⟩) (hte:bc E.T e=some ⟨td',sz',by'',z'⟩) (hf:fD k (dS O) (iU n (z'.map .v)) parts.toList=some cells) (hb:Nat.ble (n*k) 16777216=true) (hk:Nat.ble 1 k=true) (hd:Nat.blt d N=true)
  (kk:DO E N K all rest Q (cv O (some d) (.os L.n n)) (L.push (.row e k (chunk n k cells)))):DO E N K all (⟨some d,.buildSlice t n parts,ty,pos,after,none⟩::rest) Q O L:=λZ σB LB hs hh=>by
 have hf':fD k (look σB) (iU n (z'.map .v)) parts.toList=some cells:=by
  have key:∀(l:List (Nat×Operand)) (cs r:List AV),fD k (dS O) cs l=some r->fD k (look σB) cs l=some r:=by
   intro l
   induction l with
   |nil=>intro cs r h;exact h
   |cons p l ih=>
    intro cs r h;obtain⟨i,p⟩:=p;simp only[fD]at h⊢;split at h
    ·rename_i y hy;have hy':ev (look σB) p=some y:=by
      cases p with
      |tmp u=>exact lL hs hy
      |const v=>exact hy
      |global g=>exact hy
      |func f=>exact hy
     simp only[hy'];split at h
     ·rename_i c1 h1 h2;exact ih _ _ h
     ·cases h
    ·cases h
  exact key _ _ _ hf
 refine cj.lit ht hte hf' hb hk hd λb=>?_;have hdom:=hh.iX L.n (bX _);have hl:Z.le (Z.bm L.n n (some ⟨b,0,none⟩,n)):=aN.mb λy hy=>by rw[hdom.2]at hy;cases hy
 have hbn:(Z.bm L.n n (some ⟨b,0,none⟩,n)).s L.n n=some (some ⟨b,0,none⟩,n):=by simp[aN.bm]
 refine DO.up hl (kk _ _ _ ((hs.mono hl).put (some d) (by simp only[aK];exact⟨_,_,LB.length,hbn,rfl⟩)) ?_);refine hh.push hl (λi hi=>by funext m;simp[aN.bm,hi]) (λ_ _=>rfl) ⟨⟨some ⟨b,0,none⟩,n,by rw[iO];exact hbn,by rw[iO]⟩,λm hm=>?_⟩;rw[iO]at hm;have:m≠n:=by omega
 simp only[aN.bm,this,and_false,if_false];exact hdom.2 m
theorem DO.jW (t e k:Nat) (ht:O.get t=some (.d (.v (.slice none 0 0)))) (kk:DO E N K all rest Q (Tr.put 24 O t (some (.os L.n 0))) (L.push (.row e k []))):DO E N K all rest Q O L:=λZ σB LB hs hh=>by
 obtain⟨y,h1,h2⟩:=hs t _ ht;simp only[aK]at h2;subst h2;refine cj.jW t e k h1 ?_;have hdom:=hh.iX L.n (bX _);have hl:Z.le (Z.bm L.n 0 (none,0)):=aN.mb λy hy=>by rw[hdom.2]at hy;cases hy
 have hbn:(Z.bm L.n 0 (none,0)).s L.n 0=some (none,0):=by simp[aN.bm]
 refine DO.up hl (kk _ _ _ ((hs.mono hl).put (some t) (by simp only[aK];exact⟨_,_,LB.length,hbn,rfl⟩)) ?_);refine hh.push hl (λi hi=>by funext m;simp[aN.bm,hi]) (λ_ _=>rfl) ⟨⟨none,0,by simpa using hbn,by simp⟩,λm hm=>?_⟩;have:m≠0:=by simp at hm;omega
 simp only[aN.bm,this,and_false,if_false];exact hdom.2 m
inductive la (E:Env) (O:TS) (L:Hp) (k:Nat):Operand->List (List AV)->Prop where
 |sl {p:Operand} {rows:List (List AV)}:aY O p=some (.d (.sl k rows))->la E O L k p rows
 |GP {p:Operand} {x:AV} {rows:List (List AV)}:aY O p=some (.d x)->(∀w A v,Rel w A x v->Rel w A (.sl k rows) v)->la E O L k p rows
 |nil {p:Operand}:aY O p=some (.d (.v (.slice none 0 0)))->la E O L k p []
 |row {p:Operand} {j n e:Nat} {rows:List (List AV)}:aY O p=some (.os j n)->L.e.get j=some (.row e k rows)->n=rows.length->la E O L k p rows
 |fz {p:Operand} {j n:Nat} {rows:List (List AV)}:aY O p=some (.os j n)->L.e.get j=some (.jJ k rows)->n=rows.length->la E O L k p rows
theorem la.ok {Z:aN} {σB:Sg} {LB:List aq} (hs:SS Z O (look σB)) (hh:HS Z L LB) {k:Nat} {p:Operand} {rows:List (List AV)} (h:la E O L k p rows):∀F a w,St E.G N w F a σB LB->jX w (Al F LB) k (a.eval p) rows:=λF a w hst=>by
 cases h with
 |sl h=>
  obtain⟨y,h1,h2⟩:=cu hs h;simp only[aK]at h2;subst h2;exact jX.sl (bH hst.sg h1)
 |GP h hI=>
  obtain⟨y,h1,h2⟩:=cu hs h;simp only[aK]at h2;subst h2;exact jX.sl (hI _ _ _ (bH hst.sg h1))
 |nil h=>
  obtain⟨y,h1,h2⟩:=cu hs h;simp only[aK]at h2;subst h2;have:=bH hst.sg h1;simp only[Rel]at this;rw[this];exact⟨none,0,0,[],rfl,rfl,by simp[bq],λ_=>rfl,λ_ h=>by cases h⟩
 |row h h3 hn=>
  obtain⟨y,h1,h2⟩:=cu hs h;simp only[aK]at h2;obtain⟨a',c,t',h4,rfl⟩:=h2;obtain⟨q,h5,h6⟩:=hh.en _ _ h3;obtain⟨⟨a2,c2,h7,rfl⟩,_⟩:=h6;subst hn;rw[h4]at h7;cases h7;have:=bH hst.sg h1;simp only[Rel]at this;rw[this];exact jX.row (ju hst.hp h5)
 |fz h h3 hn=>
  obtain⟨y,h1,h2⟩:=cu hs h;simp only[aK]at h2;obtain⟨a',c,t',h4,rfl⟩:=h2;obtain⟨q,h5,h6⟩:=hh.en _ _ h3;obtain⟨a2,c2,h7,rfl⟩:=h6;subst hn;rw[h4]at h7;cases h7;have:=bH hst.sg h1;simp only[Rel]at this;rw[this];exact jX.sl (rA hst.hp h5)
theorem DO.append {i d n:Nat} {s p:Operand} {t:TypeId} {ty:TypeId} {pos:String} {after:Array Edge} {e k sz by' sz' by'':Nat} {z z':List Value} {td':TD} {rows rows2:List (List AV)}
  (hb:(rows++rows2).length*by''<=140737488355328) (hs':aY O s=some (.os i n)) (hi:L.e.get i=some (.row e k rows)) (hn:n=rows.length) (hx:la E O L k p rows2) (ht:bc E.T t=some ⟨.slice e k,sz,by',z⟩) (hte:bc E.T e=some ⟨td',sz',by'',z'⟩) (h1:fU rows2=true)
  (hk:Nat.ble 1 k=true) (hby:Nat.ble 1 by''=true) (hd:Nat.blt d N=true)
  (kk:DO E N K all rest Q (cv O (some d) (.os i (rows++rows2).length)) (L.set i (.row e k (rows++rows2)))):
  DO E N K all (⟨some d,.call {callee:= .builtin .append,args:= #[s,p],argTypes:= #[t,t]},ty,pos,after,none⟩::rest) Q O L:=λZ σB LB hs hh=>by
 obtain⟨y,h2,h3⟩:=cu hs hs';simp only[aK]at h3;obtain⟨a,c,t',h3,rfl⟩:=h3;obtain⟨q,h6,h7⟩:=hh.en i _ hi;obtain⟨⟨a',c',h8,rfl⟩,h9⟩:=h7;subst hn;rw[h3]at h8;cases h8;refine cj.qS rfl hd (PO rfl ht hte h2 h6 (hx.ok hs hh) h1 hk hby hb) ?_;rintro r L' ⟨a',c',h0,rfl,rfl⟩;have hl:Z.le (Z.bm i (rows++rows2).length (a',c')):=aN.mb λy hy=>by
  by_cases hz:rows2=[]
  ·subst hz;simp only[jO]at hy;rw[h3]at hy;cases hy;obtain⟨rfl,rfl⟩:=h0 rfl;rfl
  ·have:rows.length<(rows++rows2).length:=by
    have:=OG.2 hz;simp;omega
   rw[h9 _ this]at hy;cases hy
 have hbn:(Z.bm i (rows++rows2).length (a',c')).s i (rows++rows2).length=some (a',c'):=by simp[aN.bm]
 refine DO.up hl (kk _ _ _ ((hs.mono hl).put (some d) (by simp only[aK];exact⟨_,_,i,hbn,rfl⟩)) ?_);refine hh.set hl (λj hj=>by funext m;simp[aN.bm,hj]) (λ_ _=>rfl) (hh.lt hi) ⟨⟨a',c',hbn,rfl⟩,λm hm=>?_⟩
 have hne:m≠(rows++rows2).length:=by omega
 simp only[aN.bm,hne,and_false,if_false];exact h9 m (by simp at hm;omega)
theorem DO.JE {i d n:Nat} {s p:Operand} {t u:TypeId} {ty:TypeId} {pos:String} {after:Array Edge} {e k sz by' sz' by'' szu byu:Nat} {z z' zu:List Value} {td':TD} {rows:List (List AV)} {b:ByteArray}
  (hb:(rows++dW b).length*by''<=140737488355328) (hs':aY O s=some (.os i n)) (hi:L.e.get i=some (.row e k rows)) (hn:n=rows.length) (hx:aY O p=some (.d (.v (.string b)))) (ht:bc E.T t=some ⟨.slice e k,sz,by',z⟩) (hu:bc E.T u=some ⟨.str,szu,byu,zu⟩) (hte:bc E.T e=some ⟨td',sz',by'',z'⟩)
  (hk:Nat.beq k 1=true) (hby:Nat.beq by'' 1=true) (hd:Nat.blt d N=true)
  (kk:DO E N K all rest Q (cv O (some d) (.os i (rows++dW b).length)) (L.set i (.row e k (rows++dW b)))):
  DO E N K all (⟨some d,.call {callee:= .builtin .append,args:= #[s,p],argTypes:= #[t,u]},ty,pos,after,none⟩::rest) Q O L:=λZ σB LB hs hh=>by
 obtain⟨y,h2,h3⟩:=cu hs hs';simp only[aK]at h3;obtain⟨a,c,t',h3,rfl⟩:=h3;obtain⟨y2,g2,g3⟩:=cu hs hx;simp only[aK]at g3;subst g3;obtain⟨q,h6,h7⟩:=hh.en i _ hi;obtain⟨⟨a',c',h8,rfl⟩,h9⟩:=h7;subst hn;rw[h3]at h8;cases h8;refine cj.qS rfl hd (Pc rfl ht hu hte h2 h6 g2 hk hby hb) ?_;rintro r L' ⟨a',c',h0,rfl,rfl⟩;have hl:Z.le (Z.bm i (rows++dW b).length (a',c')):=aN.mb λy hy=>by
  by_cases hz:dW b=[]
  ·rw[hz]at hy;simp only[jO]at hy;rw[h3]at hy;cases hy;obtain⟨rfl,rfl⟩:=h0 hz;rfl
  ·have:rows.length<(rows++dW b).length:=by
    have:=OG.2 hz;simp;omega
   rw[h9 _ this]at hy;cases hy
 have hbn:(Z.bm i (rows++dW b).length (a',c')).s i (rows++dW b).length=some (a',c'):=by simp[aN.bm]
 refine DO.up hl (kk _ _ _ ((hs.mono hl).put (some d) (by simp only[aK];exact⟨_,_,i,hbn,rfl⟩)) ?_);refine hh.set hl (λj hj=>by funext m;simp[aN.bm,hj]) (λ_ _=>rfl) (hh.lt hi) ⟨⟨a',c',hbn,rfl⟩,λm hm=>?_⟩
 have hne:m≠(rows++dW b).length:=by omega
 simp only[aN.bm,hne,and_false,if_false];exact h9 m (by simp at hm;omega)
theorem DO.make {d:Nat} {t:TypeId} {p q:Operand} {ty:TypeId} {pos:String} {after:Array Edge} {e k sz by' sz' by'':Nat} {z z':List Value} {td':TD} {kl kc:IntKind} {li ci:Int} (l c:Nat)
  (hb:c*by''<=140737488355328) (hl:l<=c) (hx:aY O p=some (.d (.v (.int kl li)))) (hli:li=(l:Int)) (hy:aY O q=some (.d (.v (.int kc ci)))) (hci:ci=(c:Int)) (ht:bc E.T t=some ⟨.slice e k,sz,by',z⟩) (hte:bc E.T e=some ⟨td',sz',by'',z'⟩)
  (hk:Nat.ble 1 k=true) (hby:Nat.ble 1 by''=true) (hd:Nat.blt d N=true)
  (kk:DO E N K all rest Q (cv O (some d) (.os L.n l)) (L.push (.row e k (List.replicate l (z'.map .v))))):DO E N K all (⟨some d,.makeSlice t p q,ty,pos,after,none⟩::rest) Q O L:=λZ σB LB hs hh=>by
 obtain⟨y1,h2,h3⟩:=cu hs hx;simp only[aK]at h3;subst h3;obtain⟨y1,h4,h5⟩:=cu hs hy;simp only[aK]at h5;subst h5;refine cj.make l c hb hl h2 hli h4 hci ht hte hk hby hd λb=>?_;have hdom:=hh.iX L.n (bX _);have hle:Z.le (Z.bm L.n l (some ⟨b,0,none⟩,c)):=aN.mb λy hy=>by rw[hdom.2]at hy;cases hy
 have hbn:(Z.bm L.n l (some ⟨b,0,none⟩,c)).s L.n l=some (some ⟨b,0,none⟩,c):=by simp[aN.bm]
 refine DO.up hle (kk _ _ _ ((hs.mono hle).put (some d) (by simp only[aK];exact⟨_,_,LB.length,hbn,rfl⟩)) ?_);refine hh.push hle (λi hi=>by funext m;simp[aN.bm,hi]) (λ_ _=>rfl) ⟨⟨some ⟨b,0,none⟩,c,by simpa using hbn,by simp⟩,λm hm=>?_⟩;have:m≠l:=by simp at hm;omega
 simp only[aN.bm,this,and_false,if_false];exact hdom.2 m
end
def eqs:List (Nat×Nat)->Prop
 |[]=>True
 |p::r=>p.1=p.2/\eqs r
theorem nH:∀{l r:List (Nat×Nat)},eqs (l++r)->eqs l/\eqs r
 |[],_,h=>⟨trivial,h⟩
 |_::_,_,h=>⟨⟨h.1,(nH h.2).1⟩,(nH h.2).2⟩
def cF (e:Tr bC):Nat->List CV->Option (List AV×List (Nat×Nat)×List (Nat×bC))
 |0,_=>none
 |_+1,[]=>some ([],[],[])
 |f+1,x::r=>match cF e f r with
  |none=>none
  |some (zs,ns,ms)=>match x with
   | .d y=>some (y::zs,ns,ms)
   | .agg ys=>match cF e f ys with
    |some (us,ns',ms')=>some (.agg us::zs,ns'++ns,ms'++ms)
    |none=>none
   | .bY ys=>match cF e f ys with
    |some (us,ns',ms')=>some (.bY us::zs,ns'++ns,ms'++ms)
    |none=>none
   | .own t o=>match e.get t with
    |some (.box cs)=>match cF e f cs with
     |some (us,ns',ms')=>some (.ip (us.drop o)::zs,ns'++ns,(t,.mx us)::(ms'++ms))
     |none=>none
    |some (.mx us)=>some (.ip (us.drop o)::zs,ns,ms)
    |_=>none
   | .os t n=>match e.get t with
    |some (.row _ k rows)=>some (.sl k rows::zs,(n,rows.length)::ns,(t,.jJ k rows)::ms)
    |some (.jJ k rows)=>some (.sl k rows::zs,(n,rows.length)::ns,ms)
    |_=>none
   | .fn g fs cs=>match cF e f fs,cF e f cs with
    |some (us,ns1,ms1),some (vs,ns2,ms2)=>some (.fn g us vs::zs,ns1++(ns2++ns),ms1++(ms2++ms))
    |_,_=>none
   | .bP t y=>match cF e f [y]with
    |some ([u],ns',ms')=>some (.bP t u::zs,ns'++ns,ms'++ms)
    |_=>none
   | .oe _ _ _=>none
   | .om _=>none
def gy (F:Nat->Prop) (LB:List aq) (M:List Nat) (b:Nat):Prop:=¬F b/\∀i y,nth LB i=some y->i∉M->b∉y.ids
theorem UG {F:Nat->Prop} {LB:List aq} (M:List Nat) {b:Nat} (h:Al F LB b):gy F LB M b:=
 ⟨h.1,λi y hy _ hb=>h.2 (gB.2 ⟨y,aV (by rw[<-cM];exact hy),hb⟩)⟩
theorem Ew {w:World} {F:Nat->Prop} {LB:List aq} (M:List Nat):dF w (Al F LB) w (gy F LB M):=⟨bX _,λ_ _ h=>⟨UG M h,rfl⟩⟩
theorem O2:∀{l:List aq} {i j:Nat} {x y:aq} {b:Nat},(ids l).Nodup->nth l i=some x->nth l j=some y->i≠j->b∈x.ids->b∉y.ids
 |[],_,_,_,_,_,_,h,_,_,_=>by simp[nth]at h
 |z::l,0,0,_,_,_,_,_,_,hne,_=>absurd rfl hne
 |z::l,0,j+1,x,y,b,hnd,hi,hj,_,hb=>λhy=>by
  rw[cJ,ly]at hnd;simp only[nth,aE]at hi hj;subst hi;exact hnd.2.2 b hb b (gB.2 ⟨y,aV (by rw[<-cM];exact hj),hy⟩) rfl
 |z::l,i+1,0,x,y,b,hnd,hi,hj,_,hb=>λhy=>by
  rw[cJ,ly]at hnd;simp only[nth,aE]at hi hj;subst hj;exact hnd.2.2 b hy b (gB.2 ⟨x,aV (by rw[<-cM];exact hi),hb⟩) rfl
 |z::l,i+1,j+1,x,y,b,hnd,hi,hj,hne,hb=>by
  rw[cJ,ly]at hnd;simp only[nth]at hi hj;exact O2 hnd.2.1 hi hj (λe=>hne (by rw[e])) hb
theorem UU {G:Gl} {w:World} {F:Nat->Prop} {LB:List aq} {M:List Nat} (hH:bM G w F LB) {i:Nat} {x:aq} {b:Nat} (hi:nth LB i=some x) (hM:i∈M) (hb:b∈x.ids):gy F LB M b:=by
 refine⟨hH.free b (gB.2 ⟨x,aV (by rw[<-cM];exact hi),hb⟩),λj y hj hjM=>?_⟩;exact O2 hH.nodup hi hj (λe=>hjM (e▸hM)) hb
def sN (Z:aN) (w:World) (A:Nat->Prop):Nat×bC->Prop
 |(t,.mx us)=>∃b,Z.b t=some b/\Rel w A (.ip us) (.pointer (some ⟨b,0,none⟩))
 |(t,.jJ k rows)=>∃a c,Z.s t rows.length=some (a,c)/\Rel w A (.sl k rows) (.slice a rows.length c)
 |_=>False
section
variable {Z:aN} {L:Hp} {LB:List aq} {w:World} {F:Nat->Prop} {G:Gl}
theorem aeX {M:List Nat} (hH:bM G w F LB) {i:Nat} {v:Value} {e k:Nat} {rows:List (List AV)} (hi:nth LB i=some (.row v e k rows)) (hM:i∈M):Rel w (gy F LB M) (.sl k rows) v:=by
 obtain⟨vs,h1,h2,h3⟩:=ju hH hi;simp only[Rel];rcases h3 with⟨rfl,h0⟩|⟨g,cap,cur,rfl,_,hg,hn,hcm,hcs,htake⟩
 ·exact .inl ⟨jb h0,_,_,rfl⟩
 ·refine .inr ⟨g,0,cap,vs,rfl,⟨(gQ.1 hg).1,UU hH hi hM (by simp[aq.ids,Value.ownBlock])⟩,hn,hcm,h1.keep (Ew M),λj u hj=>?_⟩;rw[<-htake,fT]at hj;split at hj
  ·rw[kJ];simp[World.cell?,hg];simpa using hj
  ·cases hj
theorem jU (hh:HS Z L LB) (hH:bM G w F LB) (M:List Nat):∀(f:Nat) {xs:List CV} {zs:List AV} {ns:List (Nat×Nat)} {ms:List (Nat×bC)} {ys:List AV} {vs:List Value},cF L.e f xs=some (zs,ns,ms)->eqs ns->(∀p∈ms,p.1∈M)->
  aS Z xs ys->aL w (Al F LB) ys vs->aL w (gy F LB M) zs vs/\∀p∈ms,sN Z w (gy F LB M) p
 |0,_,_,_,_,_,_,h,_,_,_,_=>by simp[cF]at h
 |f+1,[],zs,ns,ms,ys,vs,h,_,_,hi,hr=>by
  simp only[cF,aE,cR]at h;obtain⟨rfl,rfl,rfl⟩:=h;simp only[aS]at hi;subst hi;simp only[aL]at hr;subst hr;exact⟨by simp[aL],by simp⟩
 |f+1,x::r,zs,ns,ms,ys,vs,h,hn,hM,hi,hr=>by
  simp only[aS]at hi;obtain⟨y,ys,rfl,hy,hi⟩:=hi;simp only[aL]at hr;obtain⟨v,vs,rfl,hv,hr⟩:=hr;simp only[cF]at h;split at h
  ·cases h
  ·rename_i aA ns0 ms0 h0;have tail:∀{z:AV} {ms':List (Nat×bC)},eqs ns0->(∀p∈ms0,p.1∈M)->Rel w (gy F LB M) z v->(∀p∈ms',sN Z w (gy F LB M) p)->aL w (gy F LB M) (z::aA) (v::vs)/\∀p∈ms'++ms0,sN Z w (gy F LB M) p:=by
    intro z ms' hn' hM' hz hm;obtain⟨h1,h2⟩:=jU hh hH M f h0 hn' hM' hi hr;refine⟨by simp only[aL];exact⟨_,_,rfl,hz,h1⟩,λp hp=>?_⟩;rcases b7.1 hp with hp|hp
    ·exact hm p hp
    ·exact h2 p hp
   cases x with
   |d z=>
    simp only[aE,cR]at h;obtain⟨rfl,rfl,rfl⟩:=h;simp only[aK]at hy;subst hy;simpa using tail (ms':=[]) hn hM (hv.keep (Ew M)) (by simp)
   |agg ks=>
    simp only at h;split at h
    ·rename_i us ns' ms' h1;simp only[aE,cR]at h;obtain⟨rfl,rfl,rfl⟩:=h;simp only[aK]at hy;obtain⟨ws,rfl,hy⟩:=hy;simp only[Rel]at hv;obtain⟨qs,rfl,hv⟩:=hv;obtain⟨g1,g2⟩:=nH hn;obtain⟨h2,h3⟩:=jU hh hH M f h1 g1 (λp hp=>hM p (by simp[hp])) hy hv;exact tail g2 (λp hp=>hM p (by simp[hp])) (by simp only[Rel];exact⟨qs,rfl,h2⟩) h3
    ·cases h
   |bY ks=>
    simp only at h;split at h
    ·rename_i us ns' ms' h1;simp only[aE,cR]at h;obtain⟨rfl,rfl,rfl⟩:=h;simp only[aK]at hy;obtain⟨ws,rfl,hy⟩:=hy;simp only[Rel]at hv;obtain⟨qs,rfl,hv⟩:=hv;obtain⟨g1,g2⟩:=nH hn;obtain⟨h2,h3⟩:=jU hh hH M f h1 g1 (λp hp=>hM p (by simp[hp])) hy hv;exact tail g2 (λp hp=>hM p (by simp[hp])) (by simp only[Rel];exact⟨qs,rfl,h2⟩) h3
    ·cases h
   |own t off=>
    simp only[aK]at hy;obtain⟨b,t',hb,rfl⟩:=hy;simp only[Rel]at hv;subst hv;simp only at h;split at h
    ·rename_i cs hcs;split at h
     ·rename_i us ns' ms' h1;simp only[aE,cR]at h;obtain⟨rfl,rfl,rfl⟩:=h;obtain⟨q,hq1,hq2⟩:=hh.en t _ hcs;obtain⟨b',ws,hb',rfl,hws⟩:=hq2;rw[hb]at hb';cases hb';obtain⟨e,qs,hheap,hqs⟩:=ju hH hq1;obtain⟨g1,g2⟩:=nH hn;have htM:t∈M:=hM (t,.mx us) (by simp);obtain⟨h2,h3⟩:=jU hh hH M f h1 g1 (λp hp=>hM p (by simp[hp])) hws hqs;have hip:Rel w (gy F LB M) (.ip us) (.pointer (some ⟨b,0,none⟩)):=by
       simp only[Rel];exact⟨b,0,qs,rfl,⟨(gQ.1 hheap).1,UU hH hq1 htM (by simp[aq.ids])⟩,h2,λj u hj=>by rw[kJ];exact tC hheap j u hj⟩
      have:=tail (ms':=(t,.mx us)::ms') g2 (λp hp=>hM p (by simp[hp])) (hip.J6 off) (λp hp=>by
       rcases cq.1 hp with rfl|hp
       ·exact⟨b,hb,hip⟩
       ·exact h3 p hp)
      simpa using this
     ·cases h
    ·rename_i us hcs;simp only[aE,cR]at h;obtain⟨rfl,rfl,rfl⟩:=h;obtain⟨q,hq1,hq2⟩:=hh.en t _ hcs;obtain⟨b',hb',rfl⟩:=hq2;rw[hb]at hb';cases hb';have:=tail (ms':=[]) hn hM (((rA hH hq1).keep (Ew M)).J6 off) (by simp);simpa using this
    ·cases h
   |os t n=>
    simp only[aK]at hy;obtain⟨a,c,t',hb,rfl⟩:=hy;simp only[Rel]at hv;subst hv;simp only at h;split at h
    ·rename_i e k rows hcs;simp only[aE,cR]at h;obtain⟨rfl,rfl,rfl⟩:=h;obtain⟨q,hq1,hq2⟩:=hh.en t _ hcs;obtain⟨⟨a',c',hb',rfl⟩,_⟩:=hq2;have hnl:n=rows.length:=hn.1;subst hnl;rw[hb]at hb';cases hb';have hsl:=aeX (M:=M) hH hq1 (hM (t,.jJ k rows) (by simp));have:=tail (ms':=[(t,.jJ k rows)]) hn.2 (λp hp=>hM p (by simp[hp])) hsl (λp hp=>by
      simp only[iZ]at hp;subst hp;exact⟨a,c,hb,hsl⟩)
     simpa using this
    ·rename_i k rows hcs;simp only[aE,cR]at h;obtain⟨rfl,rfl,rfl⟩:=h;obtain⟨q,hq1,hq2⟩:=hh.en t _ hcs;obtain⟨a',c',hb',rfl⟩:=hq2;have hnl:n=rows.length:=hn.1;subst hnl;rw[hb]at hb';cases hb';have:=tail (ms':=[]) hn.2 hM ((rA hH hq1).keep (Ew M)) (by simp);simpa using this
    ·cases h
   |fn g fs cs=>
    simp only at h;split at h
    ·rename_i us ns1 ms1 us2 ns2 ms2 h1 h2;simp only[aE,cR]at h;obtain⟨rfl,rfl,rfl⟩:=h;simp only[aK]at hy;obtain⟨ws,ws2,rfl,hy,hy2⟩:=hy;simp only[Rel]at hv;obtain⟨qs,qs2,rfl,hv,hv2⟩:=hv;obtain⟨g1,g2⟩:=nH hn;obtain⟨g2,g3⟩:=nH g2;obtain⟨h3,h4⟩:=jU hh hH M f h1 g1 (λp hp=>hM p (by simp[hp])) hy hv;obtain⟨h5,h6⟩:=jU hh hH M f h2 g2 (λp hp=>hM p (by simp[hp])) hy2 hv2;have:=tail (ms':=ms1++ms2) g3 (λp hp=>hM p (by simp[hp])) (z:= .fn g us us2) (by simp only[Rel];exact⟨qs,qs2,rfl,h3,h5⟩) (λp hp=>by
      rcases b7.1 hp with hp|hp
      ·exact h4 p hp
      ·exact h6 p hp)
     simpa using this
    ·cases h
   |bP t k=>
    simp only at h;split at h
    ·rename_i u ns' ms' h1;simp only[aE,cR]at h;obtain⟨rfl,rfl,rfl⟩:=h;simp only[aK]at hy;obtain⟨z,rfl,hy⟩:=hy;simp only[Rel]at hv;obtain⟨q,rfl,hv⟩:=hv;obtain⟨g1,g2⟩:=nH hn;obtain⟨h2,h3⟩:=jU hh hH M f (ys:=[z]) (vs:=[q]) h1 g1 (λp hp=>hM p (by simp[hp])) (by simp only[aS];exact⟨_,_,rfl,hy,rfl⟩) (by simp only[aL];exact⟨_,_,rfl,hv,rfl⟩);simp only[aL]at h2;obtain⟨q',_,h4,h5,rfl⟩:=h2;cases h4;exact tail g2 (λp hp=>hM p (by simp[hp])) (by simp only[Rel];exact⟨q,rfl,h5⟩) h3
    ·cases h
   |oe t n off=>cases h
   |om t=>cases h
end
def jz:List (Nat×bC)->Hp->Hp
 |[],L=>L
 |(t,e)::r,L=>(jz r L).set t e
def Am (Z:aN) (t:Nat):bC->aq
 | .mx us=> .fact (.ip us) (.pointer (some ⟨(Z.b t).getD 0,0,none⟩))
 | .jJ k rows=> .fact (.sl k rows) (.slice ((Z.s t rows.length).getD (none,0)).1 rows.length ((Z.s t rows.length).getD (none,0)).2)
 |_=> .gone
def fF (Z:aN):List (Nat×bC)->List aq->List aq
 |[],l=>l
 |(t,e)::r,l=>(fF Z r l).set t (Am Z t e)
theorem aaS {Z:aN}:∀(ms:List (Nat×bC)) (l:List aq),(fF Z ms l).length=l.length
 |[],_=>rfl
 |(t,e)::r,l=>by simp[fF,aaS r l]
theorem PQ {Z:aN} {t:Nat} {e:bC}:(Am Z t e).ids=[]:=by cases e<;>rfl
theorem Pd {x:aq} (hx:x.ids=[]):∀(l:List aq) (i:Nat),(ids (l.set i x)).Sublist (ids l)
 |[],_=>by simp
 |y::l,0=>by simp only[DD,cJ,hx,pA];exact anN _ _
 |y::l,i+1=>by simp only[q7,cJ];exact anO (HF _) (Pd hx l i)
theorem yG {Z:aN}:∀(ms:List (Nat×bC)) (l:List aq),(ids (fF Z ms l)).Sublist (ids l)
 |[],_=>HF _
 |(t,e)::r,l=>(Pd PQ _ _).trans (yG r l)
theorem Iy {Z:aN}:∀(ms:List (Nat×bC)) (l:List aq) (i:Nat) (x:aq),nth (fF Z ms l) i=some x->(nth l i=some x/\i∉ms.map (·.1))\/∃e,(i,e)∈ms/\x=Am Z i e
 |[],_,_,_,h=> .inl ⟨h,by simp⟩
 |(t,e)::r,l,i,x,h=>by
  simp only[fF]at h;by_cases hti:t=i
  ·subst hti;rw[cM]at h;have hlt:t<(fF Z r l).length:=by
    have:=(cr.1 h).1;simpa using this
   rw[OH hlt]at h;cases h;exact .inr ⟨e,by simp,rfl⟩
  ·rw[cM,DI hti,<-cM]at h;rcases Iy r l i x h with⟨h1,h2⟩|⟨e',h1,h2⟩
   ·exact .inl ⟨h1,by simp only[dp,cq,not_or];exact⟨λe=>hti e.symm,h2⟩⟩
   ·exact .inr ⟨e',by simp[h1],h2⟩
section
variable {Z:aN} {L:Hp} {LB:List aq} {w:World} {F:Nat->Prop} {G:Gl}
theorem ack {ms:List (Nat×bC)} {b:Nat} (h:gy F LB (ms.map (·.1)) b):Al F (fF Z ms LB) b:=by
 refine⟨h.1,λhb=>?_⟩;obtain⟨x,hx,hb⟩:=gB.1 hb;obtain⟨i,hi⟩:=jR hx;rw[<-cM]at hi;rcases Iy ms LB i x hi with⟨h1,h2⟩|⟨e,_,rfl⟩
 ·exact h.2 i x h1 h2 hb
 ·rw[PQ]at hb;cases hb
theorem tT {ms:List (Nat×bC)}:dF w (gy F LB (ms.map (·.1))) w (Al F (fF Z ms LB)):=⟨bX _,λ_ _ h=>⟨ack h,rfl⟩⟩
theorem Ev (hH:bM G w F LB) {ms:List (Nat×bC)} (hm:∀p∈ms,sN Z w (gy F LB (ms.map (·.1))) p):bM G w F (fF Z ms LB):=by
 refine hH.facts (yG ms LB) λx hx=>?_;obtain⟨i,hi⟩:=jR hx;rw[<-cM]at hi;rcases Iy ms LB i x hi with⟨h1,_⟩|⟨e,h1,rfl⟩
 ·exact .inl (aV (by rw[<-cM];exact h1))
 ·right;have h2:=hm _ h1;cases e<;>first|exact h2.elim|skip
  ·obtain⟨b,h3,h4⟩:=h2;exact⟨_,_,rfl,by simp only[h3,aam];exact h4.keep tT⟩
  ·obtain⟨a,c,h3,h4⟩:=h2;exact⟨_,_,rfl,by simp only[h3,aam];exact h4.keep tT⟩
theorem Rf:∀(ms:List (Nat×bC)) (L:Hp),(jz ms L).n=L.n
 |[],_=>rfl
 |(t,e)::r,L=>by simp[jz,Hp.set,Rf r L]
theorem Ed (hh:HS Z L LB):∀{ms:List (Nat×bC)},(∀p∈ms,p.1<L.n/\sN Z w F p)->HS Z (jz ms L) (fF Z ms LB)
 |[],_=>hh
 |(t,e)::r,hm=>by
  have ih:=Ed (ms:=r) hh λp hp=>hm p (by simp[hp]);obtain⟨h1,h2⟩:=hm (t,e) (by simp);refine ih.set (.refl Z) (λ_ _=>rfl) (λ_ _=>rfl) (by rw[Rf];exact h1) ?_
  cases e<;>first|exact h2.elim|skip
  ·obtain⟨b,h3,_⟩:=h2;exact⟨b,h3,by simp[Am,h3]⟩
  ·obtain⟨a,c,h3,_⟩:=h2;exact⟨a,c,h3,by simp[Am,h3]⟩
theorem sN.lt (hh:HS Z L LB) {A:Nat->Prop} {p:Nat×bC} (h:sN Z w A p):p.1<L.n:=by
 obtain⟨t,e⟩:=p;cases e<;>first|exact h.elim|skip
 ·obtain⟨b,h1,_⟩:=h;rcases nE t L.n with h2|h2
  ·exact h2
  ·rw[(hh.iX t h2).1]at h1;cases h1
 ·obtain⟨a,c,h1,_⟩:=h;rcases nE t L.n with h2|h2
  ·exact h2
  ·rw[(hh.iX t h2).2]at h1;cases h1
theorem aL.one {A:Nat->Prop} {x:AV} {v:Value} (h:Rel w A x v):aL w A [x] [v]:=by simp only[aL];exact⟨_,_,rfl,h,rfl⟩
theorem aL.FV {A:Nat->Prop} {x:AV} {v:Value} (h:aL w A [x] [v]):Rel w A x v:=by
 simp only[aL]at h;obtain⟨v',r,h1,h2,h3⟩:=h;cases h1;exact h2
theorem aS.one {x:CV} {y:AV} (h:aK Z x y):aS Z [x] [y]:=by simp only[aS];exact⟨_,_,rfl,h,rfl⟩
end
section
variable {E:Env} {N K:Nat} {Q:DQ} {O:TS} {L:Hp} {o:Oper} {x:CV} {all rest:List Oper}
theorem DO.cT {t:Nat} {z:AV} {ns:List (Nat×Nat)} {ms:List (Nat×bC)} (f:Nat) (hx:O.get t=some x) (hf:cF L.e f [x]=some ([z],ns,ms)) (hn:eqs ns) (k:DO E N K all rest Q (Tr.put 24 O t (some (.d z))) (jz ms L)):DO E N K all rest Q O L:=λZ σB LB hs hh=>by
 obtain⟨y,h1,h2⟩:=hs t x hx;intro F w0 L0 a w hst hxt;have hv:=(hst.sg.2 t y h1).2;obtain⟨h3,h4⟩:=jU hh hst.hp (ms.map (·.1)) f hf hn (λp hp=>dP.2 ⟨p,hp,rfl⟩) (aS.one h2) (aL.one hv);have h3:=h3.FV;have hHS:HS Z (jz ms L) (fF Z ms LB):=Ed (w:=w) (F:=gy F LB (ms.map (·.1))) hh λp hp=>⟨(h4 p hp).lt hh,h4 p hp⟩;have hHO:bM E.G w F (fF Z ms LB):=Ev hst.hp h4;have hsub:∀b∈ids (fF Z ms LB),b∈ids LB:=λb hb=>(yG ms LB).subset hb;have hkeep:dF w (Al F LB) w (Al F (fF Z ms LB)):=dF.sub hsub;refine k Z ((t,z)::σB) (fF Z ms LB) (hs.put (some t) (x:= .d z) (y:=z) rfl) hHS F w0 L0 a w ⟨⟨hst.sg.1,λu q hq=>?_⟩,hHO,hst.df⟩ (hxt.trans ⟨rfl,rfl,rfl,bX _,λ_ _ _=>rfl,λb hb=> .inl (hsub b hb),.of (bX _)⟩);simp only[look]at hq;cases hb:Nat.beq t u with
 |true=>
  rw[hb]at hq;simp only[aE]at hq;subst hq;rw[<-bQ hb];exact⟨(hst.sg.2 t y h1).1,h3.keep tT⟩
 |false=>
  rw[hb]at hq;exact⟨(hst.sg.2 u q hq).1,(hst.sg.2 u q hq).2.keep hkeep⟩
theorem DC.cT {t:Nat} {z:AV} {ns:List (Nat×Nat)} {ms:List (Nat×bC)} (f:Nat) (hx:O.get t=some x) (hf:cF L.e f [x]=some ([z],ns,ms)) (hn:eqs ns) {c:Code} (k:DC E N K c Q (Tr.put 24 O t (some (.d z))) (jz ms L)):DC E N K c Q O L:=λZ σB LB hs hh=>by
 obtain⟨y,h1,h2⟩:=hs t x hx;intro F w0 L0 a w hst hxt;have hv:=(hst.sg.2 t y h1).2;obtain⟨h3,h4⟩:=jU hh hst.hp (ms.map (·.1)) f hf hn (λp hp=>dP.2 ⟨p,hp,rfl⟩) (aS.one h2) (aL.one hv);have h3:=h3.FV;have hHS:HS Z (jz ms L) (fF Z ms LB):=Ed (w:=w) (F:=gy F LB (ms.map (·.1))) hh λp hp=>⟨(h4 p hp).lt hh,h4 p hp⟩;have hHO:bM E.G w F (fF Z ms LB):=Ev hst.hp h4;have hsub:∀b∈ids (fF Z ms LB),b∈ids LB:=λb hb=>(yG ms LB).subset hb;have hkeep:dF w (Al F LB) w (Al F (fF Z ms LB)):=dF.sub hsub;refine k Z ((t,z)::σB) (fF Z ms LB) (hs.put (some t) (x:= .d z) (y:=z) rfl) hHS F w0 L0 a w ⟨⟨hst.sg.1,λu q hq=>?_⟩,hHO,hst.df⟩ (hxt.trans ⟨rfl,rfl,rfl,bX _,λ_ _ _=>rfl,λb hb=> .inl (hsub b hb),.of (bX _)⟩);simp only[look]at hq;cases hb:Nat.beq t u with
 |true=>
  rw[hb]at hq;simp only[aE]at hq;subst hq;rw[<-bQ hb];exact⟨(hst.sg.2 t y h1).1,h3.keep tT⟩
 |false=>
  rw[hb]at hq;exact⟨(hst.sg.2 u q hq).1,(hst.sg.2 u q hq).2.keep hkeep⟩
def cz (z y:AV):Prop:=∀w A v,Rel w A z v->Rel w A y v
inductive cN:List AV->List AV->Prop where
 |nil:cN [] []
 |cons {x y:AV} {xs ys:List AV}:cz x y->cN xs ys->cN (x::xs) (y::ys)
theorem cz.refl (x:AV):cz x x:=λ_ _ _ h=>h
theorem cN.refl:∀(xs:List AV),cN xs xs
 |[]=> .nil
 |x::xs=> .cons (.refl x) (cN.refl xs)
theorem cN.rel {w:World} {A:Nat->Prop}:∀{xs ys:List AV} {vs:List Value},cN xs ys->aL w A xs vs->aL w A ys vs
 |_,_,_,.nil,h=>h
 |_,_,_,.cons h t,hr=>by
  simp only[aL]at hr⊢;obtain⟨v,r,rfl,h1,h2⟩:=hr;exact⟨v,r,rfl,h _ _ _ h1,cN.rel t h2⟩
theorem cz.nil (k:Nat):cz (.v (.slice none 0 0)) (.sl k []):=λw A v h=>by
 simp only[Rel]at h⊢;subst h;exact .inl ⟨trivial,_,_,rfl⟩
theorem cz.agg {xs ys:List AV} (h:cN xs ys):cz (.agg xs) (.agg ys):=λw A v hr=>by
 simp only[Rel]at hr⊢;obtain⟨vs,rfl,h1⟩:=hr;exact⟨vs,rfl,h.rel h1⟩
theorem cz.bY {xs ys:List AV} (h:cN xs ys):cz (.bY xs) (.bY ys):=λw A v hr=>by
 simp only[Rel]at hr⊢;obtain⟨vs,rfl,h1⟩:=hr;exact⟨vs,rfl,h.rel h1⟩
theorem cz.ip {xs ys:List AV} (h:cN xs ys):cz (.ip xs) (.ip ys):=λw A v hr=>by
 simp only[Rel]at hr⊢;obtain⟨b,o,vs,e1,e2,e3,e4⟩:=hr;exact⟨b,o,vs,e1,e2,h.rel e3,e4⟩
theorem cz.fn {f:FuncId} {fs fs' cs cs':List AV} (h:cN fs fs') (g:cN cs cs'):cz (.fn f fs cs) (.fn f fs' cs'):=λw A v hr=>by
 simp only[Rel]at hr⊢;obtain⟨us,vs,e,h1,h2⟩:=hr;exact⟨us,vs,e,h.rel h1,g.rel h2⟩
inductive eu:List (List AV)->List (List AV)->Prop where
 |nil:eu [] []
 |cons {x y:List AV} {xs ys:List (List AV)}:cN x y->eu xs ys->eu (x::xs) (y::ys)
theorem cN.length {xs ys:List AV} (h:cN xs ys):ys.length=xs.length:=by induction h with|nil=>rfl|cons _ _ ih=>simp[ih]
theorem eu.length {xs ys:List (List AV)} (h:eu xs ys):ys.length=xs.length:=by induction h with|nil=>rfl|cons _ _ ih=>simp[ih]
theorem eu.refl:∀(xs:List (List AV)),eu xs xs
 |[]=> .nil
 |x::xs=> .cons (.refl x) (eu.refl xs)
theorem eu.rel {w:World} {A:Nat->Prop} {k:Nat}:∀{xs ys:List (List AV)} {vs:List Value},eu xs ys->bq w A k xs vs->bq w A k ys vs
 |_,_,_,.nil,h=>h
 |_,_,_,.cons h t,hr=>by
  simp only[bq]at hr⊢;obtain⟨v1,v2,rfl,h0,h1,h2⟩:=hr;exact⟨v1,v2,rfl,by rw[h.length];exact h0,h.rel h1,eu.rel t h2⟩
theorem cz.sl {k:Nat} {xs ys:List (List AV)} (h:eu xs ys):cz (.sl k xs) (.sl k ys):=λw A v hr=>by
 simp only[Rel]at hr⊢;rcases hr with⟨rfl,h1⟩|⟨b,o,cap,vs,e1,e2,e3,e4,e5,e6⟩
 ·cases h;exact .inl ⟨rfl,h1⟩
 ·exact .inr ⟨b,o,cap,vs,by rw[h.length];exact e1,e2,by rw[h.length];exact e3,e4,h.rel e5,e6⟩
theorem eu.append {xs ys xs' ys':List (List AV)} (h:eu xs ys) (g:eu xs' ys'):eu (xs++xs') (ys++ys'):=by
 induction h with
 |nil=>exact g
 |cons h _ ih=>exact .cons h ih
def dD:AV->Bool
 | .v _=>true
 | .agg xs=>go xs
 | .bY xs=>go xs
 | .bP _ x=>dD x
 |_=>false
where go:List AV->Bool
 |[]=>true
 |x::r=>match dD x with
  |true=>go r
  |false=>false
mutual
theorem DY {w:World} {A A':Nat->Prop}:∀{x:AV} {v:Value},dD x=true->Rel w A x v->Rel w A' x v
 | .v _,_,_,h=>by simp only[Rel]at h⊢;exact h
 | .agg xs,_,hf,h=>by simp only[Rel]at h⊢;obtain⟨vs,e,h1⟩:=h;exact⟨vs,e,HU (by simpa[dD]using hf) h1⟩
 | .bY xs,_,hf,h=>by simp only[Rel]at h⊢;obtain⟨vs,e,h1⟩:=h;exact⟨vs,e,HU (by simpa[dD]using hf) h1⟩
 | .bP t x,_,hf,h=>by simp only[Rel]at h⊢;obtain⟨u,e,h1⟩:=h;exact⟨u,e,DY (by simpa[dD]using hf) h1⟩
 | .sl _ _,_,hf,_=>by simp[dD]at hf
 | .ip _,_,hf,_=>by simp[dD]at hf
 | .own _ _ _,_,hf,_=>by simp[dD]at hf
 | .os _ _ _ _,_,hf,_=>by simp[dD]at hf
 | .oe _ _ _,_,hf,_=>by simp[dD]at hf
 | .om _ _,_,hf,_=>by simp[dD]at hf
 | .fn _ _ _,_,hf,_=>by simp[dD]at hf
theorem HU {w:World} {A A':Nat->Prop}:∀{xs:List AV} {vs:List Value},dD.go xs=true->aL w A xs vs->aL w A' xs vs
 |[],_,_,h=>by simp only[aL]at h⊢;exact h
 |x::r,_,hf,h=>by
  simp only[dD.go]at hf;split at hf
  ·rename_i hx;simp only[aL]at h⊢;obtain⟨v,r',e,h1,h2⟩:=h;exact⟨v,r',e,DY hx h1,HU hf h2⟩
  ·cases hf
end
def eI (O:TS) (f:Operand) (args:List Operand):Option (FuncId×List CV):=
 match aY O f,sO O args with
 |some (.d (.v (.func (.func g) fa cs))),some xs=>some (g,(fa.toList.map .v).map .d++xs++(cs.toList.map .v).map .d)
 |some (.d (.fn g fs cs)),some xs=>some (g,fs.map .d++xs++cs.map .d)
 |some (.fn g fs cs),some xs=>some (g,fs++xs++cs)
 |_,_=>none
theorem rb {Z:aN} {s:Sl} (hs:SS Z O s) {f:Operand} {args:List Operand} {g:FuncId} {cs:List CV} (h:eI O f args=some (g,cs)):∃ys,callee s f args=some (g,ys)/\aS Z cs ys:=by
 unfold eI at h;split at h
 ·rename_i g' fa qs xs h1 h2;simp only[aE,cR]at h;obtain⟨rfl,rfl⟩:=h;obtain⟨y,h3,h4⟩:=cu hs h1;simp only[aK]at h4;subst h4;obtain⟨ys,h5,h6⟩:=tW hs h2;exact⟨_,by simp only[callee,h3,h5],((jv _).append h6).append (jv _)⟩
 ·rename_i g' fs qs xs h1 h2;simp only[aE,cR]at h;obtain⟨rfl,rfl⟩:=h;obtain⟨y,h3,h4⟩:=cu hs h1;simp only[aK]at h4;subst h4;obtain⟨ys,h5,h6⟩:=tW hs h2;exact⟨_,by simp only[callee,h3,h5],((jv _).append h6).append (jv _)⟩
 ·rename_i g' fs qs xs h1 h2;simp only[aE,cR]at h;obtain⟨rfl,rfl⟩:=h;obtain⟨y,h3,h4⟩:=cu hs h1;simp only[aK]at h4;obtain⟨us,vs,rfl,h4,h4'⟩:=h4;obtain⟨ys,h5,h6⟩:=tW hs h2;exact⟨_,by simp only[callee,h3,h5],(h4.append h6).append h4'⟩
 ·cases h
theorem Ix {Z:aN} {LB:List aq} {w:World} {F:Nat->Prop} {g:FuncId} {cs:List CV} {ys xs' xs:List AV} {vs:List Value} {ns:List (Nat×Nat)} {ms:List (Nat×bC)} {res:AR} (fl:Nat) (h:Pure E.toCx g xs res)
  (hf:cF L.e fl cs=some (xs',ns,ms)) (hn:eqs ns) (hi:cN xs' xs) (hl:ms=[]\/(match res with| .ret x=>dD x| .aT x=>dD x)=true) (hh:HS Z L LB) (hH:bM E.G w F LB) (hcs:aS Z cs ys) (hr:aL w (Al F LB) ys vs):
  Calls E.P g vs.toArray w λe w'=>AR.rel w' (Al F LB) res e/\ji w w':=by
 obtain⟨h3,h4⟩:=jU hh hH (ms.map (·.1)) fl hf hn (λp hp=>dP.2 ⟨p,hp,rfl⟩) hcs hr;have hHO:bM E.G w F (fF Z ms LB):=Ev hH h4;have hx:=hi.rel h3;have hx':aL w (Al F (fF Z ms LB)) xs vs:=hx.keep tT;refine(h.run hHO hx').mono ?_;rintro e w' ⟨hv,_,hext,hsame⟩;refine⟨?_,⟨hext.os,hext.drawn⟩,hext.tape,hext.output,hext.size,hsame⟩;rcases hl with rfl|hl
 ·exact hv
 ·cases res with
  |ret x=>obtain⟨v,rfl,hv⟩:=hv;exact⟨v,rfl,DY hl hv⟩
  |aT x=>obtain⟨v,rfl,hv⟩:=hv;exact⟨v,rfl,DY hl hv⟩
theorem bl.pure {f:Operand} {args:List Operand} {g:FuncId} {cs:List CV} {xs' xs:List AV} {ns:List (Nat×Nat)} {ms:List (Nat×bC)} {res:AV} {tys:Array TypeId} (fl:Nat) (ho:o.op= .call {callee:= .value f,args:=args.toArray,argTypes:=tys})
  (h:Pure E.toCx g xs (.ret res)) (hc:eI O f args=some (g,cs)) (hf:cF L.e fl cs=some (xs',ns,ms)) (hn:eqs ns) (hi:cN xs' xs) (hl:ms=[]\/dD res=true):bl E N o O L (.d res):=λZ s LB hs hh=>by
 obtain⟨ys,hcal,hcs⟩:=rb hs hc;refine⟨res,rfl,λF w a hN _ hH hopd K' Q' k=>?_⟩;have hmem:∀p,p=f\/p∈args->p∈o.op.operands.toList:=by
  rintro p hp;rw[ho];rcases hp with rfl|hp
  ·simp[Op.operands,Call.operands]
  ·simp[Op.operands,Call.operands,hp]
 have hc':callee (look (ee s (tmpsOf o))) f args=some (g,ys):=by
  unfold callee at hcal⊢;rw[fV (hmem f (.inl rfl)),tX λp hp=>fV (hmem p (.inr hp))];exact hcal
 have hsl:gM w (Al F LB) N a (look (ee s (tmpsOf o))):=⟨hN,λt y hy=>by obtain⟨h1,h2⟩:=lC hy;exact hopd t h1 y h2⟩;obtain⟨vs,h1,h2⟩:=yx (P:=E.P) hsl hc' (tys:=tys) (dst:=o.dst) (ty:=o.type) (pos:=o.pos) (after:=o.after) (gd:=o.guard) h.1;have ho':o=⟨o.dst,.call {callee:= .value f,args:=args.toArray,argTypes:=tys},o.type,o.pos,o.after,o.guard⟩:=by rw[<-ho]
 rw[<-ho']at h2;unfold Oper.wp;rw[h2 w,Oper.upon_enter];refine(Ix fl h hf hn hi hl hh hH hcs h1).mono ?_;rintro e w' ⟨⟨v,rfl,hv⟩,hcls⟩;exact k v w' hv hcls
theorem DO.uD {dst:Option Nat} {f:Operand} {args:List Operand} {g:FuncId} {cs:List CV} {xs' xs:List AV} {ns:List (Nat×Nat)} {ms:List (Nat×bC)} {res:AV} {tys:Array TypeId} {ty:TypeId} {pos:String} {after:Array Edge} (fl:Nat)
  (h:Pure E.toCx g xs (.aT res)) (hc:eI O f args=some (g,cs)) (hf:cF L.e fl cs=some (xs',ns,ms)) (hn:eqs ns) (hi:cN xs' xs) (hl:ms=[]\/dD res=true)
  (k:Q (.aT (.d res)) .lf L):DO E N K all (⟨dst,.call {callee:= .value f,args:=args.toArray,argTypes:=tys},ty,pos,after,none⟩::rest) Q O L:=λZ σB LB hs hh=>by
 obtain⟨ys,hcal,hcs⟩:=rb hs hc;intro F w0 L0 a w hst hxt;unfold wpList;rw[bg (by simp[Region.wanted])];refine .inl ?_;obtain⟨vs,h1,h2⟩:=yx (P:=E.P) hst.sg hcal (tys:=tys) (dst:=dst) (ty:=ty) (pos:=pos) (after:=after) (gd:=none) h.1;unfold Oper.wp;rw[h2 w,Oper.upon_enter];refine(Ix fl h hf hn hi hl hh hst.hp hcs h1).mono ?_;rintro e w' ⟨⟨v,rfl,hv⟩,hcls⟩;refine⟨.aT res,[],LB,⟨Z,.aT (.d res),.lf,L,.refl K Z,⟨res,rfl,rfl⟩,λt x hx=>by simp[Tr.lI]at hx,hh,k⟩,⟨v,rfl,hv⟩,⟨⟨hst.sg.1,λt x hx=>by simp[AE.sl,look]at hx⟩,hst.hp.later hcls.2.2.2,hst.df⟩,hxt.trans hcls.ext⟩
inductive DR where
 |ret (x:CV)
 |aT (x:CV)
def DR.inst (Z:aN):DR->AR->Prop
 | .ret x,r=>∃y,r= .ret y/\aK Z x y
 | .aT x,r=>∃y,r= .aT y/\aK Z x y
def V7 (K:Nat) (Z:aN) (Q:DR->Hp->Prop):AR->List aq->Prop:=λr LB=>∃Z' d L,aN.jh K Z Z'/\DR.inst Z' d r/\HS Z' L LB/\Q d L
def gm (E:Env) (g:FuncId) (args:List CV) (L:Hp) (Q:DR->Hp->Prop):Prop:=∀Z ys LB,aS Z args ys->HS Z L LB->lN E.toCx g ys LB (V7 L.n Z Q)
theorem HS.jh {Z Z':aN} {LB:List aq} (hh:HS Z L LB) (h:aN.jh L.n Z Z'):Z.le Z':=by
 refine⟨λt x hx=>?_,λt n x hx=>?_⟩
 ·rcases nE t L.n with h1|h1
  ·exact(h t h1).1 x hx
  ·rw[(hh.iX t h1).1]at hx;cases hx
 ·rcases nE t L.n with h1|h1
  ·exact(h t h1).2 n x hx
  ·rw[(hh.iX t h1).2]at hx;cases hx
theorem DO.call {dst:Option Nat} {f:Operand} {args:List Operand} {g:FuncId} {cs:List CV} {Q':DR->Hp->Prop} {tys:Array TypeId} {ty:TypeId} {pos:String} {after:Array Edge}
  (h:gm E g cs L Q') (hc:eI O f args=some (g,cs)) (hd:cP N dst=true) (k1:∀x L',Q' (.ret x) L'->DO E N K all rest Q (cv O dst x) L') (k2:∀x L',Q' (.aT x) L'->Q (.aT x) .lf L'):
  DO E N K all (⟨dst,.call {callee:= .value f,args:=args.toArray,argTypes:=tys},ty,pos,after,none⟩::rest) Q O L:=λZ σB LB hs hh=>by
 obtain⟨ys,h1,h2⟩:=rb hs hc;refine cj.agP (h Z ys LB h2 hh) h1 hd ?_ ?_
 ·rintro y LB' ⟨Z',r,L',h3,h4,h5,h6⟩;have hl:=hh.jh h3;cases r with
  |ret x=>
   obtain⟨y',e,h4⟩:=h4;cases e;exact DO.up hl (k1 x L' h6 Z' _ LB' ((hs.mono hl).put dst h4) h5)
  |aT x=>obtain⟨y',e,_⟩:=h4;cases e
 ·rintro y LB' ⟨Z',r,L',h3,h4,h5,h6⟩;have hl:=hh.jh h3;cases r with
  |ret x=>obtain⟨y',e,_⟩:=h4;cases e
  |aT x=>
   obtain⟨y',e,h4⟩:=h4;cases e;exact⟨Z',.aT x,.lf,L',hl.toK K,⟨y,rfl,h4⟩,λt x hx=>by simp[Tr.lI]at hx,h5,k2 x L' h6⟩
def jy:Nat->List CV->TS
 |_,[]=> .lf
 |n,x::xs=>Tr.put 24 (jy (n+1) xs) n (some x)
theorem Qm {Z:aN}:∀{xs:List CV} {ys:List AV} (n:Nat),aS Z xs ys->SS Z (jy n xs) (look (sP n ys))
 |[],ys,n,_=>λt x hx=>by simp[jy,Tr.lI]at hx
 |x::xs,ys,n,h=>by
  simp only[aS]at h;obtain⟨y,r,rfl,h1,h2⟩:=h;have:=Qm (n+1) h2;exact this.put (some n) h1
def Kw (T:cn) (O:TS) (L:Hp):ResultVar->Option CV
 | .tmp t=>O.get t
 | .cell a t=>match O.get a,bc T t with
  |some (.own i 0),some ⟨d,k,_,_⟩=>match L.e.get i with
   |some (.box cs)=>match d.agg with
    |true=>match Nat.ble k cs.length with
     |true=>some (wh (cs.take k))
     |false=>none
    |false=>nth cs 0
   |_=>none
  |some (.d (.ip cs)),some ⟨d,k,_,_⟩=>match d.agg,fits cs k with
   |true,true=>some (.d (.agg (cs.take k)))
   |_,_=>none
  |_,_=>none
def eX (T:cn) (O:TS) (L:Hp):List ResultVar->Option (List CV)
 |[]=>some []
 |r::rs=>match Kw T O L r,eX T O L rs with
  |some x,some xs=>some (x::xs)
  |_,_=>none
def fY:List CV->CV
 |[x]=>x
 |xs=>Kx xs
theorem adn {Z:aN} {σB:Sg} {LB:List aq} {T:cn} (hs:SS Z O (look σB)) (hh:HS Z L LB) {r:ResultVar} (h:Kw T O L r=some x):∃y,qC T σB LB r y/\aK Z x y:=by
 cases r with
 |tmp t=>obtain⟨y,h1,h2⟩:=hs t x h;exact⟨y,.tmp h1,h2⟩
 |cell a t=>
  simp only[Kw]at h;split at h
  ·rename_i i d k b z ha ht;split at h
   ·rename_i cs hcs;obtain⟨y,h1,h2⟩:=hs a _ ha;simp only[aK]at h2;obtain⟨bk,t',h2,rfl⟩:=h2;obtain⟨q,h3,h4⟩:=hh.en i _ hcs;obtain⟨bk',us,h5,rfl,h6⟩:=h4;rw[h2]at h5;cases h5;split at h
    ·rename_i hd;split at h
     ·rename_i hle;simp only[aE]at h;subst h;exact⟨_,.V8 h1 h3 ht hd (Ii (by rw[h6.length];exact eH hle)),D9 (h6.take k)⟩
     ·cases h
    ·rename_i hd;obtain⟨y,h7,h8⟩:=h6.nth h;cases us with
     |nil=>simp[nth]at h7
     |cons u us=>
      simp only[nth,aE]at h7;subst h7;exact⟨_,.UW h1 h3 ht hd,h8⟩
   ·cases h
  ·rename_i cs d k b z ha ht;split at h
   ·rename_i hd hf;simp only[aE]at h;subst h;obtain⟨y,h1,h2⟩:=hs a _ ha;simp only[aK]at h2;subst h2;exact⟨_,.V9 h1 ht hd hf,rfl⟩
   ·cases h
  ·cases h
theorem SB {Z:aN} {σB:Sg} {LB:List aq} {T:cn} (hs:SS Z O (look σB)) (hh:HS Z L LB):∀{rs:List ResultVar} {xs:List CV},eX T O L rs=some xs->∃ys,wH T σB LB rs ys/\aS Z xs ys
 |[],xs,h=>by simp only[eX,aE]at h;subst h;exact⟨[],.nil,by simp[aS]⟩
 |r::rs,xs,h=>by
  simp only[eX]at h;split at h
  ·rename_i x xs' h1 h2;simp only[aE]at h;subst h;obtain⟨y,h3,h4⟩:=adn hs hh h1;obtain⟨ys,h5,h6⟩:=SB hs hh h2;exact⟨y::ys,.cons h3 h5,by simp only[aS];exact⟨_,_,rfl,h4,h6⟩⟩
  ·cases h
theorem abE {Z:aN} {xs:List CV} {ys:List AV} (h:aS Z xs ys):aK Z (fY xs) (AI ys):=by
 match xs,ys,h with
 |[],ys,h=>exact PS (xs:=[]) h|>λz=>by simp only[aS]at h;subst h;exact z
 |[x],ys,h=>simp only[aS]at h;obtain⟨y,r,rfl,h1,rfl⟩:=h;exact h1
 |x::x'::r,ys,h=>
  have h0:=h;simp only[aS]at h0;obtain⟨y,r,rfl,h1,y',r',rfl,h2,h3⟩:=h0;exact PS h
def RD (T:cn) (rs:List ResultVar) (Q:DR->Hp->Prop):DQ:=λe O L=>match e with
 | .norm=>∃xs,eX T O L rs=some xs/\Q (.ret (fY xs)) L
 | .ret=>∃xs,eX T O L rs=some xs/\Q (.ret (fY xs)) L
 | .exit _=>False
 | .aT x=>Q (.aT x) L
theorem gm.enter {f:FuncId} {fn:Func} {c:Code} {args:List CV} {Q:DR->Hp->Prop} (hf:E.P.funcs[f]? =some fn) (hb:fn.body=some c) (hname:(fn.name== "runtime.NumGoroutine")=false)
  (rs:List ResultVar) (hrs:fn.results=rs.toArray) (nt:Nat) (hnt:fn.ntmps=nt) (hn:Nat.ble args.length nt=true) (h:DC E nt L.n c (RD E.T rs Q) (jy 0 args) L):gm E f args L Q:=λZ ys LB hi hh=>by
 refine lN.enter (E:=E) hf hb hname rs hrs nt hnt (by rw[hi.length];exact hn) (cm.mono (h Z (sP 0 ys) LB (Qm 0 hi) hh) ?_);rintro e OB' LB' ⟨Z',d,O',L',h1,h2,h3,h4,h5⟩;have main:(∃xs,eX E.T O' L' rs=some xs/\Q (.ret (fY xs)) L')->RQ E.T rs (V7 L.n Z Q) OB' LB':=by
  rintro ⟨xs,h6,h7⟩;obtain⟨zs,h8,h9⟩:=SB h3 h4 h6;exact⟨zs,h8,Z',.ret (fY xs),L',h1,⟨_,rfl,abE h9⟩,h4,h7⟩
 cases d with
 |norm=>simp only[DE.inst]at h2;subst h2;exact main h5
 |ret=>simp only[DE.inst]at h2;subst h2;exact main h5
 |exit i=>exact h5.elim
 |aT x=>obtain⟨y,rfl,h2⟩:=h2;exact⟨Z',.aT x,L',h1,⟨y,rfl,h2⟩,h4,h5⟩
def Hp.nil:Hp:=⟨.lf,0⟩
theorem HS.nil (Z:aN) (h:∀t,Z.b t=none/\∀n,Z.s t n=none):HS Z Hp.nil []:=⟨λi x hx=>by simp[Hp.nil,Tr.lI]at hx,rfl,λt _=>h t⟩
def Ends (f:Nat) (res:AR):DR->Hp->Prop
 | .ret x,L=>∃z ns ms,cF L.e f [x]=some ([z],ns,ms)/\eqs ns/\∃y,res= .ret y/\cz z y
 | .aT x,L=>∃z ns ms,cF L.e f [x]=some ([z],ns,ms)/\eqs ns/\∃y,res= .aT y/\cz z y
theorem Pure.YX {g:FuncId} {args:List AV} {res:AR} (f:Nat) (h:gm E g (args.map .d) Hp.nil (Ends f res)):Pure E.toCx g args res:=by
 have h0:=h ⟨λ_=>none,λ_ _=>none⟩ args [] (jv args) (HS.nil _ λ_=>⟨rfl,λ_=>rfl⟩);refine⟨h0.1,λF w vs hH hr=>(h0.2 F w vs hH hr).mono ?_⟩;rintro e w' ⟨r,LB,⟨Z',d,L,h1,h2,h3,h4⟩,hv,hh,hx⟩;have hA:∀b,gy F LB (List.range LB.length) b->Al F [] b:=λb hb=>⟨hb.1,by simp[ids]⟩;have hk:∀M:List Nat,dF w' (gy F LB M) w' (Al F []):=λM=>⟨bX _,λb _ hb=>⟨⟨hb.1,by simp[ids]⟩,rfl⟩⟩;have fin:∀{x:CV} {y:AV} {v:Value},(∃z ns ms,cF L.e f [x]=some ([z],ns,ms)/\eqs ns/\cz z y)->(∃u,aK Z' x u/\Rel w' (Al F LB) u v)->Rel w' (Al F []) y v:=by
  rintro x y v ⟨z,ns,ms,g1,g2,g3⟩ ⟨u,g4,g5⟩;obtain⟨g6,_⟩:=jU h3 hh (ms.map (·.1)) f g1 g2 (λp hp=>dP.2 ⟨p,hp,rfl⟩) (aS.one g4) (aL.one g5);exact g3 _ _ _ (g6.FV.keep (hk _))
 have hres:AR.rel w' (Al F []) res e:=by
  cases d with
  |ret x=>
   obtain⟨u,rfl,h5⟩:=h2;obtain⟨z,ns,ms,g1,g2,y,rfl,g3⟩:=h4;obtain⟨v,rfl,hv⟩:=hv;exact⟨v,rfl,fin ⟨z,ns,ms,g1,g2,g3⟩ ⟨u,h5,hv⟩⟩
  |aT x=>
   obtain⟨u,rfl,h5⟩:=h2;obtain⟨z,ns,ms,g1,g2,y,rfl,g3⟩:=h4;obtain⟨v,rfl,hv⟩:=hv;exact⟨v,rfl,fin ⟨z,ns,ms,g1,g2,g3⟩ ⟨u,h5,hv⟩⟩
 exact⟨res,[],⟨rfl,rfl⟩,hres,hh.none,⟨hx.os,hx.tape,hx.output,hx.size,hx.block,by simp[ids],hx.drawn⟩⟩
end
def sK (P:Program) (O:TS) (L:Hp):Op->Option (CV×List (Nat×Nat))
 | .binOp .eql t x y _=>match P.underlying t,aY O x,aY O y with
  |some (.slice _),some (.os i (n+1)),some (.d (.v (.slice none 0 0)))=>match L.e.get i with
   |some (.row _ _ rows)=>some (.d (.v (.bool false)),[(n+1,rows.length)])
   |some (.jJ _ rows)=>some (.d (.v (.bool false)),[(n+1,rows.length)])
   |_=>none
  |_,_,_=>none
 | .binOp .neq t x y _=>match P.underlying t,aY O x,aY O y with
  |some (.slice _),some (.os i (n+1)),some (.d (.v (.slice none 0 0)))=>match L.e.get i with
   |some (.row _ _ rows)=>some (.d (.v (.bool true)),[(n+1,rows.length)])
   |some (.jJ _ rows)=>some (.d (.v (.bool true)),[(n+1,rows.length)])
   |_=>none
  |_,_,_=>none
 |_=>none
section
variable {E:Env} {N:Nat} {O:TS} {L:Hp} {o:Oper}
theorem EY {Z:aN} {s:Sl} {LB:List aq} (hs:SS Z O s) (hh:HS Z L LB) {x:Operand} {i n:Nat} (hx:aY O x=some (.os i (n+1))) {rows:List (List AV)} (hn:n+1=rows.length) (hi:(∃e k,L.e.get i=some (.row e k rows))\/∃k,L.e.get i=some (.jJ k rows)):
  ∃t' a c,ev s x=some (.os t' a (n+1) c)/\∀{G:Gl} {w:World} {F:Nat->Prop},bM G w F LB->a.isNone=false:=by
 obtain⟨y,h1,h2⟩:=cu hs hx;simp only[aK]at h2;obtain⟨a,c,t',h3,rfl⟩:=h2;refine⟨t',a,c,h1,λhH=>?_⟩;rcases hi with⟨e,k,hi⟩|⟨k,hi⟩
 ·obtain⟨q,h4,h5⟩:=hh.en i _ hi;obtain⟨⟨a',c',h6,rfl⟩,_⟩:=h5;rw[<-hn,h3]at h6;cases h6;obtain⟨vs,_,h7⟩:=ju hH h4;obtain⟨_,h8|⟨g,cap,cur,h9,_⟩⟩:=h7
  ·omega
  ·cases h9;rfl
 ·obtain⟨q,h4,h5⟩:=hh.en i _ hi;obtain⟨a',c',h6,rfl⟩:=h5;rw[<-hn,h3]at h6;cases h6;have:=rA hH h4;simp only[Rel]at this;rcases this with⟨rfl,_⟩|⟨b,o,cap,vs,h1,_⟩
  ·simp at hn
  ·cases h1;rfl
theorem Ee {s:Sl} {LB:List aq} {t e:TypeId} {x y:Operand} {yt:TypeId} {t':Nat} {a:Option Addr} {n c:Nat} (neg:Bool) (ho:o.op= .binOp (if neg then .neq else .eql) t x y yt) (hu:E.P.underlying t=some (.slice e)) (hx:ev s x=some (.os t' a n c)) (hy:ev s y=some (.v (.slice none 0 0)))
  (ha:∀{G:Gl} {w:World} {F:Nat->Prop},bM G w F LB->a.isNone=false):ck E.toCx N o s LB (.v (.bool neg)):=by
 refine ck.oC λF act w hst=>?_;have h1:=bH hst.sg (show ev (look (ee s (tmpsOf o))) x=some (.os t' a n c)by rw[fV (by rw[ho];cases neg<;>simp[Op.operands])];exact hx);have h2:=bH hst.sg (show ev (look (ee s (tmpsOf o))) y=some (.v (.slice none 0 0))by rw[fV (by rw[ho];cases neg<;>simp[Op.operands])];exact hy);simp only[Rel]at h1 h2;have h0:=ha hst.hp;refine⟨_,gJ _,λw' _=>?_⟩;have h3:binOp .eql t (.slice a n c) (.slice none 0 0)=(do pure (.bool (<-Op.equal t (.slice a n c) (.slice none 0 0))):Sem Value):=rfl;have h4:binOp .neq t (.slice a n c) (.slice none 0 0)=(do pure (.bool (!(<-Op.equal t (.slice a n c) (.slice none 0 0)))):Sem Value):=rfl;cases neg
 ·simp[execOp,ho,h1,h2,eqGuard,h3,Ef hu,h0]
 ·simp[execOp,ho,h1,h2,eqGuard,h4,Ef hu,h0]
theorem bl.sK {x:CV} {ns:List (Nat×Nat)} (h:sK E.P O L o.op=some (x,ns)) (hn:eqs ns):bl E N o O L x:=λZ s LB hs hh=>by
 unfold Bw.sK at h;split at h
 ·rename_i t x y yt ho;split at h
  ·rename_i e i n hu hx hy;have hyy:ev s y=some (.v (.slice none 0 0)):=by
    obtain⟨z,g1,g2⟩:=cu hs hy;simp only[aK]at g2;subst g2;exact g1
   split at h
   ·rename_i e' k rows hi;simp only[aE,cR]at h;obtain⟨rfl,rfl⟩:=h;obtain⟨t',a,c,h1,h2⟩:=EY hs hh hx hn.1 (.inl ⟨_,_,hi⟩);exact⟨_,rfl,Ee false (by simpa using ho) hu h1 hyy h2⟩
   ·rename_i k rows hi;simp only[aE,cR]at h;obtain⟨rfl,rfl⟩:=h;obtain⟨t',a,c,h1,h2⟩:=EY hs hh hx hn.1 (.inr ⟨_,hi⟩);exact⟨_,rfl,Ee false (by simpa using ho) hu h1 hyy h2⟩
   ·cases h
  ·cases h
 ·rename_i t x y yt ho;split at h
  ·rename_i e i n hu hx hy;have hyy:ev s y=some (.v (.slice none 0 0)):=by
    obtain⟨z,g1,g2⟩:=cu hs hy;simp only[aK]at g2;subst g2;exact g1
   split at h
   ·rename_i e' k rows hi;simp only[aE,cR]at h;obtain⟨rfl,rfl⟩:=h;obtain⟨t',a,c,h1,h2⟩:=EY hs hh hx hn.1 (.inl ⟨_,_,hi⟩);exact⟨_,rfl,Ee true (by simpa using ho) hu h1 hyy h2⟩
   ·rename_i k rows hi;simp only[aE,cR]at h;obtain⟨rfl,rfl⟩:=h;obtain⟨t',a,c,h1,h2⟩:=EY hs hh hx hn.1 (.inr ⟨_,hi⟩);exact⟨_,rfl,Ee true (by simpa using ho) hu h1 hyy h2⟩
   ·cases h
  ·cases h
 ·cases h
