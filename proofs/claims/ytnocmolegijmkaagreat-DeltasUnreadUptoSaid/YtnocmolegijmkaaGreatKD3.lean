/- The abstract machine, third part: operations on own memory; handing own memory on; calls. -/
import Derived.Test.YtnocmolegijmkaaGreatKD1
set_option linter.all false
noncomputable section
namespace Go.Bw
open Go
theorem Oper.adt {P:Program} {o:Oper} {a:Act} {w:World} {K K':Act->World->Prop} {Q Q':Exit->Act->World->Prop} (h:∀a w,K a w->K' a w) (hq:∀e a w,Q e a w->Q' e a w)
  (hh:o.wp P a w K Q):o.wp P a w K' Q':=by
 unfold Oper.wp at*
 generalize (execOp a.eval o).run P w=r at*
 cases r with
 |ok n w'=>
  cases n<;>simp only[Oper.upon]at hh⊢<;>
   first
    |exact h _ _ hh
    |exact Calls.mono hh (λe w'' he=>by cases e<;>first|exact h _ _ he|exact hq _ _ _ he|exact(let⟨a,w,hz⟩:=he;⟨a,w,hq _ _ _ hz⟩))
    |exact Rows.mono hh (λ_ _ he=>h _ _ he)
 |halt x w'=>cases x<;>simp only[Oper.upon]at hh⊢<;>first|exact hh|exact hq _ _ _ hh
theorem HA {P:Program} {ops:Array Oper} {Q Q':Exit->Act->World->Prop} (hq:∀e a w,Q e a w->Q' e a w):∀{l:List Oper} {a:Act} {w:World},wpList P ops Q l a w->wpList P ops Q' l a w
 |[],_,_,h=>hq _ _ _ h
 |o::rest,a,w,h=>by
  unfold wpList at h⊢;split
  ·rename_i hw;rw[bf hw]at h;exact h.imp (Oper.adt (λ_ _ hh=>HA hq hh) hq) λ⟨h1,a,w,h2⟩=>⟨h1,a,w,hq _ _ _ h2⟩
  ·rename_i hw;rw[aM hw]at h;exact HA hq h
theorem bX.mono {C:Cx} {N:Nat} {ops:Array Oper} {rest:List Oper} {Q Q':AQ} {O:Sg} {L:List aw} (h:bX C N ops rest Q O L) (hq:∀e O L,Q e O L->Q' e O L):bX C N ops rest Q' O L:=λF w0 L0 a w hs hx=>
 HA (λ_ _ _ ⟨e0,O',L',h1,h2⟩=>⟨e0,O',L',hq _ _ _ h1,h2⟩) (h F w0 L0 a w hs hx)
theorem DO.up {E:Env} {N K:Nat} {all rest:List Oper} {Q:DQ} {OB:Sg} {LB:List aw} {Z Z':aN} (hl:Z.le Z') (h:bX E.toCx N all.toArray rest (lift K Z' Q) OB LB):bX E.toCx N all.toArray rest (lift K Z Q) OB LB:=
 h.mono λ_ _ _ h=>qP (hl.toK K) (λ_ _ _ h=>h) h
def Hp.push (L:Hp) (x:bz):Hp:=⟨Tr.put 24 L.e L.n (some x),L.n+1⟩
def Hp.set (L:Hp) (i:Nat) (x:bz):Hp:=⟨Tr.put 24 L.e i (some x),L.n⟩
def aN.gy (Z:aN) (t b:Nat):aN:=⟨λu=>if u=t then some b else Z.b u,Z.s⟩
def aN.bj (Z:aN) (t n:Nat) (x:Option Addr×Nat):aN:=⟨Z.b,λu m=>if u=t/\m=n then some x else Z.s u m⟩
theorem aN.EL {Z:aN} {t b:Nat} (h:Z.b t=none):Z.le (Z.gy t b):=⟨λu x hx=>by
 have:u≠t:=λe=>by subst e;rw[h]at hx;cases hx
 simp[aN.gy,this,hx],λ_ _ _ h=>h⟩
theorem aN.lO {Z:aN} {t n:Nat} {x:Option Addr×Nat} (h:∀y,Z.s t n=some y->y=x):Z.le (Z.bj t n x):=⟨λ_ _ h=>h,λu m y hy=>by
 by_cases hu:u=t/\m=n
 ·obtain⟨rfl,rfl⟩:=hu;simp[aN.bj,h y hy]
 ·simp[aN.bj,hu,hy]⟩
theorem aaC {D:Type} {l r:List D} {i:Nat} {x:D} (h:nth l i=some x):nth (l++r) i=some x:=by
 rw[cG]at h⊢;rw[mh (cr.1 h).1];exact h
theorem HS.lt {Z:aN} {L:Hp} {LB:List aw} (hh:HS Z L LB) {i:Nat} {x:bz} (h:L.e.get i=some x):i<L.n:=by
 obtain⟨y,h1,_⟩:=hh.en i x h;rw[cG]at h1;rw[<-hh.len];exact(cr.1 h1).1
theorem HS.push {Z Z':aN} {L:Hp} {LB:List aw} (hh:HS Z L LB) (hl:Z.le Z') (hs:∀i,i≠L.n->Z'.s i=Z.s i) (hb:∀i,i≠L.n->Z'.b i=Z.b i) {x:bz} {y:aw} (hx:mE Z' L.n x y):HS Z' (L.push x) (LB++[y]):=by
 refine⟨λi z hz=>?_,by simp[Hp.push,hh.len],λt ht=>?_⟩
 ·rcases Tr.fi 24 L.e L.n i _ z hz with⟨rfl,h1⟩|⟨hne,h1⟩
  ·cases h1;exact⟨y,by rw[cG,<-hh.len];simp,hx⟩
  ·obtain⟨q,h2,h3⟩:=hh.en i z h1;exact⟨q,aaC h2,h3.mono hl (hs i hne)⟩
 ·have:t≠L.n:=by simp[Hp.push]at ht;omega
  rw[hb t this,hs t this];exact hh.iJ t (by simp[Hp.push]at ht;omega)
theorem HS.set {Z Z':aN} {L:Hp} {LB:List aw} (hh:HS Z L LB) (hl:Z.le Z') {i:Nat} (hs:∀j,j≠i->Z'.s j=Z.s j) (hb:∀j,j≠i->Z'.b j=Z.b j) (hi:i<L.n) {x:bz} {y:aw} (hx:mE Z' i x y):HS Z' (L.set i x) (LB.set i y):=by
 refine⟨λj z hz=>?_,by simp[Hp.set,hh.len],λt ht=>?_⟩
 ·rcases Tr.fi 24 L.e i j _ z hz with⟨rfl,h1⟩|⟨hne,h1⟩
  ·cases h1;exact⟨y,by rw[cG];simp[hh.len,hi],hx⟩
  ·obtain⟨q,h2,h3⟩:=hh.en j z h1;exact⟨q,by rw[cG]at h2⊢;rw[Dv (iW hne)];exact h2,h3.mono hl (hs j hne)⟩
 ·have:t≠i:=by simp[Hp.set]at ht;omega
  rw[hb t this,hs t this];exact hh.iJ t ht
section
variable {E:Env} {N K:Nat} {Q:DQ} {O:TS} {L:Hp} {o:Oper} {x:CV} {all rest:List Oper}
theorem DO.xd {cells:List CV} {d:Nat} (hg:o.guard=none) (hd:o.dst=some d) (hdN:Nat.blt d N=true) (h:∀Z s LB,SS Z O s->HS Z L LB->∃cs,aR Z cells cs/\gl E.toCx N o s LB cs)
  (k:DO E N K all rest Q (cj O (some d) (.own L.n 0)) (L.push (.box cells))):DO E N K all (o::rest) Q O L:=λZ OB LB hs hh=>by
 obtain⟨cs,h1,h2⟩:=h Z _ LB hs hh;refine bX.xd hg hd hdN h2 λb=>?_;have hdom:=hh.iJ L.n (bW _);have hl:Z.le (Z.gy L.n b):=aN.EL hdom.1;have hbn:(Z.gy L.n b).b L.n=some b:=by simp[aN.gy]
 refine DO.up hl (k _ _ _ ((hs.mono hl).put (some d) (by simp only[aK];exact⟨b,LB.length,hbn,rfl⟩)) ?_);exact hh.push hl (λ_ _=>rfl) (λi hi=>by simp[aN.gy,hi]) ⟨b,cs,hbn,rfl,h1.mono hl⟩
theorem EM {t:TypeId} {p:Operand} (ho:o.op= .box t p) (hp:aX O p=some x):∀Z s LB,SS Z O s->HS Z L LB->∃cs,aR Z (eh x) cs/\gl E.toCx N o s LB cs:=λZ s LB hs _=>by
 obtain⟨y,h1,h2⟩:=cg hs hp;exact⟨_,DJ h2,gl.box ho h1⟩
theorem DY {t:TypeId} {td:TD} {sz by':Nat} {z:List Value} (ho:o.op= .alloc t) (ht:bc E.T t=some ⟨td,sz,by',z⟩):∀Z s LB,SS Z O s->HS Z L LB->∃cs,aR Z ((z.map .v).map .d) cs/\gl E.toCx N o s LB cs:=λ_ _ _ _ _=>
 ⟨_,jb _,gl.alloc ho ht⟩
def mG:List CV->Bool
 |[]=>true
 | .d y::r=>match eT [y]with
  |true=>mG r
  |false=>false
 | .agg _::_=>false
 | .bQ _::_=>false
 |_::r=>mG r
theorem abG {y:AV} {r:List AV} (h:eT [y]=true) (hr:eT r=true):eT (y::r)=true:=by
 cases y<;>simp_all [eT]
theorem HV {Z:aN}:∀{xs:List CV} {ys:List AV},mG xs=true->aR Z xs ys->eT ys=true
 |[],ys,_,h=>by simp only[aR]at h;subst h;rfl
 |x::r,ys,ho,h=>by
  simp only[aR]at h;obtain⟨y,r',rfl,h1,h2⟩:=h;have key:mG r=true->eT [y]=true->eT (y::r')=true:=λh3 h4=>abG h4 (HV h3 h2);cases x with
  |d z=>
   simp only[aK]at h1;subst h1;simp only[mG]at ho;split at ho
   ·rename_i h3;exact key ho h3
   ·cases ho
  |agg xs=>cases ho
  |bQ xs=>cases ho
  |own t n=>simp only[aK]at h1;obtain⟨b,t',_,rfl⟩:=h1;exact key ho rfl
  |os t n=>simp only[aK]at h1;obtain⟨a,c,t',_,rfl⟩:=h1;exact key ho rfl
  |oe t n m=>simp only[aK]at h1;obtain⟨a,c,t',_,rfl⟩:=h1;exact key ho rfl
  |om t=>simp only[aK]at h1;obtain⟨b,t',_,rfl⟩:=h1;exact key ho rfl
  |fn f fs cs=>simp only[aK]at h1;obtain⟨us,vs,rfl,_⟩:=h1;exact key ho rfl
  |bJ t z=>simp only[aK]at h1;obtain⟨u,rfl,_⟩:=h1;exact key ho rfl
theorem DO.store {t:TypeId} {p v:Operand} {i off:Nat} {cs cs':List CV} {ti:TI} (hg:o.guard=none) (ho:o.op= .store t p v) (hd:o.dst=none) (hp:aX O p=some (.own i off)) (hv:aX O v=some x) (hi:L.e.get i=some (.box cs)) (ht:bc E.T t=some ti)
  (hk:Nat.beq (eh x).length ti.size=true) (h1:mG (eh x)=true) (hl:mm cs off (eh x)=some cs') (k:DO E N K all rest Q O (L.set i (.box cs'))):DO E N K all (o::rest) Q O L:=λZ OB LB hs hh=>by
 obtain⟨y,h2,h3⟩:=cg hs hp;simp only[aK]at h3;obtain⟨b,t',h3,rfl⟩:=h3;obtain⟨z,h4,h5⟩:=cg hs hv;obtain⟨q,h6,h7⟩:=hh.en i _ hi;obtain⟨b',us,h8,rfl,h9⟩:=h7;rw[h3]at h8;cases h8;have hc:=DJ h5;obtain⟨us',h10,h11⟩:=DF hl h9 hc;refine bX.Oz hg hd (Ru ho h2 h4 h6 ht (by rw[hc.length];exact hk) (HV h1 hc) h10) (k Z _ _ hs ?_);exact hh.set (.refl Z) (λ_ _=>rfl) (λ_ _=>rfl) (hh.lt hi) ⟨b,us',h3,rfl,h11⟩
theorem DO.lL {t:TypeId} {p v:Operand} {i n m e kk:Nat} {rows:List (List AV)} {r r':List AV} {y:AV} {ti:TI} (j off:Nat) (hg:o.guard=none) (ho:o.op= .store t p v) (hd:o.dst=none) (hp:aX O p=some (.oe i n m)) (hv:aX O v=some (.d y)) (hi:L.e.get i=some (.row e kk rows)) (hn:n=rows.length)
  (hm:m=j*kk+off) (hr:rows[j]? =some r) (ht:bc E.T t=some ti) (hk:Nat.beq (cA y).length ti.size=true) (h1:eT (cA y)=true) (hl:fC r off (cA y)=some r') (k:DO E N K all rest Q O (L.set i (.row e kk (rows.set j r')))):DO E N K all (o::rest) Q O L:=λZ OB LB hs hh=>by
 obtain⟨z,h2,h3⟩:=cg hs hp;simp only[aK]at h3;obtain⟨a,c,t',h3,rfl⟩:=h3;obtain⟨z,h4,h5⟩:=cg hs hv;simp only[aK]at h5;subst h5;obtain⟨q,h6,h7⟩:=hh.en i _ hi;obtain⟨⟨a',c',h8,rfl⟩,h9⟩:=h7;subst hn;rw[h3]at h8;cases h8;refine bX.Oz hg hd (Qb ho j off h2 hm h4 h6 hr ht hk h1 hl) (k Z _ _ hs ?_);exact hh.set (.refl Z) (λ_ _=>rfl) (λ_ _=>rfl) (hh.lt hi) ⟨⟨a,c,by simpa using h3,by simp⟩,by simpa using h9⟩
theorem DO.lit {d n:Nat} {t:TypeId} {parts:Array (Nat×Operand)} {ty:TypeId} {pos:String} {after:Array Edge} {e k sz by' sz' by'':Nat} {z z':List Value} {td':TD} {cells:List AV}
  (ht:bc E.T t=some ⟨.slice e k,sz,by',z⟩) (hte:bc E.T e=some ⟨td',sz',by'',z'⟩) (hf:fp k (dK O) (iH n (z'.map .v)) parts.toList=some cells) (hb:Nat.ble (n*k) 16777216=true) (hk:Nat.ble 1 k=true) (hd:Nat.blt d N=true)
  (kk:DO E N K all rest Q (cj O (some d) (.os L.n n)) (L.push (.row e k (chunk n k cells)))):DO E N K all (⟨some d,.buildSlice t n parts,ty,pos,after,none⟩::rest) Q O L:=λZ OB LB hs hh=>by
 have hf':fp k (look OB) (iH n (z'.map .v)) parts.toList=some cells:=by
  have key:∀(l:List (Nat×Operand)) (cs r:List AV),fp k (dK O) cs l=some r->fp k (look OB) cs l=some r:=by
   intro l
   induction l with
   |nil=>intro cs r h;exact h
   |cons p l ih=>
    intro cs r h;obtain⟨i,p⟩:=p;simp only[fp]at h⊢;split at h
    ·rename_i y hy;have hy':ev (look OB) p=some y:=by
      cases p with
      |tmp u=>exact lb hs hy
      |const v=>exact hy
      |global g=>exact hy
      |func f=>exact hy
     simp only[hy'];split at h
     ·rename_i c1 h1 h2;exact ih _ _ h
     ·cases h
    ·cases h
  exact key _ _ _ hf
 refine bX.lit ht hte hf' hb hk hd λb=>?_;have hdom:=hh.iJ L.n (bW _);have hl:Z.le (Z.bj L.n n (some ⟨b,0,none⟩,n)):=aN.lO λy hy=>by rw[hdom.2]at hy;cases hy
 have hbn:(Z.bj L.n n (some ⟨b,0,none⟩,n)).s L.n n=some (some ⟨b,0,none⟩,n):=by simp[aN.bj]
 refine DO.up hl (kk _ _ _ ((hs.mono hl).put (some d) (by simp only[aK];exact⟨_,_,LB.length,hbn,rfl⟩)) ?_);refine hh.push hl (λi hi=>by funext m;simp[aN.bj,hi]) (λ_ _=>rfl) ⟨⟨some ⟨b,0,none⟩,n,by rw[iA];exact hbn,by rw[iA]⟩,λm hm=>?_⟩;rw[iA]at hm;have:m≠n:=by omega
 simp only[aN.bj,this,and_false,if_false];exact hdom.2 m
theorem DO.jF (t e k:Nat) (ht:O.get t=some (.d (.v (.slice none 0 0)))) (kk:DO E N K all rest Q (Tr.put 24 O t (some (.os L.n 0))) (L.push (.row e k []))):DO E N K all rest Q O L:=λZ OB LB hs hh=>by
 obtain⟨y,h1,h2⟩:=hs t _ ht;simp only[aK]at h2;subst h2;refine bX.jF t e k h1 ?_;have hdom:=hh.iJ L.n (bW _);have hl:Z.le (Z.bj L.n 0 (none,0)):=aN.lO λy hy=>by rw[hdom.2]at hy;cases hy
 have hbn:(Z.bj L.n 0 (none,0)).s L.n 0=some (none,0):=by simp[aN.bj]
 refine DO.up hl (kk _ _ _ ((hs.mono hl).put (some t) (by simp only[aK];exact⟨_,_,LB.length,hbn,rfl⟩)) ?_);refine hh.push hl (λi hi=>by funext m;simp[aN.bj,hi]) (λ_ _=>rfl) ⟨⟨none,0,by simpa using hbn,by simp⟩,λm hm=>?_⟩;have:m≠0:=by simp at hm;omega
 simp only[aN.bj,this,and_false,if_false];exact hdom.2 m
inductive kE (E:Env) (O:TS) (L:Hp) (k:Nat):Operand->List (List AV)->Prop where
 |sl {p:Operand} {rows:List (List AV)}:aX O p=some (.d (.sl k rows))->kE E O L k p rows
 |GC {p:Operand} {x:AV} {rows:List (List AV)}:aX O p=some (.d x)->(∀w A v,Rel w A x v->Rel w A (.sl k rows) v)->kE E O L k p rows
 |nil {p:Operand}:aX O p=some (.d (.v (.slice none 0 0)))->kE E O L k p []
 |row {p:Operand} {j n e:Nat} {rows:List (List AV)}:aX O p=some (.os j n)->L.e.get j=some (.row e k rows)->n=rows.length->kE E O L k p rows
 |fz {p:Operand} {j n:Nat} {rows:List (List AV)}:aX O p=some (.os j n)->L.e.get j=some (.ju k rows)->n=rows.length->kE E O L k p rows
theorem kE.ok {Z:aN} {OB:Sg} {LB:List aw} (hs:SS Z O (look OB)) (hh:HS Z L LB) {k:Nat} {p:Operand} {rows:List (List AV)} (h:kE E O L k p rows):∀F a w,St E.G N w F a OB LB->jG w (Al F LB) k (a.eval p) rows:=λF a w hst=>by
 cases h with
 |sl h=>
  obtain⟨y,h1,h2⟩:=cg hs h;simp only[aK]at h2;subst h2;exact jG.sl (bC hst.sg h1)
 |GC h hI=>
  obtain⟨y,h1,h2⟩:=cg hs h;simp only[aK]at h2;subst h2;exact jG.sl (hI _ _ _ (bC hst.sg h1))
 |nil h=>
  obtain⟨y,h1,h2⟩:=cg hs h;simp only[aK]at h2;subst h2;have:=bC hst.sg h1;simp only[Rel]at this;rw[this];exact⟨none,0,0,[],rfl,rfl,by simp[bl],λ_=>rfl,λ_ h=>by cases h⟩
 |row h h3 hn=>
  obtain⟨y,h1,h2⟩:=cg hs h;simp only[aK]at h2;obtain⟨a',c,t',h4,rfl⟩:=h2;obtain⟨q,h5,h6⟩:=hh.en _ _ h3;obtain⟨⟨a2,c2,h7,rfl⟩,_⟩:=h6;subst hn;rw[h4]at h7;cases h7;have:=bC hst.sg h1;simp only[Rel]at this;rw[this];exact jG.row (ja hst.hp h5)
 |fz h h3 hn=>
  obtain⟨y,h1,h2⟩:=cg hs h;simp only[aK]at h2;obtain⟨a',c,t',h4,rfl⟩:=h2;obtain⟨q,h5,h6⟩:=hh.en _ _ h3;obtain⟨a2,c2,h7,rfl⟩:=h6;subst hn;rw[h4]at h7;cases h7;have:=bC hst.sg h1;simp only[Rel]at this;rw[this];exact jG.sl (qX hst.hp h5)
theorem DO.append {i d n:Nat} {s p:Operand} {t:TypeId} {ty:TypeId} {pos:String} {after:Array Edge} {e k sz by' sz' by'':Nat} {z z':List Value} {td':TD} {rows rows2:List (List AV)}
  (hb:(rows++rows2).length*by''<=140737488355328) (hs':aX O s=some (.os i n)) (hi:L.e.get i=some (.row e k rows)) (hn:n=rows.length) (hx:kE E O L k p rows2) (ht:bc E.T t=some ⟨.slice e k,sz,by',z⟩) (hte:bc E.T e=some ⟨td',sz',by'',z'⟩) (h1:fJ rows2=true)
  (hk:Nat.ble 1 k=true) (hby:Nat.ble 1 by''=true) (hd:Nat.blt d N=true)
  (kk:DO E N K all rest Q (cj O (some d) (.os i (rows++rows2).length)) (L.set i (.row e k (rows++rows2)))):
  DO E N K all (⟨some d,.call {callee:= .builtin .append,args:= #[s,p],argTypes:= #[t,t]},ty,pos,after,none⟩::rest) Q O L:=λZ OB LB hs hh=>by
 obtain⟨y,h2,h3⟩:=cg hs hs';simp only[aK]at h3;obtain⟨a,c,t',h3,rfl⟩:=h3;obtain⟨q,h6,h7⟩:=hh.en i _ hi;obtain⟨⟨a',c',h8,rfl⟩,h9⟩:=h7;subst hn;rw[h3]at h8;cases h8;refine bX.qv rfl hd (Q0 rfl ht hte h2 h6 (hx.ok hs hh) h1 hk hby hb) ?_;rintro r L' ⟨a',c',h0,rfl,rfl⟩;have hl:Z.le (Z.bj i (rows++rows2).length (a',c')):=aN.lO λy hy=>by
  by_cases hz:rows2=[]
  ·subst hz;simp only[jx]at hy;rw[h3]at hy;cases hy;obtain⟨rfl,rfl⟩:=h0 rfl;rfl
  ·have:rows.length<(rows++rows2).length:=by
    have:=PR.2 hz;simp;omega
   rw[h9 _ this]at hy;cases hy
 have hbn:(Z.bj i (rows++rows2).length (a',c')).s i (rows++rows2).length=some (a',c'):=by simp[aN.bj]
 refine DO.up hl (kk _ _ _ ((hs.mono hl).put (some d) (by simp only[aK];exact⟨_,_,i,hbn,rfl⟩)) ?_);refine hh.set hl (λj hj=>by funext m;simp[aN.bj,hj]) (λ_ _=>rfl) (hh.lt hi) ⟨⟨a',c',hbn,rfl⟩,λm hm=>?_⟩
 have hne:m≠(rows++rows2).length:=by omega
 simp only[aN.bj,hne,and_false,if_false];exact h9 m (by simp at hm;omega)
theorem DO.Jg {i d n:Nat} {s p:Operand} {t u:TypeId} {ty:TypeId} {pos:String} {after:Array Edge} {e k sz by' sz' by'' szu byu:Nat} {z z' zu:List Value} {td':TD} {rows:List (List AV)} {b:ByteArray}
  (hb:(rows++dR b).length*by''<=140737488355328) (hs':aX O s=some (.os i n)) (hi:L.e.get i=some (.row e k rows)) (hn:n=rows.length) (hx:aX O p=some (.d (.v (.string b)))) (ht:bc E.T t=some ⟨.slice e k,sz,by',z⟩) (hu:bc E.T u=some ⟨.str,szu,byu,zu⟩) (hte:bc E.T e=some ⟨td',sz',by'',z'⟩)
  (hk:Nat.beq k 1=true) (hby:Nat.beq by'' 1=true) (hd:Nat.blt d N=true)
  (kk:DO E N K all rest Q (cj O (some d) (.os i (rows++dR b).length)) (L.set i (.row e k (rows++dR b)))):
  DO E N K all (⟨some d,.call {callee:= .builtin .append,args:= #[s,p],argTypes:= #[t,u]},ty,pos,after,none⟩::rest) Q O L:=λZ OB LB hs hh=>by
 obtain⟨y,h2,h3⟩:=cg hs hs';simp only[aK]at h3;obtain⟨a,c,t',h3,rfl⟩:=h3;obtain⟨y2,g2,g3⟩:=cg hs hx;simp only[aK]at g3;subst g3;obtain⟨q,h6,h7⟩:=hh.en i _ hi;obtain⟨⟨a',c',h8,rfl⟩,h9⟩:=h7;subst hn;rw[h3]at h8;cases h8;refine bX.qv rfl hd (Qr rfl ht hu hte h2 h6 g2 hk hby hb) ?_;rintro r L' ⟨a',c',h0,rfl,rfl⟩;have hl:Z.le (Z.bj i (rows++dR b).length (a',c')):=aN.lO λy hy=>by
  by_cases hz:dR b=[]
  ·rw[hz]at hy;simp only[jx]at hy;rw[h3]at hy;cases hy;obtain⟨rfl,rfl⟩:=h0 hz;rfl
  ·have:rows.length<(rows++dR b).length:=by
    have:=PR.2 hz;simp;omega
   rw[h9 _ this]at hy;cases hy
 have hbn:(Z.bj i (rows++dR b).length (a',c')).s i (rows++dR b).length=some (a',c'):=by simp[aN.bj]
 refine DO.up hl (kk _ _ _ ((hs.mono hl).put (some d) (by simp only[aK];exact⟨_,_,i,hbn,rfl⟩)) ?_);refine hh.set hl (λj hj=>by funext m;simp[aN.bj,hj]) (λ_ _=>rfl) (hh.lt hi) ⟨⟨a',c',hbn,rfl⟩,λm hm=>?_⟩
 have hne:m≠(rows++dR b).length:=by omega
 simp only[aN.bj,hne,and_false,if_false];exact h9 m (by simp at hm;omega)
theorem DO.make {d:Nat} {t:TypeId} {p q:Operand} {ty:TypeId} {pos:String} {after:Array Edge} {e k sz by' sz' by'':Nat} {z z':List Value} {td':TD} {kl kc:IntKind} {li ci:Int} (l c:Nat)
  (hb:c*by''<=140737488355328) (hl:l<=c) (hx:aX O p=some (.d (.v (.int kl li)))) (hli:li=(l:Int)) (hy:aX O q=some (.d (.v (.int kc ci)))) (hci:ci=(c:Int)) (ht:bc E.T t=some ⟨.slice e k,sz,by',z⟩) (hte:bc E.T e=some ⟨td',sz',by'',z'⟩)
  (hk:Nat.ble 1 k=true) (hby:Nat.ble 1 by''=true) (hd:Nat.blt d N=true)
  (kk:DO E N K all rest Q (cj O (some d) (.os L.n l)) (L.push (.row e k (List.replicate l (z'.map .v))))):DO E N K all (⟨some d,.makeSlice t p q,ty,pos,after,none⟩::rest) Q O L:=λZ OB LB hs hh=>by
 obtain⟨y1,h2,h3⟩:=cg hs hx;simp only[aK]at h3;subst h3;obtain⟨y1,h4,h5⟩:=cg hs hy;simp only[aK]at h5;subst h5;refine bX.make l c hb hl h2 hli h4 hci ht hte hk hby hd λb=>?_;have hdom:=hh.iJ L.n (bW _);have hle:Z.le (Z.bj L.n l (some ⟨b,0,none⟩,c)):=aN.lO λy hy=>by rw[hdom.2]at hy;cases hy
 have hbn:(Z.bj L.n l (some ⟨b,0,none⟩,c)).s L.n l=some (some ⟨b,0,none⟩,c):=by simp[aN.bj]
 refine DO.up hle (kk _ _ _ ((hs.mono hle).put (some d) (by simp only[aK];exact⟨_,_,LB.length,hbn,rfl⟩)) ?_);refine hh.push hle (λi hi=>by funext m;simp[aN.bj,hi]) (λ_ _=>rfl) ⟨⟨some ⟨b,0,none⟩,c,by simpa using hbn,by simp⟩,λm hm=>?_⟩;have:m≠l:=by simp at hm;omega
 simp only[aN.bj,this,and_false,if_false];exact hdom.2 m
end
def eqs:List (Nat×Nat)->Prop
 |[]=>True
 |p::r=>p.1=p.2/\eqs r
theorem mY:∀{l r:List (Nat×Nat)},eqs (l++r)->eqs l/\eqs r
 |[],_,h=>⟨trivial,h⟩
 |_::_,_,h=>⟨⟨h.1,(mY h.2).1⟩,(mY h.2).2⟩
def cz (e:Tr bz):Nat->List CV->Option (List AV×List (Nat×Nat)×List (Nat×bz))
 |0,_=>none
 |_+1,[]=>some ([],[],[])
 |f+1,x::r=>match cz e f r with
  |none=>none
  |some (zs,ns,ms)=>match x with
   | .d y=>some (y::zs,ns,ms)
   | .agg ys=>match cz e f ys with
    |some (us,ns',ms')=>some (.agg us::zs,ns'++ns,ms'++ms)
    |none=>none
   | .bQ ys=>match cz e f ys with
    |some (us,ns',ms')=>some (.bQ us::zs,ns'++ns,ms'++ms)
    |none=>none
   | .own t o=>match e.get t with
    |some (.box cs)=>match cz e f cs with
     |some (us,ns',ms')=>some (.ip (us.drop o)::zs,ns'++ns,(t,.l8 us)::(ms'++ms))
     |none=>none
    |some (.l8 us)=>some (.ip (us.drop o)::zs,ns,ms)
    |_=>none
   | .os t n=>match e.get t with
    |some (.row _ k rows)=>some (.sl k rows::zs,(n,rows.length)::ns,(t,.ju k rows)::ms)
    |some (.ju k rows)=>some (.sl k rows::zs,(n,rows.length)::ns,ms)
    |_=>none
   | .fn g fs cs=>match cz e f fs,cz e f cs with
    |some (us,ns1,ms1),some (vs,ns2,ms2)=>some (.fn g us vs::zs,ns1++(ns2++ns),ms1++(ms2++ms))
    |_,_=>none
   | .bJ t y=>match cz e f [y]with
    |some ([u],ns',ms')=>some (.bJ t u::zs,ns'++ns,ms'++ms)
    |_=>none
   | .oe _ _ _=>none
   | .om _=>none
def gh (F:Nat->Prop) (LB:List aw) (M:List Nat) (b:Nat):Prop:=¬F b/\∀i y,nth LB i=some y->i∉M->b∉y.ids
theorem VL {F:Nat->Prop} {LB:List aw} (M:List Nat) {b:Nat} (h:Al F LB b):gh F LB M b:=
 ⟨h.1,λi y hy _ hb=>h.2 (gF.2 ⟨y,aY (by rw[<-cG];exact hy),hb⟩)⟩
theorem Eo {w:World} {F:Nat->Prop} {LB:List aw} (M:List Nat):dC w (Al F LB) w (gh F LB M):=⟨bW _,λ_ _ h=>⟨VL M h,rfl⟩⟩
theorem Qc:∀{l:List aw} {i j:Nat} {x y:aw} {b:Nat},(ids l).Nodup->nth l i=some x->nth l j=some y->i≠j->b∈x.ids->b∉y.ids
 |[],_,_,_,_,_,_,h,_,_,_=>by simp[nth]at h
 |z::l,0,0,_,_,_,_,_,_,hne,_=>absurd rfl hne
 |z::l,0,j+1,x,y,b,hnd,hi,hj,_,hb=>λhy=>by
  rw[cC,kQ]at hnd;simp only[nth,aD]at hi hj;subst hi;exact hnd.2.2 b hb b (gF.2 ⟨y,aY (by rw[<-cG];exact hj),hy⟩) rfl
 |z::l,i+1,0,x,y,b,hnd,hi,hj,_,hb=>λhy=>by
  rw[cC,kQ]at hnd;simp only[nth,aD]at hi hj;subst hj;exact hnd.2.2 b hy b (gF.2 ⟨x,aY (by rw[<-cG];exact hi),hb⟩) rfl
 |z::l,i+1,j+1,x,y,b,hnd,hi,hj,hne,hb=>by
  rw[cC,kQ]at hnd;simp only[nth]at hi hj;exact Qc hnd.2.1 hi hj (λe=>hne (by rw[e])) hb
theorem VZ {G:Gl} {w:World} {F:Nat->Prop} {LB:List aw} {M:List Nat} (hH:bG G w F LB) {i:Nat} {x:aw} {b:Nat} (hi:nth LB i=some x) (hM:i∈M) (hb:b∈x.ids):gh F LB M b:=by
 refine⟨hH.free b (gF.2 ⟨x,aY (by rw[<-cG];exact hi),hb⟩),λj y hj hjM=>?_⟩;exact Qc hH.nodup hi hj (λe=>hjM (e▸hM)) hb
def sf (Z:aN) (w:World) (A:Nat->Prop):Nat×bz->Prop
 |(t,.l8 us)=>∃b,Z.b t=some b/\Rel w A (.ip us) (.pointer (some ⟨b,0,none⟩))
 |(t,.ju k rows)=>∃a c,Z.s t rows.length=some (a,c)/\Rel w A (.sl k rows) (.slice a rows.length c)
 |_=>False
section
variable {Z:aN} {L:Hp} {LB:List aw} {w:World} {F:Nat->Prop} {G:Gl}
theorem ae5 {M:List Nat} (hH:bG G w F LB) {i:Nat} {v:Value} {e k:Nat} {rows:List (List AV)} (hi:nth LB i=some (.row v e k rows)) (hM:i∈M):Rel w (gh F LB M) (.sl k rows) v:=by
 obtain⟨vs,h1,h2,h3⟩:=ja hH hi;simp only[Rel];rcases h3 with⟨rfl,h0⟩|⟨g,cap,cur,rfl,_,hg,hn,hcm,hcs,htake⟩
 ·exact .inl ⟨iM h0,_,_,rfl⟩
 ·refine .inr ⟨g,0,cap,vs,rfl,⟨(gE.1 hg).1,VZ hH hi hM (by simp[aw.ids,Value.ownBlock])⟩,hn,hcm,h1.keep (Eo M),λj u hj=>?_⟩;rw[<-htake,fI]at hj;split at hj
  ·rw[mi];simp[World.cell?,hg];simpa using hj
  ·cases hj
theorem jE (hh:HS Z L LB) (hH:bG G w F LB) (M:List Nat):∀(f:Nat) {xs:List CV} {zs:List AV} {ns:List (Nat×Nat)} {ms:List (Nat×bz)} {ys:List AV} {vs:List Value},cz L.e f xs=some (zs,ns,ms)->eqs ns->(∀p∈ms,p.1∈M)->
  aR Z xs ys->aL w (Al F LB) ys vs->aL w (gh F LB M) zs vs/\∀p∈ms,sf Z w (gh F LB M) p
 |0,_,_,_,_,_,_,h,_,_,_,_=>by simp[cz]at h
 |f+1,[],zs,ns,ms,ys,vs,h,_,_,hi,hr=>by
  simp only[cz,aD,cM]at h;obtain⟨rfl,rfl,rfl⟩:=h;simp only[aR]at hi;subst hi;simp only[aL]at hr;subst hr;exact⟨by simp[aL],by simp⟩
 |f+1,x::r,zs,ns,ms,ys,vs,h,hn,hM,hi,hr=>by
  simp only[aR]at hi;obtain⟨y,ys,rfl,hy,hi⟩:=hi;simp only[aL]at hr;obtain⟨v,vs,rfl,hv,hr⟩:=hr;simp only[cz]at h;split at h
  ·cases h
  ·rename_i aA ns0 ms0 h0;have tail:∀{z:AV} {ms':List (Nat×bz)},eqs ns0->(∀p∈ms0,p.1∈M)->Rel w (gh F LB M) z v->(∀p∈ms',sf Z w (gh F LB M) p)->aL w (gh F LB M) (z::aA) (v::vs)/\∀p∈ms'++ms0,sf Z w (gh F LB M) p:=by
    intro z ms' hn' hM' hz hm;obtain⟨h1,h2⟩:=jE hh hH M f h0 hn' hM' hi hr;refine⟨by simp only[aL];exact⟨_,_,rfl,hz,h1⟩,λp hp=>?_⟩;rcases bU.1 hp with hp|hp
    ·exact hm p hp
    ·exact h2 p hp
   cases x with
   |d z=>
    simp only[aD,cM]at h;obtain⟨rfl,rfl,rfl⟩:=h;simp only[aK]at hy;subst hy;simpa using tail (ms':=[]) hn hM (hv.keep (Eo M)) (by simp)
   |agg ks=>
    simp only at h;split at h
    ·rename_i us ns' ms' h1;simp only[aD,cM]at h;obtain⟨rfl,rfl,rfl⟩:=h;simp only[aK]at hy;obtain⟨ws,rfl,hy⟩:=hy;simp only[Rel]at hv;obtain⟨qs,rfl,hv⟩:=hv;obtain⟨g1,g2⟩:=mY hn;obtain⟨h2,h3⟩:=jE hh hH M f h1 g1 (λp hp=>hM p (by simp[hp])) hy hv;exact tail g2 (λp hp=>hM p (by simp[hp])) (by simp only[Rel];exact⟨qs,rfl,h2⟩) h3
    ·cases h
   |bQ ks=>
    simp only at h;split at h
    ·rename_i us ns' ms' h1;simp only[aD,cM]at h;obtain⟨rfl,rfl,rfl⟩:=h;simp only[aK]at hy;obtain⟨ws,rfl,hy⟩:=hy;simp only[Rel]at hv;obtain⟨qs,rfl,hv⟩:=hv;obtain⟨g1,g2⟩:=mY hn;obtain⟨h2,h3⟩:=jE hh hH M f h1 g1 (λp hp=>hM p (by simp[hp])) hy hv;exact tail g2 (λp hp=>hM p (by simp[hp])) (by simp only[Rel];exact⟨qs,rfl,h2⟩) h3
    ·cases h
   |own t off=>
    simp only[aK]at hy;obtain⟨b,t',hb,rfl⟩:=hy;simp only[Rel]at hv;subst hv;simp only at h;split at h
    ·rename_i cs hcs;split at h
     ·rename_i us ns' ms' h1;simp only[aD,cM]at h;obtain⟨rfl,rfl,rfl⟩:=h;obtain⟨q,hq1,hq2⟩:=hh.en t _ hcs;obtain⟨b',ws,hb',rfl,hws⟩:=hq2;rw[hb]at hb';cases hb';obtain⟨e,qs,hheap,hqs⟩:=ja hH hq1;obtain⟨g1,g2⟩:=mY hn;have htM:t∈M:=hM (t,.l8 us) (by simp);obtain⟨h2,h3⟩:=jE hh hH M f h1 g1 (λp hp=>hM p (by simp[hp])) hws hqs;have hip:Rel w (gh F LB M) (.ip us) (.pointer (some ⟨b,0,none⟩)):=by
       simp only[Rel];exact⟨b,0,qs,rfl,⟨(gE.1 hheap).1,VZ hH hq1 htM (by simp[aw.ids])⟩,h2,λj u hj=>by rw[mi];exact sS hheap j u hj⟩
      have:=tail (ms':=(t,.l8 us)::ms') g2 (λp hp=>hM p (by simp[hp])) (hip.JH off) (λp hp=>by
       rcases ck.1 hp with rfl|hp
       ·exact⟨b,hb,hip⟩
       ·exact h3 p hp)
      simpa using this
     ·cases h
    ·rename_i us hcs;simp only[aD,cM]at h;obtain⟨rfl,rfl,rfl⟩:=h;obtain⟨q,hq1,hq2⟩:=hh.en t _ hcs;obtain⟨b',hb',rfl⟩:=hq2;rw[hb]at hb';cases hb';have:=tail (ms':=[]) hn hM (((qX hH hq1).keep (Eo M)).JH off) (by simp);simpa using this
    ·cases h
   |os t n=>
    simp only[aK]at hy;obtain⟨a,c,t',hb,rfl⟩:=hy;simp only[Rel]at hv;subst hv;simp only at h;split at h
    ·rename_i e k rows hcs;simp only[aD,cM]at h;obtain⟨rfl,rfl,rfl⟩:=h;obtain⟨q,hq1,hq2⟩:=hh.en t _ hcs;obtain⟨⟨a',c',hb',rfl⟩,_⟩:=hq2;have hnl:n=rows.length:=hn.1;subst hnl;rw[hb]at hb';cases hb';have hsl:=ae5 (M:=M) hH hq1 (hM (t,.ju k rows) (by simp));have:=tail (ms':=[(t,.ju k rows)]) hn.2 (λp hp=>hM p (by simp[hp])) hsl (λp hp=>by
      simp only[iL]at hp;subst hp;exact⟨a,c,hb,hsl⟩)
     simpa using this
    ·rename_i k rows hcs;simp only[aD,cM]at h;obtain⟨rfl,rfl,rfl⟩:=h;obtain⟨q,hq1,hq2⟩:=hh.en t _ hcs;obtain⟨a',c',hb',rfl⟩:=hq2;have hnl:n=rows.length:=hn.1;subst hnl;rw[hb]at hb';cases hb';have:=tail (ms':=[]) hn.2 hM ((qX hH hq1).keep (Eo M)) (by simp);simpa using this
    ·cases h
   |fn g fs cs=>
    simp only at h;split at h
    ·rename_i us ns1 ms1 us2 ns2 ms2 h1 h2;simp only[aD,cM]at h;obtain⟨rfl,rfl,rfl⟩:=h;simp only[aK]at hy;obtain⟨ws,ws2,rfl,hy,hy2⟩:=hy;simp only[Rel]at hv;obtain⟨qs,qs2,rfl,hv,hv2⟩:=hv;obtain⟨g1,g2⟩:=mY hn;obtain⟨g2,g3⟩:=mY g2;obtain⟨h3,h4⟩:=jE hh hH M f h1 g1 (λp hp=>hM p (by simp[hp])) hy hv;obtain⟨h5,h6⟩:=jE hh hH M f h2 g2 (λp hp=>hM p (by simp[hp])) hy2 hv2;have:=tail (ms':=ms1++ms2) g3 (λp hp=>hM p (by simp[hp])) (z:= .fn g us us2) (by simp only[Rel];exact⟨qs,qs2,rfl,h3,h5⟩) (λp hp=>by
      rcases bU.1 hp with hp|hp
      ·exact h4 p hp
      ·exact h6 p hp)
     simpa using this
    ·cases h
   |bJ t k=>
    simp only at h;split at h
    ·rename_i u ns' ms' h1;simp only[aD,cM]at h;obtain⟨rfl,rfl,rfl⟩:=h;simp only[aK]at hy;obtain⟨z,rfl,hy⟩:=hy;simp only[Rel]at hv;obtain⟨q,rfl,hv⟩:=hv;obtain⟨g1,g2⟩:=mY hn;obtain⟨h2,h3⟩:=jE hh hH M f (ys:=[z]) (vs:=[q]) h1 g1 (λp hp=>hM p (by simp[hp])) (by simp only[aR];exact⟨_,_,rfl,hy,rfl⟩) (by simp only[aL];exact⟨_,_,rfl,hv,rfl⟩);simp only[aL]at h2;obtain⟨q',_,h4,h5,rfl⟩:=h2;cases h4;exact tail g2 (λp hp=>hM p (by simp[hp])) (by simp only[Rel];exact⟨q,rfl,h5⟩) h3
    ·cases h
   |oe t n off=>cases h
   |om t=>cases h
end
def je:List (Nat×bz)->Hp->Hp
 |[],L=>L
 |(t,e)::r,L=>(je r L).set t e
def zQ (Z:aN) (t:Nat):bz->aw
 | .l8 us=> .fact (.ip us) (.pointer (some ⟨(Z.b t).getD 0,0,none⟩))
 | .ju k rows=> .fact (.sl k rows) (.slice ((Z.s t rows.length).getD (none,0)).1 rows.length ((Z.s t rows.length).getD (none,0)).2)
 |_=> .gone
def fu (Z:aN):List (Nat×bz)->List aw->List aw
 |[],l=>l
 |(t,e)::r,l=>(fu Z r l).set t (zQ Z t e)
theorem aaT {Z:aN}:∀(ms:List (Nat×bz)) (l:List aw),(fu Z ms l).length=l.length
 |[],_=>rfl
 |(t,e)::r,l=>by simp[fu,aaT r l]
theorem Q1 {Z:aN} {t:Nat} {e:bz}:(zQ Z t e).ids=[]:=by cases e<;>rfl
theorem Qs {x:aw} (hx:x.ids=[]):∀(l:List aw) (i:Nat),(ids (l.set i x)).Sublist (ids l)
 |[],_=>by simp
 |y::l,0=>by simp only[Dq,cC,hx,oW];exact anI _ _
 |y::l,i+1=>by simp only[qB,cC];exact anJ (Hl _) (Qs hx l i)
theorem xQ {Z:aN}:∀(ms:List (Nat×bz)) (l:List aw),(ids (fu Z ms l)).Sublist (ids l)
 |[],_=>Hl _
 |(t,e)::r,l=>(Qs Q1 _ _).trans (xQ r l)
theorem Ia {Z:aN}:∀(ms:List (Nat×bz)) (l:List aw) (i:Nat) (x:aw),nth (fu Z ms l) i=some x->(nth l i=some x/\i∉ms.map (·.1))\/∃e,(i,e)∈ms/\x=zQ Z i e
 |[],_,_,_,h=> .inl ⟨h,by simp⟩
 |(t,e)::r,l,i,x,h=>by
  simp only[fu]at h;by_cases hti:t=i
  ·subst hti;rw[cG]at h;have hlt:t<(fu Z r l).length:=by
    have:=(cr.1 h).1;simpa using this
   rw[PS hlt]at h;cases h;exact .inr ⟨e,by simp,rfl⟩
  ·rw[cG,Dv hti,<-cG]at h;rcases Ia r l i x h with⟨h1,h2⟩|⟨e',h1,h2⟩
   ·exact .inl ⟨h1,by simp only[dj,ck,not_or];exact⟨λe=>hti e.symm,h2⟩⟩
   ·exact .inr ⟨e',by simp[h1],h2⟩
section
variable {Z:aN} {L:Hp} {LB:List aw} {w:World} {F:Nat->Prop} {G:Gl}
theorem acm {ms:List (Nat×bz)} {b:Nat} (h:gh F LB (ms.map (·.1)) b):Al F (fu Z ms LB) b:=by
 refine⟨h.1,λhb=>?_⟩;obtain⟨x,hx,hb⟩:=gF.1 hb;obtain⟨i,hi⟩:=jB hx;rw[<-cG]at hi;rcases Ia ms LB i x hi with⟨h1,h2⟩|⟨e,_,rfl⟩
 ·exact h.2 i x h1 h2 hb
 ·rw[Q1]at hb;cases hb
theorem tm {ms:List (Nat×bz)}:dC w (gh F LB (ms.map (·.1))) w (Al F (fu Z ms LB)):=⟨bW _,λ_ _ h=>⟨acm h,rfl⟩⟩
theorem En (hH:bG G w F LB) {ms:List (Nat×bz)} (hm:∀p∈ms,sf Z w (gh F LB (ms.map (·.1))) p):bG G w F (fu Z ms LB):=by
 refine hH.facts (xQ ms LB) λx hx=>?_;obtain⟨i,hi⟩:=jB hx;rw[<-cG]at hi;rcases Ia ms LB i x hi with⟨h1,_⟩|⟨e,h1,rfl⟩
 ·exact .inl (aY (by rw[<-cG];exact h1))
 ·right;have h2:=hm _ h1;cases e<;>first|exact h2.elim|skip
  ·obtain⟨b,h3,h4⟩:=h2;exact⟨_,_,rfl,by simp only[h3,aam];exact h4.keep tm⟩
  ·obtain⟨a,c,h3,h4⟩:=h2;exact⟨_,_,rfl,by simp only[h3,aam];exact h4.keep tm⟩
theorem Sw:∀(ms:List (Nat×bz)) (L:Hp),(je ms L).n=L.n
 |[],_=>rfl
 |(t,e)::r,L=>by simp[je,Hp.set,Sw r L]
theorem D5 (hh:HS Z L LB):∀{ms:List (Nat×bz)},(∀p∈ms,p.1<L.n/\sf Z w F p)->HS Z (je ms L) (fu Z ms LB)
 |[],_=>hh
 |(t,e)::r,hm=>by
  have ih:=D5 (ms:=r) hh λp hp=>hm p (by simp[hp]);obtain⟨h1,h2⟩:=hm (t,e) (by simp);refine ih.set (.refl Z) (λ_ _=>rfl) (λ_ _=>rfl) (by rw[Sw];exact h1) ?_
  cases e<;>first|exact h2.elim|skip
  ·obtain⟨b,h3,_⟩:=h2;exact⟨b,h3,by simp[zQ,h3]⟩
  ·obtain⟨a,c,h3,_⟩:=h2;exact⟨a,c,h3,by simp[zQ,h3]⟩
theorem sf.lt (hh:HS Z L LB) {A:Nat->Prop} {p:Nat×bz} (h:sf Z w A p):p.1<L.n:=by
 obtain⟨t,e⟩:=p;cases e<;>first|exact h.elim|skip
 ·obtain⟨b,h1,_⟩:=h;rcases mV t L.n with h2|h2
  ·exact h2
  ·rw[(hh.iJ t h2).1]at h1;cases h1
 ·obtain⟨a,c,h1,_⟩:=h;rcases mV t L.n with h2|h2
  ·exact h2
  ·rw[(hh.iJ t h2).2]at h1;cases h1
theorem aL.one {A:Nat->Prop} {x:AV} {v:Value} (h:Rel w A x v):aL w A [x] [v]:=by simp only[aL];exact⟨_,_,rfl,h,rfl⟩
theorem aL.FJ {A:Nat->Prop} {x:AV} {v:Value} (h:aL w A [x] [v]):Rel w A x v:=by
 simp only[aL]at h;obtain⟨v',r,h1,h2,h3⟩:=h;cases h1;exact h2
theorem aR.one {x:CV} {y:AV} (h:aK Z x y):aR Z [x] [y]:=by simp only[aR];exact⟨_,_,rfl,h,rfl⟩
end
section
variable {E:Env} {N K:Nat} {Q:DQ} {O:TS} {L:Hp} {o:Oper} {x:CV} {all rest:List Oper}
theorem DO.cO {t:Nat} {z:AV} {ns:List (Nat×Nat)} {ms:List (Nat×bz)} (f:Nat) (hx:O.get t=some x) (hf:cz L.e f [x]=some ([z],ns,ms)) (hn:eqs ns) (k:DO E N K all rest Q (Tr.put 24 O t (some (.d z))) (je ms L)):DO E N K all rest Q O L:=λZ OB LB hs hh=>by
 obtain⟨y,h1,h2⟩:=hs t x hx;intro F w0 L0 a w hst hxt;have hv:=(hst.sg.2 t y h1).2;obtain⟨h3,h4⟩:=jE hh hst.hp (ms.map (·.1)) f hf hn (λp hp=>dy.2 ⟨p,hp,rfl⟩) (aR.one h2) (aL.one hv);have h3:=h3.FJ;have hHS:HS Z (je ms L) (fu Z ms LB):=D5 (w:=w) (F:=gh F LB (ms.map (·.1))) hh λp hp=>⟨(h4 p hp).lt hh,h4 p hp⟩;have hHO:bG E.G w F (fu Z ms LB):=En hst.hp h4;have hsub:∀b∈ids (fu Z ms LB),b∈ids LB:=λb hb=>(xQ ms LB).subset hb;have hkeep:dC w (Al F LB) w (Al F (fu Z ms LB)):=dC.sub hsub;refine k Z ((t,z)::OB) (fu Z ms LB) (hs.put (some t) (x:= .d z) (y:=z) rfl) hHS F w0 L0 a w ⟨⟨hst.sg.1,λu q hq=>?_⟩,hHO,hst.df⟩ (hxt.trans ⟨rfl,rfl,rfl,bW _,λ_ _ _=>rfl,λb hb=> .inl (hsub b hb),.of (bW _)⟩);simp only[look]at hq;cases hb:Nat.beq t u with
 |true=>
  rw[hb]at hq;simp only[aD]at hq;subst hq;rw[<-bK hb];exact⟨(hst.sg.2 t y h1).1,h3.keep tm⟩
 |false=>
  rw[hb]at hq;exact⟨(hst.sg.2 u q hq).1,(hst.sg.2 u q hq).2.keep hkeep⟩
theorem DC.cO {t:Nat} {z:AV} {ns:List (Nat×Nat)} {ms:List (Nat×bz)} (f:Nat) (hx:O.get t=some x) (hf:cz L.e f [x]=some ([z],ns,ms)) (hn:eqs ns) {c:Code} (k:DC E N K c Q (Tr.put 24 O t (some (.d z))) (je ms L)):DC E N K c Q O L:=λZ OB LB hs hh=>by
 obtain⟨y,h1,h2⟩:=hs t x hx;intro F w0 L0 a w hst hxt;have hv:=(hst.sg.2 t y h1).2;obtain⟨h3,h4⟩:=jE hh hst.hp (ms.map (·.1)) f hf hn (λp hp=>dy.2 ⟨p,hp,rfl⟩) (aR.one h2) (aL.one hv);have h3:=h3.FJ;have hHS:HS Z (je ms L) (fu Z ms LB):=D5 (w:=w) (F:=gh F LB (ms.map (·.1))) hh λp hp=>⟨(h4 p hp).lt hh,h4 p hp⟩;have hHO:bG E.G w F (fu Z ms LB):=En hst.hp h4;have hsub:∀b∈ids (fu Z ms LB),b∈ids LB:=λb hb=>(xQ ms LB).subset hb;have hkeep:dC w (Al F LB) w (Al F (fu Z ms LB)):=dC.sub hsub;refine k Z ((t,z)::OB) (fu Z ms LB) (hs.put (some t) (x:= .d z) (y:=z) rfl) hHS F w0 L0 a w ⟨⟨hst.sg.1,λu q hq=>?_⟩,hHO,hst.df⟩ (hxt.trans ⟨rfl,rfl,rfl,bW _,λ_ _ _=>rfl,λb hb=> .inl (hsub b hb),.of (bW _)⟩);simp only[look]at hq;cases hb:Nat.beq t u with
 |true=>
  rw[hb]at hq;simp only[aD]at hq;subst hq;rw[<-bK hb];exact⟨(hst.sg.2 t y h1).1,h3.keep tm⟩
 |false=>
  rw[hb]at hq;exact⟨(hst.sg.2 u q hq).1,(hst.sg.2 u q hq).2.keep hkeep⟩
def cq (z y:AV):Prop:=∀w A v,Rel w A z v->Rel w A y v
inductive cH:List AV->List AV->Prop where
 |nil:cH [] []
 |cons {x y:AV} {xs ys:List AV}:cq x y->cH xs ys->cH (x::xs) (y::ys)
theorem cq.refl (x:AV):cq x x:=λ_ _ _ h=>h
theorem cH.refl:∀(xs:List AV),cH xs xs
 |[]=> .nil
 |x::xs=> .cons (.refl x) (cH.refl xs)
theorem cH.rel {w:World} {A:Nat->Prop}:∀{xs ys:List AV} {vs:List Value},cH xs ys->aL w A xs vs->aL w A ys vs
 |_,_,_,.nil,h=>h
 |_,_,_,.cons h t,hr=>by
  simp only[aL]at hr⊢;obtain⟨v,r,rfl,h1,h2⟩:=hr;exact⟨v,r,rfl,h _ _ _ h1,cH.rel t h2⟩
theorem cq.nil (k:Nat):cq (.v (.slice none 0 0)) (.sl k []):=λw A v h=>by
 simp only[Rel]at h⊢;subst h;exact .inl ⟨trivial,_,_,rfl⟩
theorem cq.agg {xs ys:List AV} (h:cH xs ys):cq (.agg xs) (.agg ys):=λw A v hr=>by
 simp only[Rel]at hr⊢;obtain⟨vs,rfl,h1⟩:=hr;exact⟨vs,rfl,h.rel h1⟩
theorem cq.bQ {xs ys:List AV} (h:cH xs ys):cq (.bQ xs) (.bQ ys):=λw A v hr=>by
 simp only[Rel]at hr⊢;obtain⟨vs,rfl,h1⟩:=hr;exact⟨vs,rfl,h.rel h1⟩
theorem cq.ip {xs ys:List AV} (h:cH xs ys):cq (.ip xs) (.ip ys):=λw A v hr=>by
 simp only[Rel]at hr⊢;obtain⟨b,o,vs,e1,e2,e3,e4⟩:=hr;exact⟨b,o,vs,e1,e2,h.rel e3,e4⟩
theorem cq.fn {f:FuncId} {fs fs' cs cs':List AV} (h:cH fs fs') (g:cH cs cs'):cq (.fn f fs cs) (.fn f fs' cs'):=λw A v hr=>by
 simp only[Rel]at hr⊢;obtain⟨us,vs,e,h1,h2⟩:=hr;exact⟨us,vs,e,h.rel h1,g.rel h2⟩
inductive ea:List (List AV)->List (List AV)->Prop where
 |nil:ea [] []
 |cons {x y:List AV} {xs ys:List (List AV)}:cH x y->ea xs ys->ea (x::xs) (y::ys)
theorem cH.length {xs ys:List AV} (h:cH xs ys):ys.length=xs.length:=by induction h with|nil=>rfl|cons _ _ ih=>simp[ih]
theorem ea.length {xs ys:List (List AV)} (h:ea xs ys):ys.length=xs.length:=by induction h with|nil=>rfl|cons _ _ ih=>simp[ih]
theorem ea.refl:∀(xs:List (List AV)),ea xs xs
 |[]=> .nil
 |x::xs=> .cons (.refl x) (ea.refl xs)
theorem ea.rel {w:World} {A:Nat->Prop} {k:Nat}:∀{xs ys:List (List AV)} {vs:List Value},ea xs ys->bl w A k xs vs->bl w A k ys vs
 |_,_,_,.nil,h=>h
 |_,_,_,.cons h t,hr=>by
  simp only[bl]at hr⊢;obtain⟨v1,v2,rfl,h0,h1,h2⟩:=hr;exact⟨v1,v2,rfl,by rw[h.length];exact h0,h.rel h1,ea.rel t h2⟩
theorem cq.sl {k:Nat} {xs ys:List (List AV)} (h:ea xs ys):cq (.sl k xs) (.sl k ys):=λw A v hr=>by
 simp only[Rel]at hr⊢;rcases hr with⟨rfl,h1⟩|⟨b,o,cap,vs,e1,e2,e3,e4,e5,e6⟩
 ·cases h;exact .inl ⟨rfl,h1⟩
 ·exact .inr ⟨b,o,cap,vs,by rw[h.length];exact e1,e2,by rw[h.length];exact e3,e4,h.rel e5,e6⟩
theorem ea.append {xs ys xs' ys':List (List AV)} (h:ea xs ys) (g:ea xs' ys'):ea (xs++xs') (ys++ys'):=by
 induction h with
 |nil=>exact g
 |cons h _ ih=>exact .cons h ih
def dz:AV->Bool
 | .v _=>true
 | .agg xs=>go xs
 | .bQ xs=>go xs
 | .bJ _ x=>dz x
 |_=>false
where go:List AV->Bool
 |[]=>true
 |x::r=>match dz x with
  |true=>go r
  |false=>false
mutual
theorem DK {w:World} {A A':Nat->Prop}:∀{x:AV} {v:Value},dz x=true->Rel w A x v->Rel w A' x v
 | .v _,_,_,h=>by simp only[Rel]at h⊢;exact h
 | .agg xs,_,hf,h=>by simp only[Rel]at h⊢;obtain⟨vs,e,h1⟩:=h;exact⟨vs,e,Hz (by simpa[dz]using hf) h1⟩
 | .bQ xs,_,hf,h=>by simp only[Rel]at h⊢;obtain⟨vs,e,h1⟩:=h;exact⟨vs,e,Hz (by simpa[dz]using hf) h1⟩
 | .bJ t x,_,hf,h=>by simp only[Rel]at h⊢;obtain⟨u,e,h1⟩:=h;exact⟨u,e,DK (by simpa[dz]using hf) h1⟩
 | .sl _ _,_,hf,_=>by simp[dz]at hf
 | .ip _,_,hf,_=>by simp[dz]at hf
 | .own _ _ _,_,hf,_=>by simp[dz]at hf
 | .os _ _ _ _,_,hf,_=>by simp[dz]at hf
 | .oe _ _ _,_,hf,_=>by simp[dz]at hf
 | .om _ _,_,hf,_=>by simp[dz]at hf
 | .fn _ _ _,_,hf,_=>by simp[dz]at hf
theorem Hz {w:World} {A A':Nat->Prop}:∀{xs:List AV} {vs:List Value},dz.go xs=true->aL w A xs vs->aL w A' xs vs
 |[],_,_,h=>by simp only[aL]at h⊢;exact h
 |x::r,_,hf,h=>by
  simp only[dz.go]at hf;split at hf
  ·rename_i hx;simp only[aL]at h⊢;obtain⟨v,r',e,h1,h2⟩:=h;exact⟨v,r',e,DK hx h1,Hz hf h2⟩
  ·cases hf
end
def ew (O:TS) (f:Operand) (args:List Operand):Option (FuncId×List CV):=
 match aX O f,si O args with
 |some (.d (.v (.func (.func g) fa cs))),some xs=>some (g,(fa.toList.map .v).map .d++xs++(cs.toList.map .v).map .d)
 |some (.d (.fn g fs cs)),some xs=>some (g,fs.map .d++xs++cs.map .d)
 |some (.fn g fs cs),some xs=>some (g,fs++xs++cs)
 |_,_=>none
theorem qG {Z:aN} {s:Sl} (hs:SS Z O s) {f:Operand} {args:List Operand} {g:FuncId} {cs:List CV} (h:ew O f args=some (g,cs)):∃ys,callee s f args=some (g,ys)/\aR Z cs ys:=by
 unfold ew at h;split at h
 ·rename_i g' fa qs xs h1 h2;simp only[aD,cM]at h;obtain⟨rfl,rfl⟩:=h;obtain⟨y,h3,h4⟩:=cg hs h1;simp only[aK]at h4;subst h4;obtain⟨ys,h5,h6⟩:=tq hs h2;exact⟨_,by simp only[callee,h3,h5],((jb _).append h6).append (jb _)⟩
 ·rename_i g' fs qs xs h1 h2;simp only[aD,cM]at h;obtain⟨rfl,rfl⟩:=h;obtain⟨y,h3,h4⟩:=cg hs h1;simp only[aK]at h4;subst h4;obtain⟨ys,h5,h6⟩:=tq hs h2;exact⟨_,by simp only[callee,h3,h5],((jb _).append h6).append (jb _)⟩
 ·rename_i g' fs qs xs h1 h2;simp only[aD,cM]at h;obtain⟨rfl,rfl⟩:=h;obtain⟨y,h3,h4⟩:=cg hs h1;simp only[aK]at h4;obtain⟨us,vs,rfl,h4,h4'⟩:=h4;obtain⟨ys,h5,h6⟩:=tq hs h2;exact⟨_,by simp only[callee,h3,h5],(h4.append h6).append h4'⟩
 ·cases h
theorem H' {Z:aN} {LB:List aw} {w:World} {F:Nat->Prop} {g:FuncId} {cs:List CV} {ys xs' xs:List AV} {vs:List Value} {ns:List (Nat×Nat)} {ms:List (Nat×bz)} {res:AR} (fl:Nat) (h:Pure E.toCx g xs res)
  (hf:cz L.e fl cs=some (xs',ns,ms)) (hn:eqs ns) (hi:cH xs' xs) (hl:ms=[]\/(match res with| .ret x=>dz x| .aS x=>dz x)=true) (hh:HS Z L LB) (hH:bG E.G w F LB) (hcs:aR Z cs ys) (hr:aL w (Al F LB) ys vs):
  Calls E.P g vs.toArray w λe w'=>AR.rel w' (Al F LB) res e/\iT w w':=by
 obtain⟨h3,h4⟩:=jE hh hH (ms.map (·.1)) fl hf hn (λp hp=>dy.2 ⟨p,hp,rfl⟩) hcs hr;have hHO:bG E.G w F (fu Z ms LB):=En hH h4;have hx:=hi.rel h3;have hx':aL w (Al F (fu Z ms LB)) xs vs:=hx.keep tm;refine(h.run hHO hx').mono ?_;rintro e w' ⟨hv,_,hext,hsame⟩;refine⟨?_,⟨hext.os,hext.drawn⟩,hext.tape,hext.output,hext.size,hsame⟩;rcases hl with rfl|hl
 ·exact hv
 ·cases res with
  |ret x=>obtain⟨v,rfl,hv⟩:=hv;exact⟨v,rfl,DK hl hv⟩
  |aS x=>obtain⟨v,rfl,hv⟩:=hv;exact⟨v,rfl,DK hl hv⟩
theorem bh.pure {f:Operand} {args:List Operand} {g:FuncId} {cs:List CV} {xs' xs:List AV} {ns:List (Nat×Nat)} {ms:List (Nat×bz)} {res:AV} {tys:Array TypeId} (fl:Nat) (ho:o.op= .call {callee:= .value f,args:=args.toArray,argTypes:=tys})
  (h:Pure E.toCx g xs (.ret res)) (hc:ew O f args=some (g,cs)) (hf:cz L.e fl cs=some (xs',ns,ms)) (hn:eqs ns) (hi:cH xs' xs) (hl:ms=[]\/dz res=true):bh E N o O L (.d res):=λZ s LB hs hh=>by
 obtain⟨ys,hcal,hcs⟩:=qG hs hc;refine⟨res,rfl,λF w a hN _ hH hopd K' Q' k=>?_⟩;have hmem:∀p,p=f\/p∈args->p∈o.op.operands.toList:=by
  rintro p hp;rw[ho];rcases hp with rfl|hp
  ·simp[Op.operands,Call.operands]
  ·simp[Op.operands,Call.operands,hp]
 have hc':callee (look (dV s (tmpsOf o))) f args=some (g,ys):=by
  unfold callee at hcal⊢;rw[fK (hmem f (.inl rfl)),tr λp hp=>fK (hmem p (.inr hp))];exact hcal
 have hsl:gz w (Al F LB) N a (look (dV s (tmpsOf o))):=⟨hN,λt y hy=>by obtain⟨h1,h2⟩:=kU hy;exact hopd t h1 y h2⟩;obtain⟨vs,h1,h2⟩:=xL (P:=E.P) hsl hc' (tys:=tys) (dst:=o.dst) (ty:=o.type) (pos:=o.pos) (after:=o.after) (gd:=o.guard) h.1;have ho':o=⟨o.dst,.call {callee:= .value f,args:=args.toArray,argTypes:=tys},o.type,o.pos,o.after,o.guard⟩:=by rw[<-ho]
 rw[<-ho']at h2;unfold Oper.wp;rw[h2 w,Oper.upon_enter];refine(H' fl h hf hn hi hl hh hH hcs h1).mono ?_;rintro e w' ⟨⟨v,rfl,hv⟩,hcls⟩;exact k v w' hv hcls
theorem DO.tX {dst:Option Nat} {f:Operand} {args:List Operand} {g:FuncId} {cs:List CV} {xs' xs:List AV} {ns:List (Nat×Nat)} {ms:List (Nat×bz)} {res:AV} {tys:Array TypeId} {ty:TypeId} {pos:String} {after:Array Edge} (fl:Nat)
  (h:Pure E.toCx g xs (.aS res)) (hc:ew O f args=some (g,cs)) (hf:cz L.e fl cs=some (xs',ns,ms)) (hn:eqs ns) (hi:cH xs' xs) (hl:ms=[]\/dz res=true)
  (k:Q (.aS (.d res)) .lf L):DO E N K all (⟨dst,.call {callee:= .value f,args:=args.toArray,argTypes:=tys},ty,pos,after,none⟩::rest) Q O L:=λZ OB LB hs hh=>by
 obtain⟨ys,hcal,hcs⟩:=qG hs hc;intro F w0 L0 a w hst hxt;unfold wpList;rw[bf (by simp[Region.wanted])];refine .inl ?_;obtain⟨vs,h1,h2⟩:=xL (P:=E.P) hst.sg hcal (tys:=tys) (dst:=dst) (ty:=ty) (pos:=pos) (after:=after) (gd:=none) h.1;unfold Oper.wp;rw[h2 w,Oper.upon_enter];refine(H' fl h hf hn hi hl hh hst.hp hcs h1).mono ?_;rintro e w' ⟨⟨v,rfl,hv⟩,hcls⟩;refine⟨.aS res,[],LB,⟨Z,.aS (.d res),.lf,L,.refl K Z,⟨res,rfl,rfl⟩,λt x hx=>by simp[Tr.kY]at hx,hh,k⟩,⟨v,rfl,hv⟩,⟨⟨hst.sg.1,λt x hx=>by simp[AE.sl,look]at hx⟩,hst.hp.later hcls.2.2.2,hst.df⟩,hxt.trans hcls.ext⟩
inductive DR where
 |ret (x:CV)
 |aS (x:CV)
def DR.inst (Z:aN):DR->AR->Prop
 | .ret x,r=>∃y,r= .ret y/\aK Z x y
 | .aS x,r=>∃y,r= .aS y/\aK Z x y
def Xg (K:Nat) (Z:aN) (Q:DR->Hp->Prop):AR->List aw->Prop:=λr LB=>∃Z' d L,aN.iS K Z Z'/\DR.inst Z' d r/\HS Z' L LB/\Q d L
def fY (E:Env) (g:FuncId) (args:List CV) (L:Hp) (Q:DR->Hp->Prop):Prop:=∀Z ys LB,aR Z args ys->HS Z L LB->lh E.toCx g ys LB (Xg L.n Z Q)
theorem HS.iS {Z Z':aN} {LB:List aw} (hh:HS Z L LB) (h:aN.iS L.n Z Z'):Z.le Z':=by
 refine⟨λt x hx=>?_,λt n x hx=>?_⟩
 ·rcases mV t L.n with h1|h1
  ·exact(h t h1).1 x hx
  ·rw[(hh.iJ t h1).1]at hx;cases hx
 ·rcases mV t L.n with h1|h1
  ·exact(h t h1).2 n x hx
  ·rw[(hh.iJ t h1).2]at hx;cases hx
theorem DO.call {dst:Option Nat} {f:Operand} {args:List Operand} {g:FuncId} {cs:List CV} {Q':DR->Hp->Prop} {tys:Array TypeId} {ty:TypeId} {pos:String} {after:Array Edge}
  (h:fY E g cs L Q') (hc:ew O f args=some (g,cs)) (hd:cK N dst=true) (k1:∀x L',Q' (.ret x) L'->DO E N K all rest Q (cj O dst x) L') (k2:∀x L',Q' (.aS x) L'->Q (.aS x) .lf L'):
  DO E N K all (⟨dst,.call {callee:= .value f,args:=args.toArray,argTypes:=tys},ty,pos,after,none⟩::rest) Q O L:=λZ OB LB hs hh=>by
 obtain⟨ys,h1,h2⟩:=qG hs hc;refine bX.ag2 (h Z ys LB h2 hh) h1 hd ?_ ?_
 ·rintro y LB' ⟨Z',r,L',h3,h4,h5,h6⟩;have hl:=hh.iS h3;cases r with
  |ret x=>
   obtain⟨y',e,h4⟩:=h4;cases e;exact DO.up hl (k1 x L' h6 Z' _ LB' ((hs.mono hl).put dst h4) h5)
  |aS x=>obtain⟨y',e,_⟩:=h4;cases e
 ·rintro y LB' ⟨Z',r,L',h3,h4,h5,h6⟩;have hl:=hh.iS h3;cases r with
  |ret x=>obtain⟨y',e,_⟩:=h4;cases e
  |aS x=>
   obtain⟨y',e,h4⟩:=h4;cases e;exact⟨Z',.aS x,.lf,L',hl.toK K,⟨y,rfl,h4⟩,λt x hx=>by simp[Tr.kY]at hx,h5,k2 x L' h6⟩
def jd:Nat->List CV->TS
 |_,[]=> .lf
 |n,x::xs=>Tr.put 24 (jd (n+1) xs) n (some x)
theorem Rv {Z:aN}:∀{xs:List CV} {ys:List AV} (n:Nat),aR Z xs ys->SS Z (jd n xs) (look (sk n ys))
 |[],ys,n,_=>λt x hx=>by simp[jd,Tr.kY]at hx
 |x::xs,ys,n,h=>by
  simp only[aR]at h;obtain⟨y,r,rfl,h1,h2⟩:=h;have:=Rv (n+1) h2;exact this.put (some n) h1
def J9 (T:b8) (O:TS) (L:Hp):ResultVar->Option CV
 | .tmp t=>O.get t
 | .cell a t=>match O.get a,bc T t with
  |some (.own i 0),some ⟨d,k,_,_⟩=>match L.e.get i with
   |some (.box cs)=>match d.agg with
    |true=>match Nat.ble k cs.length with
     |true=>some (vG (cs.take k))
     |false=>none
    |false=>nth cs 0
   |_=>none
  |some (.d (.ip cs)),some ⟨d,k,_,_⟩=>match d.agg,fits cs k with
   |true,true=>some (.d (.agg (cs.take k)))
   |_,_=>none
  |_,_=>none
def eP (T:b8) (O:TS) (L:Hp):List ResultVar->Option (List CV)
 |[]=>some []
 |r::rs=>match J9 T O L r,eP T O L rs with
  |some x,some xs=>some (x::xs)
  |_,_=>none
def fN:List CV->CV
 |[x]=>x
 |xs=>J' xs
theorem ads {Z:aN} {OB:Sg} {LB:List aw} {T:b8} (hs:SS Z O (look OB)) (hh:HS Z L LB) {r:ResultVar} (h:J9 T O L r=some x):∃y,qc T OB LB r y/\aK Z x y:=by
 cases r with
 |tmp t=>obtain⟨y,h1,h2⟩:=hs t x h;exact⟨y,.tmp h1,h2⟩
 |cell a t=>
  simp only[J9]at h;split at h
  ·rename_i i d k b z ha ht;split at h
   ·rename_i cs hcs;obtain⟨y,h1,h2⟩:=hs a _ ha;simp only[aK]at h2;obtain⟨bk,t',h2,rfl⟩:=h2;obtain⟨q,h3,h4⟩:=hh.en i _ hcs;obtain⟨bk',us,h5,rfl,h6⟩:=h4;rw[h2]at h5;cases h5;split at h
    ·rename_i hd;split at h
     ·rename_i hle;simp only[aD]at h;subst h;exact⟨_,.Xh h1 h3 ht hd (HW (by rw[h6.length];exact ep hle)),DZ (h6.take k)⟩
     ·cases h
    ·rename_i hd;obtain⟨y,h7,h8⟩:=h6.nth h;cases us with
     |nil=>simp[nth]at h7
     |cons u us=>
      simp only[nth,aD]at h7;subst h7;exact⟨_,.V0 h1 h3 ht hd,h8⟩
   ·cases h
  ·rename_i cs d k b z ha ht;split at h
   ·rename_i hd hf;simp only[aD]at h;subst h;obtain⟨y,h1,h2⟩:=hs a _ ha;simp only[aK]at h2;subst h2;exact⟨_,.Xi h1 ht hd hf,rfl⟩
   ·cases h
  ·cases h
theorem TO {Z:aN} {OB:Sg} {LB:List aw} {T:b8} (hs:SS Z O (look OB)) (hh:HS Z L LB):∀{rs:List ResultVar} {xs:List CV},eP T O L rs=some xs->∃ys,vV T OB LB rs ys/\aR Z xs ys
 |[],xs,h=>by simp only[eP,aD]at h;subst h;exact⟨[],.nil,by simp[aR]⟩
 |r::rs,xs,h=>by
  simp only[eP]at h;split at h
  ·rename_i x xs' h1 h2;simp only[aD]at h;subst h;obtain⟨y,h3,h4⟩:=ads hs hh h1;obtain⟨ys,h5,h6⟩:=TO hs hh h2;exact⟨y::ys,.cons h3 h5,by simp only[aR];exact⟨_,_,rfl,h4,h6⟩⟩
  ·cases h
theorem abF {Z:aN} {xs:List CV} {ys:List AV} (h:aR Z xs ys):aK Z (fN xs) (Ak ys):=by
 match xs,ys,h with
 |[],ys,h=>exact Q2 (xs:=[]) h|>λz=>by simp only[aR]at h;subst h;exact z
 |[x],ys,h=>simp only[aR]at h;obtain⟨y,r,rfl,h1,rfl⟩:=h;exact h1
 |x::x'::r,ys,h=>
  have h0:=h;simp only[aR]at h0;obtain⟨y,r,rfl,h1,y',r',rfl,h2,h3⟩:=h0;exact Q2 h
def RD (T:b8) (rs:List ResultVar) (Q:DR->Hp->Prop):DQ:=λe O L=>match e with
 | .norm=>∃xs,eP T O L rs=some xs/\Q (.ret (fN xs)) L
 | .ret=>∃xs,eP T O L rs=some xs/\Q (.ret (fN xs)) L
 | .exit _=>False
 | .aS x=>Q (.aS x) L
theorem fY.enter {f:FuncId} {fn:Func} {c:Code} {args:List CV} {Q:DR->Hp->Prop} (hf:E.P.funcs[f]? =some fn) (hb:fn.body=some c) (hname:(fn.name== "runtime.NumGoroutine")=false)
  (rs:List ResultVar) (hrs:fn.results=rs.toArray) (nt:Nat) (hnt:fn.ntmps=nt) (hn:Nat.ble args.length nt=true) (h:DC E nt L.n c (RD E.T rs Q) (jd 0 args) L):fY E f args L Q:=λZ ys LB hi hh=>by
 refine lh.enter (E:=E) hf hb hname rs hrs nt hnt (by rw[hi.length];exact hn) (b7.mono (h Z (sk 0 ys) LB (Rv 0 hi) hh) ?_);rintro e OB' LB' ⟨Z',d,O',L',h1,h2,h3,h4,h5⟩;have main:(∃xs,eP E.T O' L' rs=some xs/\Q (.ret (fN xs)) L')->RQ E.T rs (Xg L.n Z Q) OB' LB':=by
  rintro ⟨xs,h6,h7⟩;obtain⟨zs,h8,h9⟩:=TO h3 h4 h6;exact⟨zs,h8,Z',.ret (fN xs),L',h1,⟨_,rfl,abF h9⟩,h4,h7⟩
 cases d with
 |norm=>simp only[DE.inst]at h2;subst h2;exact main h5
 |ret=>simp only[DE.inst]at h2;subst h2;exact main h5
 |exit i=>exact h5.elim
 |aS x=>obtain⟨y,rfl,h2⟩:=h2;exact⟨Z',.aS x,L',h1,⟨y,rfl,h2⟩,h4,h5⟩
def Hp.nil:Hp:=⟨.lf,0⟩
theorem HS.nil (Z:aN) (h:∀t,Z.b t=none/\∀n,Z.s t n=none):HS Z Hp.nil []:=⟨λi x hx=>by simp[Hp.nil,Tr.kY]at hx,rfl,λt _=>h t⟩
def Ends (f:Nat) (res:AR):DR->Hp->Prop
 | .ret x,L=>∃z ns ms,cz L.e f [x]=some ([z],ns,ms)/\eqs ns/\∃y,res= .ret y/\cq z y
 | .aS x,L=>∃z ns ms,cz L.e f [x]=some ([z],ns,ms)/\eqs ns/\∃y,res= .aS y/\cq z y
theorem Pure.Z2 {g:FuncId} {args:List AV} {res:AR} (f:Nat) (h:fY E g (args.map .d) Hp.nil (Ends f res)):Pure E.toCx g args res:=by
 have h0:=h ⟨λ_=>none,λ_ _=>none⟩ args [] (jb args) (HS.nil _ λ_=>⟨rfl,λ_=>rfl⟩);refine⟨h0.1,λF w vs hH hr=>(h0.2 F w vs hH hr).mono ?_⟩;rintro e w' ⟨r,LB,⟨Z',d,L,h1,h2,h3,h4⟩,hv,hh,hx⟩;have hA:∀b,gh F LB (List.range LB.length) b->Al F [] b:=λb hb=>⟨hb.1,by simp[ids]⟩;have hk:∀M:List Nat,dC w' (gh F LB M) w' (Al F []):=λM=>⟨bW _,λb _ hb=>⟨⟨hb.1,by simp[ids]⟩,rfl⟩⟩;have fin:∀{x:CV} {y:AV} {v:Value},(∃z ns ms,cz L.e f [x]=some ([z],ns,ms)/\eqs ns/\cq z y)->(∃u,aK Z' x u/\Rel w' (Al F LB) u v)->Rel w' (Al F []) y v:=by
  rintro x y v ⟨z,ns,ms,g1,g2,g3⟩ ⟨u,g4,g5⟩;obtain⟨g6,_⟩:=jE h3 hh (ms.map (·.1)) f g1 g2 (λp hp=>dy.2 ⟨p,hp,rfl⟩) (aR.one g4) (aL.one g5);exact g3 _ _ _ (g6.FJ.keep (hk _))
 have hres:AR.rel w' (Al F []) res e:=by
  cases d with
  |ret x=>
   obtain⟨u,rfl,h5⟩:=h2;obtain⟨z,ns,ms,g1,g2,y,rfl,g3⟩:=h4;obtain⟨v,rfl,hv⟩:=hv;exact⟨v,rfl,fin ⟨z,ns,ms,g1,g2,g3⟩ ⟨u,h5,hv⟩⟩
  |aS x=>
   obtain⟨u,rfl,h5⟩:=h2;obtain⟨z,ns,ms,g1,g2,y,rfl,g3⟩:=h4;obtain⟨v,rfl,hv⟩:=hv;exact⟨v,rfl,fin ⟨z,ns,ms,g1,g2,g3⟩ ⟨u,h5,hv⟩⟩
 exact⟨res,[],⟨rfl,rfl⟩,hres,hh.none,⟨hx.os,hx.tape,hx.output,hx.size,hx.block,by simp[ids],hx.drawn⟩⟩
end
def sc (P:Program) (O:TS) (L:Hp):Op->Option (CV×List (Nat×Nat))
 | .binOp .eql t x y _=>match P.underlying t,aX O x,aX O y with
  |some (.slice _),some (.os i (n+1)),some (.d (.v (.slice none 0 0)))=>match L.e.get i with
   |some (.row _ _ rows)=>some (.d (.v (.bool false)),[(n+1,rows.length)])
   |some (.ju _ rows)=>some (.d (.v (.bool false)),[(n+1,rows.length)])
   |_=>none
  |_,_,_=>none
 | .binOp .neq t x y _=>match P.underlying t,aX O x,aX O y with
  |some (.slice _),some (.os i (n+1)),some (.d (.v (.slice none 0 0)))=>match L.e.get i with
   |some (.row _ _ rows)=>some (.d (.v (.bool true)),[(n+1,rows.length)])
   |some (.ju _ rows)=>some (.d (.v (.bool true)),[(n+1,rows.length)])
   |_=>none
  |_,_,_=>none
 |_=>none
section
variable {E:Env} {N:Nat} {O:TS} {L:Hp} {o:Oper}
theorem EN {Z:aN} {s:Sl} {LB:List aw} (hs:SS Z O s) (hh:HS Z L LB) {x:Operand} {i n:Nat} (hx:aX O x=some (.os i (n+1))) {rows:List (List AV)} (hn:n+1=rows.length) (hi:(∃e k,L.e.get i=some (.row e k rows))\/∃k,L.e.get i=some (.ju k rows)):
  ∃t' a c,ev s x=some (.os t' a (n+1) c)/\∀{G:Gl} {w:World} {F:Nat->Prop},bG G w F LB->a.isNone=false:=by
 obtain⟨y,h1,h2⟩:=cg hs hx;simp only[aK]at h2;obtain⟨a,c,t',h3,rfl⟩:=h2;refine⟨t',a,c,h1,λhH=>?_⟩;rcases hi with⟨e,k,hi⟩|⟨k,hi⟩
 ·obtain⟨q,h4,h5⟩:=hh.en i _ hi;obtain⟨⟨a',c',h6,rfl⟩,_⟩:=h5;rw[<-hn,h3]at h6;cases h6;obtain⟨vs,_,h7⟩:=ja hH h4;obtain⟨_,h8|⟨g,cap,cur,h9,_⟩⟩:=h7
  ·omega
  ·cases h9;rfl
 ·obtain⟨q,h4,h5⟩:=hh.en i _ hi;obtain⟨a',c',h6,rfl⟩:=h5;rw[<-hn,h3]at h6;cases h6;have:=qX hH h4;simp only[Rel]at this;rcases this with⟨rfl,_⟩|⟨b,o,cap,vs,h1,_⟩
  ·simp at hn
  ·cases h1;rfl
theorem D6 {s:Sl} {LB:List aw} {t e:TypeId} {x y:Operand} {yt:TypeId} {t':Nat} {a:Option Addr} {n c:Nat} (neg:Bool) (ho:o.op= .binOp (if neg then .neq else .eql) t x y yt) (hu:E.P.underlying t=some (.slice e)) (hx:ev s x=some (.os t' a n c)) (hy:ev s y=some (.v (.slice none 0 0)))
  (ha:∀{G:Gl} {w:World} {F:Nat->Prop},bG G w F LB->a.isNone=false):bZ E.toCx N o s LB (.v (.bool neg)):=by
 refine bZ.nQ λF act w hst=>?_;have h1:=bC hst.sg (show ev (look (dV s (tmpsOf o))) x=some (.os t' a n c)by rw[fK (by rw[ho];cases neg<;>simp[Op.operands])];exact hx);have h2:=bC hst.sg (show ev (look (dV s (tmpsOf o))) y=some (.v (.slice none 0 0))by rw[fK (by rw[ho];cases neg<;>simp[Op.operands])];exact hy);simp only[Rel]at h1 h2;have h0:=ha hst.hp;refine⟨_,gw _,λw' _=>?_⟩;have h3:binOp .eql t (.slice a n c) (.slice none 0 0)=(do pure (.bool (<-Op.equal t (.slice a n c) (.slice none 0 0))):Sem Value):=rfl;have h4:binOp .neq t (.slice a n c) (.slice none 0 0)=(do pure (.bool (!(<-Op.equal t (.slice a n c) (.slice none 0 0)))):Sem Value):=rfl;cases neg
 ·simp[execOp,ho,h1,h2,eqGuard,h3,D7 hu,h0]
 ·simp[execOp,ho,h1,h2,eqGuard,h4,D7 hu,h0]
theorem bh.sc {x:CV} {ns:List (Nat×Nat)} (h:sc E.P O L o.op=some (x,ns)) (hn:eqs ns):bh E N o O L x:=λZ s LB hs hh=>by
 unfold Bw.sc at h;split at h
 ·rename_i t x y yt ho;split at h
  ·rename_i e i n hu hx hy;have hyy:ev s y=some (.v (.slice none 0 0)):=by
    obtain⟨z,g1,g2⟩:=cg hs hy;simp only[aK]at g2;subst g2;exact g1
   split at h
   ·rename_i e' k rows hi;simp only[aD,cM]at h;obtain⟨rfl,rfl⟩:=h;obtain⟨t',a,c,h1,h2⟩:=EN hs hh hx hn.1 (.inl ⟨_,_,hi⟩);exact⟨_,rfl,D6 false (by simpa using ho) hu h1 hyy h2⟩
   ·rename_i k rows hi;simp only[aD,cM]at h;obtain⟨rfl,rfl⟩:=h;obtain⟨t',a,c,h1,h2⟩:=EN hs hh hx hn.1 (.inr ⟨_,hi⟩);exact⟨_,rfl,D6 false (by simpa using ho) hu h1 hyy h2⟩
   ·cases h
  ·cases h
 ·rename_i t x y yt ho;split at h
  ·rename_i e i n hu hx hy;have hyy:ev s y=some (.v (.slice none 0 0)):=by
    obtain⟨z,g1,g2⟩:=cg hs hy;simp only[aK]at g2;subst g2;exact g1
   split at h
   ·rename_i e' k rows hi;simp only[aD,cM]at h;obtain⟨rfl,rfl⟩:=h;obtain⟨t',a,c,h1,h2⟩:=EN hs hh hx hn.1 (.inl ⟨_,_,hi⟩);exact⟨_,rfl,D6 true (by simpa using ho) hu h1 hyy h2⟩
   ·rename_i k rows hi;simp only[aD,cM]at h;obtain⟨rfl,rfl⟩:=h;obtain⟨t',a,c,h1,h2⟩:=EN hs hh hx hn.1 (.inr ⟨_,hi⟩);exact⟨_,rfl,D6 true (by simpa using ho) hu h1 hyy h2⟩
   ·cases h
  ·cases h
 ·cases h
