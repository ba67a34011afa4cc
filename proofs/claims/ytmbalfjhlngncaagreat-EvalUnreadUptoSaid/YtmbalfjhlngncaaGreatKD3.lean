/- The abstract machine, third part: operations on own memory; handing own memory on; calls. -/
import Derived.Test.YtmbalfjhlngncaaGreatKD1
set_option linter.all false
noncomputable section
namespace Go.Bw
open Go
theorem Oper.abH {P:Program} {o:Oper} {a:Act} {w:World} {K K':Act->World->Prop} {Q Q':Exit->Act->World->Prop} (h:∀a w,K a w->K' a w) (hq:∀e a w,Q e a w->Q' e a w)
  (hh:o.wp P a w K Q):o.wp P a w K' Q':=by
 unfold Oper.wp at*
 generalize (execOp a.eval o).run P w=r at*
 cases r with
 |ok n w'=>
  cases n<;>simp only[Oper.upon]at hh⊢<;>
   first
    |exact h _ _ hh
    |exact Calls.mono hh (λe w'' he=>by cases e<;>first|exact h _ _ he|exact hq _ _ _ he|exact(let⟨a,w,hz⟩:=he;⟨a,w,hq _ _ _ hz⟩))
    |exact Rows.mono hh (λ_ _ he=>h _ _ he)
 |halt x w'=>cases x<;>simp only[Oper.upon]at hh⊢<;>first|exact hh|exact hq _ _ _ hh
theorem FR {P:Program} {ops:Array Oper} {Q Q':Exit->Act->World->Prop} (hq:∀e a w,Q e a w->Q' e a w):∀{l:List Oper} {a:Act} {w:World},wpList P ops Q l a w->wpList P ops Q' l a w
 |[],_,_,h=>hq _ _ _ h
 |o::rest,a,w,h=>by
  unfold wpList at h⊢;split
  ·rename_i hw;rw[bq hw]at h;exact h.imp (Oper.abH (λ_ _ hh=>FR hq hh) hq) λ⟨h1,a,w,h2⟩=>⟨h1,a,w,hq _ _ _ h2⟩
  ·rename_i hw;rw[aN hw]at h;exact FR hq h
theorem bf.mono {C:Cx} {N:Nat} {ops:Array Oper} {rest:List Oper} {Q Q':AQ} {Z:Sg} {O:List aq} (h:bf C N ops rest Q Z O) (hq:∀e Z O,Q e Z O->Q' e Z O):bf C N ops rest Q' Z O:=λF w0 O0 a w hs hx=>
 FR (λ_ _ _ ⟨e0,Z',O',h1,h2⟩=>⟨e0,Z',O',hq _ _ _ h1,h2⟩) (h F w0 O0 a w hs hx)
theorem DO.up {E:Env} {N K:Nat} {all rest:List Oper} {Q:DQ} {ZB:Sg} {ηB:List aq} {W W':aJ} (hl:W.le W') (h:bf E.toCx N all.toArray rest (lift K W' Q) ZB ηB):bf E.toCx N all.toArray rest (lift K W Q) ZB ηB:=
 h.mono λ_ _ _ h=>p9 (hl.toK K) (λ_ _ _ h=>h) h
def Hp.push (O:Hp) (x:br):Hp:=⟨Tr.put 24 O.e O.n (some x),O.n+1⟩
def Hp.set (O:Hp) (i:Nat) (x:br):Hp:=⟨Tr.put 24 O.e i (some x),O.n⟩
def aJ.fM (W:aJ) (t b:Nat):aJ:=⟨λu=>if u=t then some b else W.b u,W.s⟩
def aJ.bj (W:aJ) (t n:Nat) (x:Option Addr×Nat):aJ:=⟨W.b,λu m=>if u=t/\m=n then some x else W.s u m⟩
theorem aJ.C4 {W:aJ} {t b:Nat} (h:W.b t=none):W.le (W.fM t b):=⟨λu x hx=>by
 have:u≠t:=λe=>by subst e;rw[h]at hx;cases hx
 simp[aJ.fM,this,hx],λ_ _ _ h=>h⟩
theorem aJ.kP {W:aJ} {t n:Nat} {x:Option Addr×Nat} (h:∀y,W.s t n=some y->y=x):W.le (W.bj t n x):=⟨λ_ _ h=>h,λu m y hy=>by
 by_cases hu:u=t/\m=n
 ·obtain⟨rfl,rfl⟩:=hu;simp[aJ.bj,h y hy]
 ·simp[aJ.bj,hu,hy]⟩
theorem YN {α:Type} {l r:List α} {i:Nat} {x:α} (h:nth l i=some x):nth (l++r) i=some x:=by
 rw[cA]at h⊢;rw[lz (b9.1 h).1];exact h
theorem HS.lt {W:aJ} {O:Hp} {ηB:List aq} (hh:HS W O ηB) {i:Nat} {x:br} (h:O.e.get i=some x):i<O.n:=by
 obtain⟨y,h1,_⟩:=hh.en i x h;rw[cA]at h1;rw[<-hh.len];exact(b9.1 h1).1
theorem HS.push {W W':aJ} {O:Hp} {ηB:List aq} (hh:HS W O ηB) (hl:W.le W') (hs:∀i,i≠O.n->W'.s i=W.s i) (hb:∀i,i≠O.n->W'.b i=W.b i) {x:br} {y:aq} (hx:lT W' O.n x y):HS W' (O.push x) (ηB++[y]):=by
 refine⟨λi z hz=>?_,by simp[Hp.push,hh.len],λt ht=>?_⟩
 ·rcases Tr.eB 24 O.e O.n i _ z hz with⟨rfl,h1⟩|⟨hne,h1⟩
  ·cases h1;exact⟨y,by rw[cA,<-hh.len];simp,hx⟩
  ·obtain⟨q,h2,h3⟩:=hh.en i z h1;exact⟨q,YN h2,h3.mono hl (hs i hne)⟩
 ·have:t≠O.n:=by simp[Hp.push]at ht;omega
  rw[hb t this,hs t this];exact hh.gQ t (by simp[Hp.push]at ht;omega)
theorem HS.set {W W':aJ} {O:Hp} {ηB:List aq} (hh:HS W O ηB) (hl:W.le W') {i:Nat} (hs:∀j,j≠i->W'.s j=W.s j) (hb:∀j,j≠i->W'.b j=W.b j) (hi:i<O.n) {x:br} {y:aq} (hx:lT W' i x y):HS W' (O.set i x) (ηB.set i y):=by
 refine⟨λj z hz=>?_,by simp[Hp.set,hh.len],λt ht=>?_⟩
 ·rcases Tr.eB 24 O.e i j _ z hz with⟨rfl,h1⟩|⟨hne,h1⟩
  ·cases h1;exact⟨y,by rw[cA];simp[hh.len,hi],hx⟩
  ·obtain⟨q,h2,h3⟩:=hh.en j z h1;exact⟨q,by rw[cA]at h2⊢;rw[BW (ij hne)];exact h2,h3.mono hl (hs j hne)⟩
 ·have:t≠i:=by simp[Hp.set]at ht;omega
  rw[hb t this,hs t this];exact hh.gQ t ht
section
variable {E:Env} {N K:Nat} {Q:DQ} {Z:TS} {O:Hp} {o:Oper} {x:CV} {all rest:List Oper}
theorem DO.vJ {cells:List CV} {d:Nat} (hg:o.guard=none) (hd:o.dst=some d) (hdN:Nat.blt d N=true) (h:∀W s ηB,SS W Z s->HS W O ηB->∃cs,aQ W cells cs/\fD E.toCx N o s ηB cs)
  (k:DO E N K all rest Q (bW Z (some d) (.own O.n 0)) (O.push (.box cells))):DO E N K all (o::rest) Q Z O:=λW ZB ηB hs hh=>by
 obtain⟨cs,h1,h2⟩:=h W _ ηB hs hh;refine bf.vJ hg hd hdN h2 λb=>?_;have hdom:=hh.gQ O.n (bS _);have hl:W.le (W.fM O.n b):=aJ.C4 hdom.1;have hbn:(W.fM O.n b).b O.n=some b:=by simp[aJ.fM]
 refine DO.up hl (k _ _ _ ((hs.mono hl).put (some d) (by simp only[aG];exact⟨b,ηB.length,hbn,rfl⟩)) ?_);exact hh.push hl (λ_ _=>rfl) (λi hi=>by simp[aJ.fM,hi]) ⟨b,cs,hbn,rfl,h1.mono hl⟩
theorem C5 {t:TypeId} {p:Operand} (ho:o.op= .box t p) (hp:aW Z p=some x):∀W s ηB,SS W Z s->HS W O ηB->∃cs,aQ W (dP x) cs/\fD E.toCx N o s ηB cs:=λW s ηB hs _=>by
 obtain⟨y,h1,h2⟩:=bY hs hp;exact⟨_,B9 h2,fD.box ho h1⟩
theorem Ci {t:TypeId} {td:TD} {sz by':Nat} {z:List Value} (ho:o.op= .alloc t) (ht:aZ E.T t=some ⟨td,sz,by',z⟩):∀W s ηB,SS W Z s->HS W O ηB->∃cs,aQ W ((z.map .v).map .d) cs/\fD E.toCx N o s ηB cs:=λ_ _ _ _ _=>
 ⟨_,iq _,fD.alloc ho ht⟩
def lU:List CV->Bool
 |[]=>true
 | .d y::r=>match eg [y]with
  |true=>lU r
  |false=>false
 | .agg _::_=>false
 | .bX _::_=>false
 |_::r=>lU r
theorem ZR {y:AV} {r:List AV} (h:eg [y]=true) (hr:eg r=true):eg (y::r)=true:=by
 cases y<;>simp_all [eg]
theorem Gc {W:aJ}:∀{xs:List CV} {ys:List AV},lU xs=true->aQ W xs ys->eg ys=true
 |[],ys,_,h=>by simp only[aQ]at h;subst h;rfl
 |x::r,ys,ho,h=>by
  simp only[aQ]at h;obtain⟨y,r',rfl,h1,h2⟩:=h;have key:lU r=true->eg [y]=true->eg (y::r')=true:=λh3 h4=>ZR h4 (Gc h3 h2);cases x with
  |d z=>
   simp only[aG]at h1;subst h1;simp only[lU]at ho;split at ho
   ·rename_i h3;exact key ho h3
   ·cases ho
  |agg xs=>cases ho
  |bX xs=>cases ho
  |own t n=>simp only[aG]at h1;obtain⟨b,t',_,rfl⟩:=h1;exact key ho rfl
  |os t n=>simp only[aG]at h1;obtain⟨a,c,t',_,rfl⟩:=h1;exact key ho rfl
  |oe t n m=>simp only[aG]at h1;obtain⟨a,c,t',_,rfl⟩:=h1;exact key ho rfl
  |om t=>simp only[aG]at h1;obtain⟨b,t',_,rfl⟩:=h1;exact key ho rfl
  |fn f fs cs=>simp only[aG]at h1;obtain⟨us,vs,rfl,_⟩:=h1;exact key ho rfl
  |bC t z=>simp only[aG]at h1;obtain⟨u,rfl,_⟩:=h1;exact key ho rfl
theorem DO.store {t:TypeId} {p v:Operand} {i off:Nat} {cs cs':List CV} {ti:TI} (hg:o.guard=none) (ho:o.op= .store t p v) (hd:o.dst=none) (hp:aW Z p=some (.own i off)) (hv:aW Z v=some x) (hi:O.e.get i=some (.box cs)) (ht:aZ E.T t=some ti)
  (hk:Nat.beq (dP x).length ti.size=true) (h1:lU (dP x)=true) (hl:lH cs off (dP x)=some cs') (k:DO E N K all rest Q Z (O.set i (.box cs'))):DO E N K all (o::rest) Q Z O:=λW ZB ηB hs hh=>by
 obtain⟨y,h2,h3⟩:=bY hs hp;simp only[aG]at h3;obtain⟨b,t',h3,rfl⟩:=h3;obtain⟨z,h4,h5⟩:=bY hs hv;obtain⟨q,h6,h7⟩:=hh.en i _ hi;obtain⟨b',us,h8,rfl,h9⟩:=h7;rw[h3]at h8;cases h8;have hc:=B9 h5;obtain⟨us',h10,h11⟩:=B1 hl h9 hc;refine bf.EY hg hd (Gv ho h2 h4 h6 ht (by rw[hc.length];exact hk) (Gc h1 hc) h10) (k W _ _ hs ?_);exact hh.set (.refl W) (λ_ _=>rfl) (λ_ _=>rfl) (hh.lt hi) ⟨b,us',h3,rfl,h11⟩
theorem DO.kp {t:TypeId} {p v:Operand} {i n m e kk:Nat} {rows:List (List AV)} {r r':List AV} {y:AV} {ti:TI} (j off:Nat) (hg:o.guard=none) (ho:o.op= .store t p v) (hd:o.dst=none) (hp:aW Z p=some (.oe i n m)) (hv:aW Z v=some (.d y)) (hi:O.e.get i=some (.row e kk rows)) (hn:n=rows.length)
  (hm:m=j*kk+off) (hr:rows[j]? =some r) (ht:aZ E.T t=some ti) (hk:Nat.beq (cg y).length ti.size=true) (h1:eg (cg y)=true) (hl:eE r off (cg y)=some r') (k:DO E N K all rest Q Z (O.set i (.row e kk (rows.set j r')))):DO E N K all (o::rest) Q Z O:=λW ZB ηB hs hh=>by
 obtain⟨z,h2,h3⟩:=bY hs hp;simp only[aG]at h3;obtain⟨a,c,t',h3,rfl⟩:=h3;obtain⟨z,h4,h5⟩:=bY hs hv;simp only[aG]at h5;subst h5;obtain⟨q,h6,h7⟩:=hh.en i _ hi;obtain⟨⟨a',c',h8,rfl⟩,h9⟩:=h7;subst hn;rw[h3]at h8;cases h8;refine bf.EY hg hd (M8 ho j off h2 hm h4 h6 hr ht hk h1 hl) (k W _ _ hs ?_);exact hh.set (.refl W) (λ_ _=>rfl) (λ_ _=>rfl) (hh.lt hi) ⟨⟨a,c,by simpa using h3,by simp⟩,by simpa using h9⟩
theorem DO.lit {d n:Nat} {t:TypeId} {parts:Array (Nat×Operand)} {ty:TypeId} {pos:String} {after:Array Edge} {e k sz by' sz' by'':Nat} {z z':List Value} {td':TD} {cells:List AV}
  (ht:aZ E.T t=some ⟨.slice e k,sz,by',z⟩) (hte:aZ E.T e=some ⟨td',sz',by'',z'⟩) (hf:eJ k (dj Z) (gP n (z'.map .v)) parts.toList=some cells) (hb:Nat.ble (n*k) 16777216=true) (hk:Nat.ble 1 k=true) (hd:Nat.blt d N=true)
  (kk:DO E N K all rest Q (bW Z (some d) (.os O.n n)) (O.push (.row e k (chunk n k cells)))):DO E N K all (⟨some d,.buildSlice t n parts,ty,pos,after,none⟩::rest) Q Z O:=λW ZB ηB hs hh=>by
 have hf':eJ k (look ZB) (gP n (z'.map .v)) parts.toList=some cells:=by
  have key:∀(l:List (Nat×Operand)) (cs r:List AV),eJ k (dj Z) cs l=some r->eJ k (look ZB) cs l=some r:=by
   intro l
   induction l with
   |nil=>intro cs r h;exact h
   |cons p l ih=>
    intro cs r h;obtain⟨i,p⟩:=p;simp only[eJ]at h⊢;split at h
    ·rename_i y hy;have hy':ev (look ZB) p=some y:=by
      cases p with
      |tmp u=>exact kv hs hy
      |const v=>exact hy
      |global g=>exact hy
      |func f=>exact hy
     simp only[hy'];split at h
     ·rename_i c1 h1 h2;exact ih _ _ h
     ·cases h
    ·cases h
  exact key _ _ _ hf
 refine bf.lit ht hte hf' hb hk hd λb=>?_;have hdom:=hh.gQ O.n (bS _);have hl:W.le (W.bj O.n n (some ⟨b,0,none⟩,n)):=aJ.kP λy hy=>by rw[hdom.2]at hy;cases hy
 have hbn:(W.bj O.n n (some ⟨b,0,none⟩,n)).s O.n n=some (some ⟨b,0,none⟩,n):=by simp[aJ.bj]
 refine DO.up hl (kk _ _ _ ((hs.mono hl).put (some d) (by simp only[aG];exact⟨_,_,ηB.length,hbn,rfl⟩)) ?_);refine hh.push hl (λi hi=>by funext m;simp[aJ.bj,hi]) (λ_ _=>rfl) ⟨⟨some ⟨b,0,none⟩,n,by rw[gH];exact hbn,by rw[gH]⟩,λm hm=>?_⟩;rw[gH]at hm;have:m≠n:=by omega
 simp only[aJ.bj,this,and_false,if_false];exact hdom.2 m
theorem DO.iR (t e k:Nat) (ht:Z.get t=some (.d (.v (.slice none 0 0)))) (kk:DO E N K all rest Q (Tr.put 24 Z t (some (.os O.n 0))) (O.push (.row e k []))):DO E N K all rest Q Z O:=λW ZB ηB hs hh=>by
 obtain⟨y,h1,h2⟩:=hs t _ ht;simp only[aG]at h2;subst h2;refine bf.iR t e k h1 ?_;have hdom:=hh.gQ O.n (bS _);have hl:W.le (W.bj O.n 0 (none,0)):=aJ.kP λy hy=>by rw[hdom.2]at hy;cases hy
 have hbn:(W.bj O.n 0 (none,0)).s O.n 0=some (none,0):=by simp[aJ.bj]
 refine DO.up hl (kk _ _ _ ((hs.mono hl).put (some t) (by simp only[aG];exact⟨_,_,ηB.length,hbn,rfl⟩)) ?_);refine hh.push hl (λi hi=>by funext m;simp[aJ.bj,hi]) (λ_ _=>rfl) ⟨⟨none,0,by simpa using hbn,by simp⟩,λm hm=>?_⟩;have:m≠0:=by simp at hm;omega
 simp only[aJ.bj,this,and_false,if_false];exact hdom.2 m
inductive jR (E:Env) (Z:TS) (O:Hp) (k:Nat):Operand->List (List AV)->Prop where
 |sl {p:Operand} {rows:List (List AV)}:aW Z p=some (.d (.sl k rows))->jR E Z O k p rows
 |EZ {p:Operand} {x:AV} {rows:List (List AV)}:aW Z p=some (.d x)->(∀w A v,Rel w A x v->Rel w A (.sl k rows) v)->jR E Z O k p rows
 |nil {p:Operand}:aW Z p=some (.d (.v (.slice none 0 0)))->jR E Z O k p []
 |row {p:Operand} {j n e:Nat} {rows:List (List AV)}:aW Z p=some (.os j n)->O.e.get j=some (.row e k rows)->n=rows.length->jR E Z O k p rows
 |fz {p:Operand} {j n:Nat} {rows:List (List AV)}:aW Z p=some (.os j n)->O.e.get j=some (.iH k rows)->n=rows.length->jR E Z O k p rows
theorem jR.ok {W:aJ} {ZB:Sg} {ηB:List aq} (hs:SS W Z (look ZB)) (hh:HS W O ηB) {k:Nat} {p:Operand} {rows:List (List AV)} (h:jR E Z O k p rows):∀F a w,St E.G N w F a ZB ηB->iT w (Al F ηB) k (a.eval p) rows:=λF a w hst=>by
 cases h with
 |sl h=>
  obtain⟨y,h1,h2⟩:=bY hs h;simp only[aG]at h2;subst h2;exact iT.sl (bz hst.sg h1)
 |EZ h hI=>
  obtain⟨y,h1,h2⟩:=bY hs h;simp only[aG]at h2;subst h2;exact iT.sl (hI _ _ _ (bz hst.sg h1))
 |nil h=>
  obtain⟨y,h1,h2⟩:=bY hs h;simp only[aG]at h2;subst h2;have:=bz hst.sg h1;simp only[Rel]at this;rw[this];exact⟨none,0,0,[],rfl,rfl,by simp[bo],λ_=>rfl,λ_ h=>by cases h⟩
 |row h h3 hn=>
  obtain⟨y,h1,h2⟩:=bY hs h;simp only[aG]at h2;obtain⟨a',c,t',h4,rfl⟩:=h2;obtain⟨q,h5,h6⟩:=hh.en _ _ h3;obtain⟨⟨a2,c2,h7,rfl⟩,_⟩:=h6;subst hn;rw[h4]at h7;cases h7;have:=bz hst.sg h1;simp only[Rel]at this;rw[this];exact iT.row (iP hst.hp h5)
 |fz h h3 hn=>
  obtain⟨y,h1,h2⟩:=bY hs h;simp only[aG]at h2;obtain⟨a',c,t',h4,rfl⟩:=h2;obtain⟨q,h5,h6⟩:=hh.en _ _ h3;obtain⟨a2,c2,h7,rfl⟩:=h6;subst hn;rw[h4]at h7;cases h7;have:=bz hst.sg h1;simp only[Rel]at this;rw[this];exact iT.sl (qg hst.hp h5)
theorem DO.append {i d n:Nat} {s p:Operand} {t:TypeId} {ty:TypeId} {pos:String} {after:Array Edge} {e k sz by' sz' by'':Nat} {z z':List Value} {td':TD} {rows rows2:List (List AV)}
  (hb:(rows++rows2).length*by''<=140737488355328) (hs':aW Z s=some (.os i n)) (hi:O.e.get i=some (.row e k rows)) (hn:n=rows.length) (hx:jR E Z O k p rows2) (ht:aZ E.T t=some ⟨.slice e k,sz,by',z⟩) (hte:aZ E.T e=some ⟨td',sz',by'',z'⟩) (h1:fb rows2=true)
  (hk:Nat.ble 1 k=true) (hby:Nat.ble 1 by''=true) (hd:Nat.blt d N=true)
  (kk:DO E N K all rest Q (bW Z (some d) (.os i (rows++rows2).length)) (O.set i (.row e k (rows++rows2)))):
  DO E N K all (⟨some d,.call {callee:= .builtin .append,args:= #[s,p],argTypes:= #[t,t]},ty,pos,after,none⟩::rest) Q Z O:=λW ZB ηB hs hh=>by
 obtain⟨y,h2,h3⟩:=bY hs hs';simp only[aG]at h3;obtain⟨a,c,t',h3,rfl⟩:=h3;obtain⟨q,h6,h7⟩:=hh.en i _ hi;obtain⟨⟨a',c',h8,rfl⟩,h9⟩:=h7;subst hn;rw[h3]at h8;cases h8;refine bf.l9 rfl hd (NX rfl ht hte h2 h6 (hx.ok hs hh) h1 hk hby hb) ?_;rintro r O' ⟨a',c',h0,rfl,rfl⟩;have hl:W.le (W.bj i (rows++rows2).length (a',c')):=aJ.kP λy hy=>by
  by_cases hz:rows2=[]
  ·subst hz;simp only[ji]at hy;rw[h3]at hy;cases hy;obtain⟨rfl,rfl⟩:=h0 rfl;rfl
  ·have:rows.length<(rows++rows2).length:=by
    have:=MO.2 hz;simp;omega
   rw[h9 _ this]at hy;cases hy
 have hbn:(W.bj i (rows++rows2).length (a',c')).s i (rows++rows2).length=some (a',c'):=by simp[aJ.bj]
 refine DO.up hl (kk _ _ _ ((hs.mono hl).put (some d) (by simp only[aG];exact⟨_,_,i,hbn,rfl⟩)) ?_);refine hh.set hl (λj hj=>by funext m;simp[aJ.bj,hj]) (λ_ _=>rfl) (hh.lt hi) ⟨⟨a',c',hbn,rfl⟩,λm hm=>?_⟩
 have hne:m≠(rows++rows2).length:=by omega
 simp only[aJ.bj,hne,and_false,if_false];exact h9 m (by simp at hm;omega)
theorem DO.Hz {i d n:Nat} {s p:Operand} {t u:TypeId} {ty:TypeId} {pos:String} {after:Array Edge} {e k sz by' sz' by'' szu byu:Nat} {z z' zu:List Value} {td':TD} {rows:List (List AV)} {b:ByteArray}
  (hb:(rows++dA b).length*by''<=140737488355328) (hs':aW Z s=some (.os i n)) (hi:O.e.get i=some (.row e k rows)) (hn:n=rows.length) (hx:aW Z p=some (.d (.v (.string b)))) (ht:aZ E.T t=some ⟨.slice e k,sz,by',z⟩) (hu:aZ E.T u=some ⟨.str,szu,byu,zu⟩) (hte:aZ E.T e=some ⟨td',sz',by'',z'⟩)
  (hk:Nat.beq k 1=true) (hby:Nat.beq by'' 1=true) (hd:Nat.blt d N=true)
  (kk:DO E N K all rest Q (bW Z (some d) (.os i (rows++dA b).length)) (O.set i (.row e k (rows++dA b)))):
  DO E N K all (⟨some d,.call {callee:= .builtin .append,args:= #[s,p],argTypes:= #[t,u]},ty,pos,after,none⟩::rest) Q Z O:=λW ZB ηB hs hh=>by
 obtain⟨y,h2,h3⟩:=bY hs hs';simp only[aG]at h3;obtain⟨a,c,t',h3,rfl⟩:=h3;obtain⟨y2,g2,g3⟩:=bY hs hx;simp only[aG]at g3;subst g3;obtain⟨q,h6,h7⟩:=hh.en i _ hi;obtain⟨⟨a',c',h8,rfl⟩,h9⟩:=h7;subst hn;rw[h3]at h8;cases h8;refine bf.l9 rfl hd (No rfl ht hu hte h2 h6 g2 hk hby hb) ?_;rintro r O' ⟨a',c',h0,rfl,rfl⟩;have hl:W.le (W.bj i (rows++dA b).length (a',c')):=aJ.kP λy hy=>by
  by_cases hz:dA b=[]
  ·rw[hz]at hy;simp only[ji]at hy;rw[h3]at hy;cases hy;obtain⟨rfl,rfl⟩:=h0 hz;rfl
  ·have:rows.length<(rows++dA b).length:=by
    have:=MO.2 hz;simp;omega
   rw[h9 _ this]at hy;cases hy
 have hbn:(W.bj i (rows++dA b).length (a',c')).s i (rows++dA b).length=some (a',c'):=by simp[aJ.bj]
 refine DO.up hl (kk _ _ _ ((hs.mono hl).put (some d) (by simp only[aG];exact⟨_,_,i,hbn,rfl⟩)) ?_);refine hh.set hl (λj hj=>by funext m;simp[aJ.bj,hj]) (λ_ _=>rfl) (hh.lt hi) ⟨⟨a',c',hbn,rfl⟩,λm hm=>?_⟩
 have hne:m≠(rows++dA b).length:=by omega
 simp only[aJ.bj,hne,and_false,if_false];exact h9 m (by simp at hm;omega)
theorem DO.make {d:Nat} {t:TypeId} {p q:Operand} {ty:TypeId} {pos:String} {after:Array Edge} {e k sz by' sz' by'':Nat} {z z':List Value} {td':TD} {kl kc:IntKind} {li ci:Int} (l c:Nat)
  (hb:c*by''<=140737488355328) (hl:l<=c) (hx:aW Z p=some (.d (.v (.int kl li)))) (hli:li=(l:Int)) (hy:aW Z q=some (.d (.v (.int kc ci)))) (hci:ci=(c:Int)) (ht:aZ E.T t=some ⟨.slice e k,sz,by',z⟩) (hte:aZ E.T e=some ⟨td',sz',by'',z'⟩)
  (hk:Nat.ble 1 k=true) (hby:Nat.ble 1 by''=true) (hd:Nat.blt d N=true)
  (kk:DO E N K all rest Q (bW Z (some d) (.os O.n l)) (O.push (.row e k (List.replicate l (z'.map .v))))):DO E N K all (⟨some d,.makeSlice t p q,ty,pos,after,none⟩::rest) Q Z O:=λW ZB ηB hs hh=>by
 obtain⟨y1,h2,h3⟩:=bY hs hx;simp only[aG]at h3;subst h3;obtain⟨y1,h4,h5⟩:=bY hs hy;simp only[aG]at h5;subst h5;refine bf.make l c hb hl h2 hli h4 hci ht hte hk hby hd λb=>?_;have hdom:=hh.gQ O.n (bS _);have hle:W.le (W.bj O.n l (some ⟨b,0,none⟩,c)):=aJ.kP λy hy=>by rw[hdom.2]at hy;cases hy
 have hbn:(W.bj O.n l (some ⟨b,0,none⟩,c)).s O.n l=some (some ⟨b,0,none⟩,c):=by simp[aJ.bj]
 refine DO.up hle (kk _ _ _ ((hs.mono hle).put (some d) (by simp only[aG];exact⟨_,_,ηB.length,hbn,rfl⟩)) ?_);refine hh.push hle (λi hi=>by funext m;simp[aJ.bj,hi]) (λ_ _=>rfl) ⟨⟨some ⟨b,0,none⟩,c,by simpa using hbn,by simp⟩,λm hm=>?_⟩;have:m≠l:=by simp at hm;omega
 simp only[aJ.bj,this,and_false,if_false];exact hdom.2 m
end
def eqs:List (Nat×Nat)->Prop
 |[]=>True
 |p::r=>p.1=p.2/\eqs r
theorem mm:∀{l r:List (Nat×Nat)},eqs (l++r)->eqs l/\eqs r
 |[],_,h=>⟨trivial,h⟩
 |_::_,_,h=>⟨⟨h.1,(mm h.2).1⟩,(mm h.2).2⟩
def cr (e:Tr br):Nat->List CV->Option (List AV×List (Nat×Nat)×List (Nat×br))
 |0,_=>none
 |_+1,[]=>some ([],[],[])
 |f+1,x::r=>match cr e f r with
  |none=>none
  |some (zs,ns,ms)=>match x with
   | .d y=>some (y::zs,ns,ms)
   | .agg ys=>match cr e f ys with
    |some (us,ns',ms')=>some (.agg us::zs,ns'++ns,ms'++ms)
    |none=>none
   | .bX ys=>match cr e f ys with
    |some (us,ns',ms')=>some (.bX us::zs,ns'++ns,ms'++ms)
    |none=>none
   | .own t o=>match e.get t with
    |some (.box cs)=>match cr e f cs with
     |some (us,ns',ms')=>some (.ip (us.drop o)::zs,ns'++ns,(t,.lj us)::(ms'++ms))
     |none=>none
    |some (.lj us)=>some (.ip (us.drop o)::zs,ns,ms)
    |_=>none
   | .os t n=>match e.get t with
    |some (.row _ k rows)=>some (.sl k rows::zs,(n,rows.length)::ns,(t,.iH k rows)::ms)
    |some (.iH k rows)=>some (.sl k rows::zs,(n,rows.length)::ns,ms)
    |_=>none
   | .fn g fs cs=>match cr e f fs,cr e f cs with
    |some (us,ns1,ms1),some (vs,ns2,ms2)=>some (.fn g us vs::zs,ns1++(ns2++ns),ms1++(ms2++ms))
    |_,_=>none
   | .bC t y=>match cr e f [y]with
    |some ([u],ns',ms')=>some (.bC t u::zs,ns'++ns,ms'++ms)
    |_=>none
   | .oe _ _ _=>none
   | .om _=>none
def fP (F:Nat->Prop) (ηB:List aq) (M:List Nat) (b:Nat):Prop:=¬F b/\∀i y,nth ηB i=some y->i∉M->b∉y.ids
theorem SR {F:Nat->Prop} {ηB:List aq} (M:List Nat) {b:Nat} (h:Al F ηB b):fP F ηB M b:=
 ⟨h.1,λi y hy _ hb=>h.2 (il.2 ⟨y,a7 (by rw[<-cA];exact hy),hb⟩)⟩
theorem CK {w:World} {F:Nat->Prop} {ηB:List aq} (M:List Nat):cS w (Al F ηB) w (fP F ηB M):=⟨bS _,λ_ _ h=>⟨SR M h,rfl⟩⟩
theorem M9:∀{l:List aq} {i j:Nat} {x y:aq} {b:Nat},(ids l).Nodup->nth l i=some x->nth l j=some y->i≠j->b∈x.ids->b∉y.ids
 |[],_,_,_,_,_,_,h,_,_,_=>by simp[nth]at h
 |z::l,0,0,_,_,_,_,_,_,hne,_=>absurd rfl hne
 |z::l,0,j+1,x,y,b,hnd,hi,hj,_,hb=>λhy=>by
  rw[cv,kg]at hnd;simp only[nth,aC]at hi hj;subst hi;exact hnd.2.2 b hb b (il.2 ⟨y,a7 (by rw[<-cA];exact hj),hy⟩) rfl
 |z::l,i+1,0,x,y,b,hnd,hi,hj,_,hb=>λhy=>by
  rw[cv,kg]at hnd;simp only[nth,aC]at hi hj;subst hj;exact hnd.2.2 b hy b (il.2 ⟨x,a7 (by rw[<-cA];exact hi),hb⟩) rfl
 |z::l,i+1,j+1,x,y,b,hnd,hi,hj,hne,hb=>by
  rw[cv,kg]at hnd;simp only[nth]at hi hj;exact M9 hnd.2.1 hi hj (λe=>hne (by rw[e])) hb
theorem S8 {G:Gl} {w:World} {F:Nat->Prop} {ηB:List aq} {M:List Nat} (hH:bG G w F ηB) {i:Nat} {x:aq} {b:Nat} (hi:nth ηB i=some x) (hM:i∈M) (hb:b∈x.ids):fP F ηB M b:=by
 refine⟨hH.free b (il.2 ⟨x,a7 (by rw[<-cA];exact hi),hb⟩),λj y hj hjM=>?_⟩;exact M9 hH.nodup hi hj (λe=>hjM (e▸hM)) hb
def rk (W:aJ) (w:World) (A:Nat->Prop):Nat×br->Prop
 |(t,.lj us)=>∃b,W.b t=some b/\Rel w A (.ip us) (.pointer (some ⟨b,0,none⟩))
 |(t,.iH k rows)=>∃a c,W.s t rows.length=some (a,c)/\Rel w A (.sl k rows) (.slice a rows.length c)
 |_=>False
section
variable {W:aJ} {O:Hp} {ηB:List aq} {w:World} {F:Nat->Prop} {G:Gl}
theorem adf {M:List Nat} (hH:bG G w F ηB) {i:Nat} {v:Value} {e k:Nat} {rows:List (List AV)} (hi:nth ηB i=some (.row v e k rows)) (hM:i∈M):Rel w (fP F ηB M) (.sl k rows) v:=by
 obtain⟨vs,h1,h2,h3⟩:=iP hH hi;simp only[Rel];rcases h3 with⟨rfl,h0⟩|⟨g,cap,cur,rfl,_,hg,hn,hcm,hcs,htake⟩
 ·exact .inl ⟨gT h0,_,_,rfl⟩
 ·refine .inr ⟨g,0,cap,vs,rfl,⟨(fS.1 hg).1,S8 hH hi hM (by simp[aq.ids,Value.ownBlock])⟩,hn,hcm,h1.keep (CK M),λj u hj=>?_⟩;rw[<-htake,eX]at hj;split at hj
  ·rw[lB];simp[World.cell?,hg];simpa using hj
  ·cases hj
theorem jt (hh:HS W O ηB) (hH:bG G w F ηB) (M:List Nat):∀(f:Nat) {xs:List CV} {zs:List AV} {ns:List (Nat×Nat)} {ms:List (Nat×br)} {ys:List AV} {vs:List Value},cr O.e f xs=some (zs,ns,ms)->eqs ns->(∀p∈ms,p.1∈M)->
  aQ W xs ys->aH w (Al F ηB) ys vs->aH w (fP F ηB M) zs vs/\∀p∈ms,rk W w (fP F ηB M) p
 |0,_,_,_,_,_,_,h,_,_,_,_=>by simp[cr]at h
 |f+1,[],zs,ns,ms,ys,vs,h,_,_,hi,hr=>by
  simp only[cr,aC,cF]at h;obtain⟨rfl,rfl,rfl⟩:=h;simp only[aQ]at hi;subst hi;simp only[aH]at hr;subst hr;exact⟨by simp[aH],by simp⟩
 |f+1,x::r,zs,ns,ms,ys,vs,h,hn,hM,hi,hr=>by
  simp only[aQ]at hi;obtain⟨y,ys,rfl,hy,hi⟩:=hi;simp only[aH]at hr;obtain⟨v,vs,rfl,hv,hr⟩:=hr;simp only[cr]at h;split at h
  ·cases h
  ·rename_i ay ns0 ms0 h0;have tail:∀{z:AV} {ms':List (Nat×br)},eqs ns0->(∀p∈ms0,p.1∈M)->Rel w (fP F ηB M) z v->(∀p∈ms',rk W w (fP F ηB M) p)->aH w (fP F ηB M) (z::ay) (v::vs)/\∀p∈ms'++ms0,rk W w (fP F ηB M) p:=by
    intro z ms' hn' hM' hz hm;obtain⟨h1,h2⟩:=jt hh hH M f h0 hn' hM' hi hr;refine⟨by simp only[aH];exact⟨_,_,rfl,hz,h1⟩,λp hp=>?_⟩;rcases bO.1 hp with hp|hp
    ·exact hm p hp
    ·exact h2 p hp
   cases x with
   |d z=>
    simp only[aC,cF]at h;obtain⟨rfl,rfl,rfl⟩:=h;simp only[aG]at hy;subst hy;simpa using tail (ms':=[]) hn hM (hv.keep (CK M)) (by simp)
   |agg ks=>
    simp only at h;split at h
    ·rename_i us ns' ms' h1;simp only[aC,cF]at h;obtain⟨rfl,rfl,rfl⟩:=h;simp only[aG]at hy;obtain⟨ws,rfl,hy⟩:=hy;simp only[Rel]at hv;obtain⟨qs,rfl,hv⟩:=hv;obtain⟨g1,g2⟩:=mm hn;obtain⟨h2,h3⟩:=jt hh hH M f h1 g1 (λp hp=>hM p (by simp[hp])) hy hv;exact tail g2 (λp hp=>hM p (by simp[hp])) (by simp only[Rel];exact⟨qs,rfl,h2⟩) h3
    ·cases h
   |bX ks=>
    simp only at h;split at h
    ·rename_i us ns' ms' h1;simp only[aC,cF]at h;obtain⟨rfl,rfl,rfl⟩:=h;simp only[aG]at hy;obtain⟨ws,rfl,hy⟩:=hy;simp only[Rel]at hv;obtain⟨qs,rfl,hv⟩:=hv;obtain⟨g1,g2⟩:=mm hn;obtain⟨h2,h3⟩:=jt hh hH M f h1 g1 (λp hp=>hM p (by simp[hp])) hy hv;exact tail g2 (λp hp=>hM p (by simp[hp])) (by simp only[Rel];exact⟨qs,rfl,h2⟩) h3
    ·cases h
   |own t off=>
    simp only[aG]at hy;obtain⟨b,t',hb,rfl⟩:=hy;simp only[Rel]at hv;subst hv;simp only at h;split at h
    ·rename_i cs hcs;split at h
     ·rename_i us ns' ms' h1;simp only[aC,cF]at h;obtain⟨rfl,rfl,rfl⟩:=h;obtain⟨q,hq1,hq2⟩:=hh.en t _ hcs;obtain⟨b',ws,hb',rfl,hws⟩:=hq2;rw[hb]at hb';cases hb';obtain⟨e,qs,hheap,hqs⟩:=iP hH hq1;obtain⟨g1,g2⟩:=mm hn;have htM:t∈M:=hM (t,.lj us) (by simp);obtain⟨h2,h3⟩:=jt hh hH M f h1 g1 (λp hp=>hM p (by simp[hp])) hws hqs;have hip:Rel w (fP F ηB M) (.ip us) (.pointer (some ⟨b,0,none⟩)):=by
       simp only[Rel];exact⟨b,0,qs,rfl,⟨(fS.1 hheap).1,S8 hH hq1 htM (by simp[aq.ids])⟩,h2,λj u hj=>by rw[lB];exact rU hheap j u hj⟩
      have:=tail (ms':=(t,.lj us)::ms') g2 (λp hp=>hM p (by simp[hp])) (hip.H3 off) (λp hp=>by
       rcases b6.1 hp with rfl|hp
       ·exact⟨b,hb,hip⟩
       ·exact h3 p hp)
      simpa using this
     ·cases h
    ·rename_i us hcs;simp only[aC,cF]at h;obtain⟨rfl,rfl,rfl⟩:=h;obtain⟨q,hq1,hq2⟩:=hh.en t _ hcs;obtain⟨b',hb',rfl⟩:=hq2;rw[hb]at hb';cases hb';have:=tail (ms':=[]) hn hM (((qg hH hq1).keep (CK M)).H3 off) (by simp);simpa using this
    ·cases h
   |os t n=>
    simp only[aG]at hy;obtain⟨a,c,t',hb,rfl⟩:=hy;simp only[Rel]at hv;subst hv;simp only at h;split at h
    ·rename_i e k rows hcs;simp only[aC,cF]at h;obtain⟨rfl,rfl,rfl⟩:=h;obtain⟨q,hq1,hq2⟩:=hh.en t _ hcs;obtain⟨⟨a',c',hb',rfl⟩,_⟩:=hq2;have hnl:n=rows.length:=hn.1;subst hnl;rw[hb]at hb';cases hb';have hsl:=adf (M:=M) hH hq1 (hM (t,.iH k rows) (by simp));have:=tail (ms':=[(t,.iH k rows)]) hn.2 (λp hp=>hM p (by simp[hp])) hsl (λp hp=>by
      simp only[gS]at hp;subst hp;exact⟨a,c,hb,hsl⟩)
     simpa using this
    ·rename_i k rows hcs;simp only[aC,cF]at h;obtain⟨rfl,rfl,rfl⟩:=h;obtain⟨q,hq1,hq2⟩:=hh.en t _ hcs;obtain⟨a',c',hb',rfl⟩:=hq2;have hnl:n=rows.length:=hn.1;subst hnl;rw[hb]at hb';cases hb';have:=tail (ms':=[]) hn.2 hM ((qg hH hq1).keep (CK M)) (by simp);simpa using this
    ·cases h
   |fn g fs cs=>
    simp only at h;split at h
    ·rename_i us ns1 ms1 us2 ns2 ms2 h1 h2;simp only[aC,cF]at h;obtain⟨rfl,rfl,rfl⟩:=h;simp only[aG]at hy;obtain⟨ws,ws2,rfl,hy,hy2⟩:=hy;simp only[Rel]at hv;obtain⟨qs,qs2,rfl,hv,hv2⟩:=hv;obtain⟨g1,g2⟩:=mm hn;obtain⟨g2,g3⟩:=mm g2;obtain⟨h3,h4⟩:=jt hh hH M f h1 g1 (λp hp=>hM p (by simp[hp])) hy hv;obtain⟨h5,h6⟩:=jt hh hH M f h2 g2 (λp hp=>hM p (by simp[hp])) hy2 hv2;have:=tail (ms':=ms1++ms2) g3 (λp hp=>hM p (by simp[hp])) (z:= .fn g us us2) (by simp only[Rel];exact⟨qs,qs2,rfl,h3,h5⟩) (λp hp=>by
      rcases bO.1 hp with hp|hp
      ·exact h4 p hp
      ·exact h6 p hp)
     simpa using this
    ·cases h
   |bC t k=>
    simp only at h;split at h
    ·rename_i u ns' ms' h1;simp only[aC,cF]at h;obtain⟨rfl,rfl,rfl⟩:=h;simp only[aG]at hy;obtain⟨z,rfl,hy⟩:=hy;simp only[Rel]at hv;obtain⟨q,rfl,hv⟩:=hv;obtain⟨g1,g2⟩:=mm hn;obtain⟨h2,h3⟩:=jt hh hH M f (ys:=[z]) (vs:=[q]) h1 g1 (λp hp=>hM p (by simp[hp])) (by simp only[aQ];exact⟨_,_,rfl,hy,rfl⟩) (by simp only[aH];exact⟨_,_,rfl,hv,rfl⟩);simp only[aH]at h2;obtain⟨q',_,h4,h5,rfl⟩:=h2;cases h4;exact tail g2 (λp hp=>hM p (by simp[hp])) (by simp only[Rel];exact⟨q,rfl,h5⟩) h3
    ·cases h
   |oe t n off=>cases h
   |om t=>cases h
end
def iw:List (Nat×br)->Hp->Hp
 |[],O=>O
 |(t,e)::r,O=>(iw r O).set t e
def xJ (W:aJ) (t:Nat):br->aq
 | .lj us=> .fact (.ip us) (.pointer (some ⟨(W.b t).getD 0,0,none⟩))
 | .iH k rows=> .fact (.sl k rows) (.slice ((W.s t rows.length).getD (none,0)).1 rows.length ((W.s t rows.length).getD (none,0)).2)
 |_=> .gone
def eL (W:aJ):List (Nat×br)->List aq->List aq
 |[],l=>l
 |(t,e)::r,l=>(eL W r l).set t (xJ W t e)
theorem Y4 {W:aJ}:∀(ms:List (Nat×br)) (l:List aq),(eL W ms l).length=l.length
 |[],_=>rfl
 |(t,e)::r,l=>by simp[eL,Y4 r l]
theorem NY {W:aJ} {t:Nat} {e:br}:(xJ W t e).ids=[]:=by cases e<;>rfl
theorem Np {x:aq} (hx:x.ids=[]):∀(l:List aq) (i:Nat),(ids (l.set i x)).Sublist (ids l)
 |[],_=>by simp
 |y::l,0=>by simp only[BS,cv,hx,pO];exact akl _ _
 |y::l,i+1=>by simp only[pT,cv];exact akm (FB _) (Np hx l i)
theorem wJ {W:aJ}:∀(ms:List (Nat×br)) (l:List aq),(ids (eL W ms l)).Sublist (ids l)
 |[],_=>FB _
 |(t,e)::r,l=>(Np NY _ _).trans (wJ r l)
theorem Gx {W:aJ}:∀(ms:List (Nat×br)) (l:List aq) (i:Nat) (x:aq),nth (eL W ms l) i=some x->(nth l i=some x/\i∉ms.map (·.1))\/∃e,(i,e)∈ms/\x=xJ W i e
 |[],_,_,_,h=> .inl ⟨h,by simp⟩
 |(t,e)::r,l,i,x,h=>by
  simp only[eL]at h;by_cases hti:t=i
  ·subst hti;rw[cA]at h;have hlt:t<(eL W r l).length:=by
    have:=(b9.1 h).1;simpa using this
   rw[MP hlt]at h;cases h;exact .inr ⟨e,by simp,rfl⟩
  ·rw[cA,BW hti,<-cA]at h;rcases Gx r l i x h with⟨h1,h2⟩|⟨e',h1,h2⟩
   ·exact .inl ⟨h1,by simp only[dg,b6,not_or];exact⟨λe=>hti e.symm,h2⟩⟩
   ·exact .inr ⟨e',by simp[h1],h2⟩
section
variable {W:aJ} {O:Hp} {ηB:List aq} {w:World} {F:Nat->Prop} {G:Gl}
theorem aau {ms:List (Nat×br)} {b:Nat} (h:fP F ηB (ms.map (·.1)) b):Al F (eL W ms ηB) b:=by
 refine⟨h.1,λhb=>?_⟩;obtain⟨x,hx,hb⟩:=il.1 hb;obtain⟨i,hi⟩:=jk hx;rw[<-cA]at hi;rcases Gx ms ηB i x hi with⟨h1,h2⟩|⟨e,_,rfl⟩
 ·exact h.2 i x h1 h2 hb
 ·rw[NY]at hb;cases hb
theorem si {ms:List (Nat×br)}:cS w (fP F ηB (ms.map (·.1))) w (Al F (eL W ms ηB)):=⟨bS _,λ_ _ h=>⟨aau h,rfl⟩⟩
theorem CJ (hH:bG G w F ηB) {ms:List (Nat×br)} (hm:∀p∈ms,rk W w (fP F ηB (ms.map (·.1))) p):bG G w F (eL W ms ηB):=by
 refine hH.facts (wJ ms ηB) λx hx=>?_;obtain⟨i,hi⟩:=jk hx;rw[<-cA]at hi;rcases Gx ms ηB i x hi with⟨h1,_⟩|⟨e,h1,rfl⟩
 ·exact .inl (a7 (by rw[<-cA];exact h1))
 ·right;have h2:=hm _ h1;cases e<;>first|exact h2.elim|skip
  ·obtain⟨b,h3,h4⟩:=h2;exact⟨_,_,rfl,by simp only[h3,Yz];exact h4.keep si⟩
  ·obtain⟨a,c,h3,h4⟩:=h2;exact⟨_,_,rfl,by simp only[h3,Yz];exact h4.keep si⟩
theorem Pr:∀(ms:List (Nat×br)) (O:Hp),(iw ms O).n=O.n
 |[],_=>rfl
 |(t,e)::r,O=>by simp[iw,Hp.set,Pr r O]
theorem Cn (hh:HS W O ηB):∀{ms:List (Nat×br)},(∀p∈ms,p.1<O.n/\rk W w F p)->HS W (iw ms O) (eL W ms ηB)
 |[],_=>hh
 |(t,e)::r,hm=>by
  have ih:=Cn (ms:=r) hh λp hp=>hm p (by simp[hp]);obtain⟨h1,h2⟩:=hm (t,e) (by simp);refine ih.set (.refl W) (λ_ _=>rfl) (λ_ _=>rfl) (by rw[Pr];exact h1) ?_
  cases e<;>first|exact h2.elim|skip
  ·obtain⟨b,h3,_⟩:=h2;exact⟨b,h3,by simp[xJ,h3]⟩
  ·obtain⟨a,c,h3,_⟩:=h2;exact⟨a,c,h3,by simp[xJ,h3]⟩
theorem rk.lt (hh:HS W O ηB) {A:Nat->Prop} {p:Nat×br} (h:rk W w A p):p.1<O.n:=by
 obtain⟨t,e⟩:=p;cases e<;>first|exact h.elim|skip
 ·obtain⟨b,h1,_⟩:=h;rcases mh t O.n with h2|h2
  ·exact h2
  ·rw[(hh.gQ t h2).1]at h1;cases h1
 ·obtain⟨a,c,h1,_⟩:=h;rcases mh t O.n with h2|h2
  ·exact h2
  ·rw[(hh.gQ t h2).2]at h1;cases h1
theorem aH.one {A:Nat->Prop} {x:AV} {v:Value} (h:Rel w A x v):aH w A [x] [v]:=by simp only[aH];exact⟨_,_,rfl,h,rfl⟩
theorem aH.D6 {A:Nat->Prop} {x:AV} {v:Value} (h:aH w A [x] [v]):Rel w A x v:=by
 simp only[aH]at h;obtain⟨v',r,h1,h2,h3⟩:=h;cases h1;exact h2
theorem aQ.one {x:CV} {y:AV} (h:aG W x y):aQ W [x] [y]:=by simp only[aQ];exact⟨_,_,rfl,h,rfl⟩
end
section
variable {E:Env} {N K:Nat} {Q:DQ} {Z:TS} {O:Hp} {o:Oper} {x:CV} {all rest:List Oper}
theorem DO.cC {t:Nat} {z:AV} {ns:List (Nat×Nat)} {ms:List (Nat×br)} (f:Nat) (hx:Z.get t=some x) (hf:cr O.e f [x]=some ([z],ns,ms)) (hn:eqs ns) (k:DO E N K all rest Q (Tr.put 24 Z t (some (.d z))) (iw ms O)):DO E N K all rest Q Z O:=λW ZB ηB hs hh=>by
 obtain⟨y,h1,h2⟩:=hs t x hx;intro F w0 O0 a w hst hxt;have hv:=(hst.sg.2 t y h1).2;obtain⟨h3,h4⟩:=jt hh hst.hp (ms.map (·.1)) f hf hn (λp hp=>dE.2 ⟨p,hp,rfl⟩) (aQ.one h2) (aH.one hv);have h3:=h3.D6;have hHS:HS W (iw ms O) (eL W ms ηB):=Cn (w:=w) (F:=fP F ηB (ms.map (·.1))) hh λp hp=>⟨(h4 p hp).lt hh,h4 p hp⟩;have hHO:bG E.G w F (eL W ms ηB):=CJ hst.hp h4;have hsub:∀b∈ids (eL W ms ηB),b∈ids ηB:=λb hb=>(wJ ms ηB).subset hb;have hkeep:cS w (Al F ηB) w (Al F (eL W ms ηB)):=cS.sub hsub;refine k W ((t,z)::ZB) (eL W ms ηB) (hs.put (some t) (x:= .d z) (y:=z) rfl) hHS F w0 O0 a w ⟨⟨hst.sg.1,λu q hq=>?_⟩,hHO,hst.df⟩ (hxt.trans ⟨rfl,rfl,rfl,bS _,λ_ _ _=>rfl,λb hb=> .inl (hsub b hb),bS _⟩);simp only[look]at hq;cases hb:Nat.beq t u with
 |true=>
  rw[hb]at hq;simp only[aC]at hq;subst hq;rw[<-bI hb];exact⟨(hst.sg.2 t y h1).1,h3.keep si⟩
 |false=>
  rw[hb]at hq;exact⟨(hst.sg.2 u q hq).1,(hst.sg.2 u q hq).2.keep hkeep⟩
theorem DC.cC {t:Nat} {z:AV} {ns:List (Nat×Nat)} {ms:List (Nat×br)} (f:Nat) (hx:Z.get t=some x) (hf:cr O.e f [x]=some ([z],ns,ms)) (hn:eqs ns) {c:Code} (k:DC E N K c Q (Tr.put 24 Z t (some (.d z))) (iw ms O)):DC E N K c Q Z O:=λW ZB ηB hs hh=>by
 obtain⟨y,h1,h2⟩:=hs t x hx;intro F w0 O0 a w hst hxt;have hv:=(hst.sg.2 t y h1).2;obtain⟨h3,h4⟩:=jt hh hst.hp (ms.map (·.1)) f hf hn (λp hp=>dE.2 ⟨p,hp,rfl⟩) (aQ.one h2) (aH.one hv);have h3:=h3.D6;have hHS:HS W (iw ms O) (eL W ms ηB):=Cn (w:=w) (F:=fP F ηB (ms.map (·.1))) hh λp hp=>⟨(h4 p hp).lt hh,h4 p hp⟩;have hHO:bG E.G w F (eL W ms ηB):=CJ hst.hp h4;have hsub:∀b∈ids (eL W ms ηB),b∈ids ηB:=λb hb=>(wJ ms ηB).subset hb;have hkeep:cS w (Al F ηB) w (Al F (eL W ms ηB)):=cS.sub hsub;refine k W ((t,z)::ZB) (eL W ms ηB) (hs.put (some t) (x:= .d z) (y:=z) rfl) hHS F w0 O0 a w ⟨⟨hst.sg.1,λu q hq=>?_⟩,hHO,hst.df⟩ (hxt.trans ⟨rfl,rfl,rfl,bS _,λ_ _ _=>rfl,λb hb=> .inl (hsub b hb),bS _⟩);simp only[look]at hq;cases hb:Nat.beq t u with
 |true=>
  rw[hb]at hq;simp only[aC]at hq;subst hq;rw[<-bI hb];exact⟨(hst.sg.2 t y h1).1,h3.keep si⟩
 |false=>
  rw[hb]at hq;exact⟨(hst.sg.2 u q hq).1,(hst.sg.2 u q hq).2.keep hkeep⟩
def bV (z y:AV):Prop:=∀w A v,Rel w A z v->Rel w A y v
inductive b8:List AV->List AV->Prop where
 |nil:b8 [] []
 |cons {x y:AV} {xs ys:List AV}:bV x y->b8 xs ys->b8 (x::xs) (y::ys)
theorem bV.refl (x:AV):bV x x:=λ_ _ _ h=>h
theorem b8.refl:∀(xs:List AV),b8 xs xs
 |[]=> .nil
 |x::xs=> .cons (.refl x) (b8.refl xs)
theorem b8.rel {w:World} {A:Nat->Prop}:∀{xs ys:List AV} {vs:List Value},b8 xs ys->aH w A xs vs->aH w A ys vs
 |_,_,_,.nil,h=>h
 |_,_,_,.cons h t,hr=>by
  simp only[aH]at hr⊢;obtain⟨v,r,rfl,h1,h2⟩:=hr;exact⟨v,r,rfl,h _ _ _ h1,b8.rel t h2⟩
theorem bV.nil (k:Nat):bV (.v (.slice none 0 0)) (.sl k []):=λw A v h=>by
 simp only[Rel]at h⊢;subst h;exact .inl ⟨trivial,_,_,rfl⟩
theorem bV.agg {xs ys:List AV} (h:b8 xs ys):bV (.agg xs) (.agg ys):=λw A v hr=>by
 simp only[Rel]at hr⊢;obtain⟨vs,rfl,h1⟩:=hr;exact⟨vs,rfl,h.rel h1⟩
theorem bV.bX {xs ys:List AV} (h:b8 xs ys):bV (.bX xs) (.bX ys):=λw A v hr=>by
 simp only[Rel]at hr⊢;obtain⟨vs,rfl,h1⟩:=hr;exact⟨vs,rfl,h.rel h1⟩
theorem bV.ip {xs ys:List AV} (h:b8 xs ys):bV (.ip xs) (.ip ys):=λw A v hr=>by
 simp only[Rel]at hr⊢;obtain⟨b,o,vs,e1,e2,e3,e4⟩:=hr;exact⟨b,o,vs,e1,e2,h.rel e3,e4⟩
theorem bV.fn {f:FuncId} {fs fs' cs cs':List AV} (h:b8 fs fs') (g:b8 cs cs'):bV (.fn f fs cs) (.fn f fs' cs'):=λw A v hr=>by
 simp only[Rel]at hr⊢;obtain⟨us,vs,e,h1,h2⟩:=hr;exact⟨us,vs,e,h.rel h1,g.rel h2⟩
theorem bV.bC {t:TypeId} {x y:AV} (h:bV x y):bV (.bC t x) (.bC t y):=λw A v hr=>by
 simp only[Rel]at hr⊢;obtain⟨u,e,h1⟩:=hr;exact⟨u,e,h _ _ _ h1⟩
inductive du:List (List AV)->List (List AV)->Prop where
 |nil:du [] []
 |cons {x y:List AV} {xs ys:List (List AV)}:b8 x y->du xs ys->du (x::xs) (y::ys)
theorem b8.length {xs ys:List AV} (h:b8 xs ys):ys.length=xs.length:=by induction h with|nil=>rfl|cons _ _ ih=>simp[ih]
theorem du.length {xs ys:List (List AV)} (h:du xs ys):ys.length=xs.length:=by induction h with|nil=>rfl|cons _ _ ih=>simp[ih]
theorem du.refl:∀(xs:List (List AV)),du xs xs
 |[]=> .nil
 |x::xs=> .cons (.refl x) (du.refl xs)
theorem du.rel {w:World} {A:Nat->Prop} {k:Nat}:∀{xs ys:List (List AV)} {vs:List Value},du xs ys->bo w A k xs vs->bo w A k ys vs
 |_,_,_,.nil,h=>h
 |_,_,_,.cons h t,hr=>by
  simp only[bo]at hr⊢;obtain⟨v1,v2,rfl,h0,h1,h2⟩:=hr;exact⟨v1,v2,rfl,by rw[h.length];exact h0,h.rel h1,du.rel t h2⟩
theorem bV.sl {k:Nat} {xs ys:List (List AV)} (h:du xs ys):bV (.sl k xs) (.sl k ys):=λw A v hr=>by
 simp only[Rel]at hr⊢;rcases hr with⟨rfl,h1⟩|⟨b,o,cap,vs,e1,e2,e3,e4,e5,e6⟩
 ·cases h;exact .inl ⟨rfl,h1⟩
 ·exact .inr ⟨b,o,cap,vs,by rw[h.length];exact e1,e2,by rw[h.length];exact e3,e4,h.rel e5,e6⟩
theorem du.append {xs ys xs' ys':List (List AV)} (h:du xs ys) (g:du xs' ys'):du (xs++xs') (ys++ys'):=by
 induction h with
 |nil=>exact g
 |cons h _ ih=>exact .cons h ih
theorem bV.trans {x y z:AV} (h:bV x y) (g:bV y z):bV x z:=λw A v hr=>g w A v (h w A v hr)
def cZ:AV->Bool
 | .v _=>true
 | .agg xs=>go xs
 | .bX xs=>go xs
 | .bC _ x=>cZ x
 |_=>false
where go:List AV->Bool
 |[]=>true
 |x::r=>match cZ x with
  |true=>go r
  |false=>false
mutual
theorem B' {w:World} {A A':Nat->Prop}:∀{x:AV} {v:Value},cZ x=true->Rel w A x v->Rel w A' x v
 | .v _,_,_,h=>by simp only[Rel]at h⊢;exact h
 | .agg xs,_,hf,h=>by simp only[Rel]at h⊢;obtain⟨vs,e,h1⟩:=h;exact⟨vs,e,FQ (by simpa[cZ]using hf) h1⟩
 | .bX xs,_,hf,h=>by simp only[Rel]at h⊢;obtain⟨vs,e,h1⟩:=h;exact⟨vs,e,FQ (by simpa[cZ]using hf) h1⟩
 | .bC t x,_,hf,h=>by simp only[Rel]at h⊢;obtain⟨u,e,h1⟩:=h;exact⟨u,e,B' (by simpa[cZ]using hf) h1⟩
 | .sl _ _,_,hf,_=>by simp[cZ]at hf
 | .ip _,_,hf,_=>by simp[cZ]at hf
 | .own _ _ _,_,hf,_=>by simp[cZ]at hf
 | .os _ _ _ _,_,hf,_=>by simp[cZ]at hf
 | .oe _ _ _,_,hf,_=>by simp[cZ]at hf
 | .om _ _,_,hf,_=>by simp[cZ]at hf
 | .fn _ _ _,_,hf,_=>by simp[cZ]at hf
theorem FQ {w:World} {A A':Nat->Prop}:∀{xs:List AV} {vs:List Value},cZ.go xs=true->aH w A xs vs->aH w A' xs vs
 |[],_,_,h=>by simp only[aH]at h⊢;exact h
 |x::r,_,hf,h=>by
  simp only[cZ.go]at hf;split at hf
  ·rename_i hx;simp only[aH]at h⊢;obtain⟨v,r',e,h1,h2⟩:=h;exact⟨v,r',e,B' hx h1,FQ hf h2⟩
  ·cases hf
end
def dz (Z:TS) (f:Operand) (args:List Operand):Option (FuncId×List CV):=
 match aW Z f,rl Z args with
 |some (.d (.v (.func (.func g) fa cs))),some xs=>some (g,(fa.toList.map .v).map .d++xs++(cs.toList.map .v).map .d)
 |some (.d (.fn g fs cs)),some xs=>some (g,fs.map .d++xs++cs.map .d)
 |some (.fn g fs cs),some xs=>some (g,fs++xs++cs)
 |_,_=>none
theorem nh {W:aJ} {s:Sl} (hs:SS W Z s) {f:Operand} {args:List Operand} {g:FuncId} {cs:List CV} (h:dz Z f args=some (g,cs)):∃ys,callee s f args=some (g,ys)/\aQ W cs ys:=by
 unfold dz at h;split at h
 ·rename_i g' fa qs xs h1 h2;simp only[aC,cF]at h;obtain⟨rfl,rfl⟩:=h;obtain⟨y,h3,h4⟩:=bY hs h1;simp only[aG]at h4;subst h4;obtain⟨ys,h5,h6⟩:=sy hs h2;exact⟨_,by simp only[callee,h3,h5],((iq _).append h6).append (iq _)⟩
 ·rename_i g' fs qs xs h1 h2;simp only[aC,cF]at h;obtain⟨rfl,rfl⟩:=h;obtain⟨y,h3,h4⟩:=bY hs h1;simp only[aG]at h4;subst h4;obtain⟨ys,h5,h6⟩:=sy hs h2;exact⟨_,by simp only[callee,h3,h5],((iq _).append h6).append (iq _)⟩
 ·rename_i g' fs qs xs h1 h2;simp only[aC,cF]at h;obtain⟨rfl,rfl⟩:=h;obtain⟨y,h3,h4⟩:=bY hs h1;simp only[aG]at h4;obtain⟨us,vs,rfl,h4,h4'⟩:=h4;obtain⟨ys,h5,h6⟩:=sy hs h2;exact⟨_,by simp only[callee,h3,h5],(h4.append h6).append h4'⟩
 ·cases h
theorem Gw {W:aJ} {ηB:List aq} {w:World} {F:Nat->Prop} {g:FuncId} {cs:List CV} {ys xs' xs:List AV} {vs:List Value} {ns:List (Nat×Nat)} {ms:List (Nat×br)} {res:AR} (fl:Nat) (h:Pure E.toCx g xs res)
  (hf:cr O.e fl cs=some (xs',ns,ms)) (hn:eqs ns) (hi:b8 xs' xs) (hl:ms=[]\/(match res with| .ret x=>cZ x| .aO x=>cZ x)=true) (hh:HS W O ηB) (hH:bG E.G w F ηB) (hcs:aQ W cs ys) (hr:aH w (Al F ηB) ys vs):
  Calls E.P g vs.toArray w λe w'=>AR.rel w' (Al F ηB) res e/\gZ w w':=by
 obtain⟨h3,h4⟩:=jt hh hH (ms.map (·.1)) fl hf hn (λp hp=>dE.2 ⟨p,hp,rfl⟩) hcs hr;have hHO:bG E.G w F (eL W ms ηB):=CJ hH h4;have hx:=hi.rel h3;have hx':aH w (Al F (eL W ms ηB)) xs vs:=hx.keep si;refine(h.run hHO hx').mono ?_;rintro e w' ⟨hv,_,hext,hsame⟩;refine⟨?_,⟨hext.os,hext.drawn⟩,hext.tape,hext.output,hext.size,hsame⟩;rcases hl with rfl|hl
 ·exact hv
 ·cases res with
  |ret x=>obtain⟨v,rfl,hv⟩:=hv;exact⟨v,rfl,B' hl hv⟩
  |aO x=>obtain⟨v,rfl,hv⟩:=hv;exact⟨v,rfl,B' hl hv⟩
theorem bd.pure {f:Operand} {args:List Operand} {g:FuncId} {cs:List CV} {xs' xs:List AV} {ns:List (Nat×Nat)} {ms:List (Nat×br)} {res:AV} {tys:Array TypeId} (fl:Nat) (ho:o.op= .call {callee:= .value f,args:=args.toArray,argTypes:=tys})
  (h:Pure E.toCx g xs (.ret res)) (hc:dz Z f args=some (g,cs)) (hf:cr O.e fl cs=some (xs',ns,ms)) (hn:eqs ns) (hi:b8 xs' xs) (hl:ms=[]\/cZ res=true):bd E N o Z O (.d res):=λW s ηB hs hh=>by
 obtain⟨ys,hcal,hcs⟩:=nh hs hc;refine⟨res,rfl,λF w a hN _ hH hopd K' Q' k=>?_⟩;have hmem:∀p,p=f\/p∈args->p∈o.op.operands.toList:=by
  rintro p hp;rw[ho];rcases hp with rfl|hp
  ·simp[Op.operands,Call.operands]
  ·simp[Op.operands,Call.operands,hp]
 have hc':callee (look (dG s (tmpsOf o))) f args=some (g,ys):=by
  unfold callee at hcal⊢;rw[fc (hmem f (.inl rfl)),sA λp hp=>fc (hmem p (.inr hp))];exact hcal
 have hsl:eS w (Al F ηB) N a (look (dG s (tmpsOf o))):=⟨hN,λt y hy=>by obtain⟨h1,h2⟩:=ki hy;exact hopd t h1 y h2⟩;obtain⟨vs,h1,h2⟩:=sk (P:=E.P) hsl hc' (tys:=tys) (dst:=o.dst) (ty:=o.type) (pos:=o.pos) (after:=o.after) (gd:=o.guard) h.1;have ho':o=⟨o.dst,.call {callee:= .value f,args:=args.toArray,argTypes:=tys},o.type,o.pos,o.after,o.guard⟩:=by rw[<-ho]
 rw[<-ho']at h2;unfold Oper.wp;rw[h2 w,Oper.upon_enter];refine(Gw fl h hf hn hi hl hh hH hcs h1).mono ?_;rintro e w' ⟨⟨v,rfl,hv⟩,hcls⟩;exact k v w' hv hcls
theorem DO.pure {dst:Option Nat} {f:Operand} {args:List Operand} {g:FuncId} {cs:List CV} {xs' xs:List AV} {ns:List (Nat×Nat)} {ms:List (Nat×br)} {res:AV} {tys:Array TypeId} {ty:TypeId} {pos:String} {after:Array Edge} (fl:Nat)
  (h:Pure E.toCx g xs (.ret res)) (hc:dz Z f args=some (g,cs)) (hf:cr O.e fl cs=some (xs',ns,ms)) (hn:eqs ns) (hi:b8 xs' xs) (hl:ms=[]\/cZ res=true) (hd:cw N dst=true)
  (k:DO E N K all rest Q (bW Z dst (.d res)) O):DO E N K all (⟨dst,.call {callee:= .value f,args:=args.toArray,argTypes:=tys},ty,pos,after,none⟩::rest) Q Z O:=
 DO.nX rfl hd (bd.pure fl rfl h hc hf hn hi hl) k
theorem DO.sR {dst:Option Nat} {f:Operand} {args:List Operand} {g:FuncId} {cs:List CV} {xs' xs:List AV} {ns:List (Nat×Nat)} {ms:List (Nat×br)} {res:AV} {tys:Array TypeId} {ty:TypeId} {pos:String} {after:Array Edge} (fl:Nat)
  (h:Pure E.toCx g xs (.aO res)) (hc:dz Z f args=some (g,cs)) (hf:cr O.e fl cs=some (xs',ns,ms)) (hn:eqs ns) (hi:b8 xs' xs) (hl:ms=[]\/cZ res=true)
  (k:Q (.aO (.d res)) .lf O):DO E N K all (⟨dst,.call {callee:= .value f,args:=args.toArray,argTypes:=tys},ty,pos,after,none⟩::rest) Q Z O:=λW ZB ηB hs hh=>by
 obtain⟨ys,hcal,hcs⟩:=nh hs hc;intro F w0 O0 a w hst hxt;unfold wpList;rw[bq (by simp[Region.wanted])];refine .inl ?_;obtain⟨vs,h1,h2⟩:=sk (P:=E.P) hst.sg hcal (tys:=tys) (dst:=dst) (ty:=ty) (pos:=pos) (after:=after) (gd:=none) h.1;unfold Oper.wp;rw[h2 w,Oper.upon_enter];refine(Gw fl h hf hn hi hl hh hst.hp hcs h1).mono ?_;rintro e w' ⟨⟨v,rfl,hv⟩,hcls⟩;refine⟨.aO res,[],ηB,⟨W,.aO (.d res),.lf,O,.refl K W,⟨res,rfl,rfl⟩,λt x hx=>by simp[Tr.ku]at hx,hh,k⟩,⟨v,rfl,hv⟩,⟨⟨hst.sg.1,λt x hx=>by simp[AE.sl,look]at hx⟩,hst.hp.later hcls.2.2.2,hst.df⟩,hxt.trans hcls.ext⟩
inductive DR where
 |ret (x:CV)
 |aO (x:CV)
def DR.inst (W:aJ):DR->AR->Prop
 | .ret x,r=>∃y,r= .ret y/\aG W x y
 | .aO x,r=>∃y,r= .aO y/\aG W x y
def Uj (K:Nat) (W:aJ) (Q:DR->Hp->Prop):AR->List aq->Prop:=λr ηB=>∃W' d O,aJ.fQ K W W'/\DR.inst W' d r/\HS W' O ηB/\Q d O
def eH (E:Env) (g:FuncId) (args:List CV) (O:Hp) (Q:DR->Hp->Prop):Prop:=∀W ys ηB,aQ W args ys->HS W O ηB->iA E.toCx g ys ηB (Uj O.n W Q)
theorem HS.fQ {W W':aJ} {ηB:List aq} (hh:HS W O ηB) (h:aJ.fQ O.n W W'):W.le W':=by
 refine⟨λt x hx=>?_,λt n x hx=>?_⟩
 ·rcases mh t O.n with h1|h1
  ·exact(h t h1).1 x hx
  ·rw[(hh.gQ t h1).1]at hx;cases hx
 ·rcases mh t O.n with h1|h1
  ·exact(h t h1).2 n x hx
  ·rw[(hh.gQ t h1).2]at hx;cases hx
theorem DO.call {dst:Option Nat} {f:Operand} {args:List Operand} {g:FuncId} {cs:List CV} {Q':DR->Hp->Prop} {tys:Array TypeId} {ty:TypeId} {pos:String} {after:Array Edge}
  (h:eH E g cs O Q') (hc:dz Z f args=some (g,cs)) (hd:cw N dst=true) (k1:∀x O',Q' (.ret x) O'->DO E N K all rest Q (bW Z dst x) O') (k2:∀x O',Q' (.aO x) O'->Q (.aO x) .lf O'):
  DO E N K all (⟨dst,.call {callee:= .value f,args:=args.toArray,argTypes:=tys},ty,pos,after,none⟩::rest) Q Z O:=λW ZB ηB hs hh=>by
 obtain⟨ys,h1,h2⟩:=nh hs hc;refine bf.ae1 (h W ys ηB h2 hh) h1 hd ?_ ?_
 ·rintro y OB' ⟨W',r,O',h3,h4,h5,h6⟩;have hl:=hh.fQ h3;cases r with
  |ret x=>
   obtain⟨y',e,h4⟩:=h4;cases e;exact DO.up hl (k1 x O' h6 W' _ OB' ((hs.mono hl).put dst h4) h5)
  |aO x=>obtain⟨y',e,_⟩:=h4;cases e
 ·rintro y OB' ⟨W',r,O',h3,h4,h5,h6⟩;have hl:=hh.fQ h3;cases r with
  |ret x=>obtain⟨y',e,_⟩:=h4;cases e
  |aO x=>
   obtain⟨y',e,h4⟩:=h4;cases e;exact⟨W',.aO x,.lf,O',hl.toK K,⟨y,rfl,h4⟩,λt x hx=>by simp[Tr.ku]at hx,h5,k2 x O' h6⟩
def iv:Nat->List CV->TS
 |_,[]=> .lf
 |n,x::xs=>Tr.put 24 (iv (n+1) xs) n (some x)
theorem OC {W:aJ}:∀{xs:List CV} {ys:List AV} (n:Nat),aQ W xs ys->SS W (iv n xs) (look (pz n ys))
 |[],ys,n,_=>λt x hx=>by simp[iv,Tr.ku]at hx
 |x::xs,ys,n,h=>by
  simp only[aQ]at h;obtain⟨y,r,rfl,h1,h2⟩:=h;have:=OC (n+1) h2;exact this.put (some n) h1
def Iu (T:bZ) (Z:TS) (O:Hp):ResultVar->Option CV
 | .tmp t=>Z.get t
 | .cell a t=>match Z.get a,aZ T t with
  |some (.own i 0),some ⟨d,k,_,_⟩=>match O.e.get i with
   |some (.box cs)=>match d.agg with
    |true=>match Nat.ble k cs.length with
     |true=>some (uJ (cs.take k))
     |false=>none
    |false=>nth cs 0
   |_=>none
  |some (.d (.ip cs)),some ⟨d,k,_,_⟩=>match d.agg,fits cs k with
   |true,true=>some (.d (.agg (cs.take k)))
   |_,_=>none
  |_,_=>none
def eh (T:bZ) (Z:TS) (O:Hp):List ResultVar->Option (List CV)
 |[]=>some []
 |r::rs=>match Iu T Z O r,eh T Z O rs with
  |some x,some xs=>some (x::xs)
  |_,_=>none
def ff:List CV->CV
 |[x]=>x
 |xs=>Iv xs
theorem abG {W:aJ} {ZB:Sg} {ηB:List aq} {T:bZ} (hs:SS W Z (look ZB)) (hh:HS W O ηB) {r:ResultVar} (h:Iu T Z O r=some x):∃y,pt T ZB ηB r y/\aG W x y:=by
 cases r with
 |tmp t=>obtain⟨y,h1,h2⟩:=hs t x h;exact⟨y,.tmp h1,h2⟩
 |cell a t=>
  simp only[Iu]at h;split at h
  ·rename_i i d k b z ha ht;split at h
   ·rename_i cs hcs;obtain⟨y,h1,h2⟩:=hs a _ ha;simp only[aG]at h2;obtain⟨bk,t',h2,rfl⟩:=h2;obtain⟨q,h3,h4⟩:=hh.en i _ hcs;obtain⟨bk',us,h5,rfl,h6⟩:=h4;rw[h2]at h5;cases h5;split at h
    ·rename_i hd;split at h
     ·rename_i hle;simp only[aC]at h;subst h;exact⟨_,.Uk h1 h3 ht hd (Gd (by rw[h6.length];exact dL hle)),Cj (h6.take k)⟩
     ·cases h
    ·rename_i hd;obtain⟨y,h7,h8⟩:=h6.nth h;cases us with
     |nil=>simp[nth]at h7
     |cons u us=>
      simp only[nth,aC]at h7;subst h7;exact⟨_,.S9 h1 h3 ht hd,h8⟩
   ·cases h
  ·rename_i cs d k b z ha ht;split at h
   ·rename_i hd hf;simp only[aC]at h;subst h;obtain⟨y,h1,h2⟩:=hs a _ ha;simp only[aG]at h2;subst h2;exact⟨_,.Ul h1 ht hd hf,rfl⟩
   ·cases h
  ·cases h
theorem QF {W:aJ} {ZB:Sg} {ηB:List aq} {T:bZ} (hs:SS W Z (look ZB)) (hh:HS W O ηB):∀{rs:List ResultVar} {xs:List CV},eh T Z O rs=some xs->∃ys,uR T ZB ηB rs ys/\aQ W xs ys
 |[],xs,h=>by simp only[eh,aC]at h;subst h;exact⟨[],.nil,by simp[aQ]⟩
 |r::rs,xs,h=>by
  simp only[eh]at h;split at h
  ·rename_i x xs' h1 h2;simp only[aC]at h;subst h;obtain⟨y,h3,h4⟩:=abG hs hh h1;obtain⟨ys,h5,h6⟩:=QF hs hh h2;exact⟨y::ys,.cons h3 h5,by simp only[aQ];exact⟨_,_,rfl,h4,h6⟩⟩
  ·cases h
theorem ZQ {W:aJ} {xs:List CV} {ys:List AV} (h:aQ W xs ys):aG W (ff xs) (ya ys):=by
 match xs,ys,h with
 |[],ys,h=>exact NZ (xs:=[]) h|>λz=>by simp only[aQ]at h;subst h;exact z
 |[x],ys,h=>simp only[aQ]at h;obtain⟨y,r,rfl,h1,rfl⟩:=h;exact h1
 |x::x'::r,ys,h=>
  have h0:=h;simp only[aQ]at h0;obtain⟨y,r,rfl,h1,y',r',rfl,h2,h3⟩:=h0;exact NZ h
def RD (T:bZ) (rs:List ResultVar) (Q:DR->Hp->Prop):DQ:=λe Z O=>match e with
 | .norm=>∃xs,eh T Z O rs=some xs/\Q (.ret (ff xs)) O
 | .ret=>∃xs,eh T Z O rs=some xs/\Q (.ret (ff xs)) O
 | .exit _=>False
 | .aO x=>Q (.aO x) O
theorem eH.enter {f:FuncId} {fn:Func} {c:Code} {args:List CV} {Q:DR->Hp->Prop} (hf:E.P.funcs[f]? =some fn) (hb:fn.body=some c) (hname:(fn.name== "runtime.NumGoroutine")=false)
  (rs:List ResultVar) (hrs:fn.results=rs.toArray) (nt:Nat) (hnt:fn.ntmps=nt) (hn:Nat.ble args.length nt=true) (h:DC E nt O.n c (RD E.T rs Q) (iv 0 args) O):eH E f args O Q:=λW ys ηB hi hh=>by
 refine iA.enter (E:=E) hf hb hname rs hrs nt hnt (by rw[hi.length];exact hn) (bH.mono (h W (pz 0 ys) ηB (OC 0 hi) hh) ?_);rintro e ZB' OB' ⟨W',d,Z',O',h1,h2,h3,h4,h5⟩;have main:(∃xs,eh E.T Z' O' rs=some xs/\Q (.ret (ff xs)) O')->RQ E.T rs (Uj O.n W Q) ZB' OB':=by
  rintro ⟨xs,h6,h7⟩;obtain⟨zs,h8,h9⟩:=QF h3 h4 h6;exact⟨zs,h8,W',.ret (ff xs),O',h1,⟨_,rfl,ZQ h9⟩,h4,h7⟩
 cases d with
 |norm=>simp only[DE.inst]at h2;subst h2;exact main h5
 |ret=>simp only[DE.inst]at h2;subst h2;exact main h5
 |exit i=>exact h5.elim
 |aO x=>obtain⟨y,rfl,h2⟩:=h2;exact⟨W',.aO x,O',h1,⟨y,rfl,h2⟩,h4,h5⟩
theorem eH.mono {f:FuncId} {args:List CV} {Q Q':DR->Hp->Prop} (h:eH E f args O Q) (hq:∀r O',Q r O'->Q' r O'):eH E f args O Q':=λW ys ηB hi hh=>
 (h W ys ηB hi hh).mono λ_ _ ⟨W',d,O',h1,h2,h3,h4⟩=>⟨W',d,O',h1,h2,h3,hq _ _ h4⟩
def Hp.nil:Hp:=⟨.lf,0⟩
theorem HS.nil (W:aJ) (h:∀t,W.b t=none/\∀n,W.s t n=none):HS W Hp.nil []:=⟨λi x hx=>by simp[Hp.nil,Tr.ku]at hx,rfl,λt _=>h t⟩
def Ends (f:Nat) (res:AR):DR->Hp->Prop
 | .ret x,O=>∃z ns ms,cr O.e f [x]=some ([z],ns,ms)/\eqs ns/\∃y,res= .ret y/\bV z y
 | .aO x,O=>∃z ns ms,cr O.e f [x]=some ([z],ns,ms)/\eqs ns/\∃y,res= .aO y/\bV z y
theorem Pure.Xg {g:FuncId} {args:List AV} {res:AR} (f:Nat) (h:eH E g (args.map .d) Hp.nil (Ends f res)):Pure E.toCx g args res:=by
 have h0:=h ⟨λ_=>none,λ_ _=>none⟩ args [] (iq args) (HS.nil _ λ_=>⟨rfl,λ_=>rfl⟩);refine⟨h0.1,λF w vs hH hr=>(h0.2 F w vs hH hr).mono ?_⟩;rintro e w' ⟨r,ηB,⟨W',d,O,h1,h2,h3,h4⟩,hv,hh,hx⟩;have hA:∀b,fP F ηB (List.range ηB.length) b->Al F [] b:=λb hb=>⟨hb.1,by simp[ids]⟩;have hk:∀M:List Nat,cS w' (fP F ηB M) w' (Al F []):=λM=>⟨bS _,λb _ hb=>⟨⟨hb.1,by simp[ids]⟩,rfl⟩⟩;have fin:∀{x:CV} {y:AV} {v:Value},(∃z ns ms,cr O.e f [x]=some ([z],ns,ms)/\eqs ns/\bV z y)->(∃u,aG W' x u/\Rel w' (Al F ηB) u v)->Rel w' (Al F []) y v:=by
  rintro x y v ⟨z,ns,ms,g1,g2,g3⟩ ⟨u,g4,g5⟩;obtain⟨g6,_⟩:=jt h3 hh (ms.map (·.1)) f g1 g2 (λp hp=>dE.2 ⟨p,hp,rfl⟩) (aQ.one g4) (aH.one g5);exact g3 _ _ _ (g6.D6.keep (hk _))
 have hres:AR.rel w' (Al F []) res e:=by
  cases d with
  |ret x=>
   obtain⟨u,rfl,h5⟩:=h2;obtain⟨z,ns,ms,g1,g2,y,rfl,g3⟩:=h4;obtain⟨v,rfl,hv⟩:=hv;exact⟨v,rfl,fin ⟨z,ns,ms,g1,g2,g3⟩ ⟨u,h5,hv⟩⟩
  |aO x=>
   obtain⟨u,rfl,h5⟩:=h2;obtain⟨z,ns,ms,g1,g2,y,rfl,g3⟩:=h4;obtain⟨v,rfl,hv⟩:=hv;exact⟨v,rfl,fin ⟨z,ns,ms,g1,g2,g3⟩ ⟨u,h5,hv⟩⟩
 exact⟨res,[],⟨rfl,rfl⟩,hres,hh.none,⟨hx.os,hx.tape,hx.output,hx.size,hx.block,by simp[ids],hx.drawn⟩⟩
end
def rh (P:Program) (Z:TS) (O:Hp):Op->Option (CV×List (Nat×Nat))
 | .binOp .eql t x y _=>match P.underlying t,aW Z x,aW Z y with
  |some (.slice _),some (.os i (n+1)),some (.d (.v (.slice none 0 0)))=>match O.e.get i with
   |some (.row _ _ rows)=>some (.d (.v (.bool false)),[(n+1,rows.length)])
   |some (.iH _ rows)=>some (.d (.v (.bool false)),[(n+1,rows.length)])
   |_=>none
  |_,_,_=>none
 | .binOp .neq t x y _=>match P.underlying t,aW Z x,aW Z y with
  |some (.slice _),some (.os i (n+1)),some (.d (.v (.slice none 0 0)))=>match O.e.get i with
   |some (.row _ _ rows)=>some (.d (.v (.bool true)),[(n+1,rows.length)])
   |some (.iH _ rows)=>some (.d (.v (.bool true)),[(n+1,rows.length)])
   |_=>none
  |_,_,_=>none
 |_=>none
section
variable {E:Env} {N:Nat} {Z:TS} {O:Hp} {o:Oper}
theorem C9 {W:aJ} {s:Sl} {ηB:List aq} (hs:SS W Z s) (hh:HS W O ηB) {x:Operand} {i n:Nat} (hx:aW Z x=some (.os i (n+1))) {rows:List (List AV)} (hn:n+1=rows.length) (hi:(∃e k,O.e.get i=some (.row e k rows))\/∃k,O.e.get i=some (.iH k rows)):
  ∃t' a c,ev s x=some (.os t' a (n+1) c)/\∀{G:Gl} {w:World} {F:Nat->Prop},bG G w F ηB->a.isNone=false:=by
 obtain⟨y,h1,h2⟩:=bY hs hx;simp only[aG]at h2;obtain⟨a,c,t',h3,rfl⟩:=h2;refine⟨t',a,c,h1,λhH=>?_⟩;rcases hi with⟨e,k,hi⟩|⟨k,hi⟩
 ·obtain⟨q,h4,h5⟩:=hh.en i _ hi;obtain⟨⟨a',c',h6,rfl⟩,_⟩:=h5;rw[<-hn,h3]at h6;cases h6;obtain⟨vs,_,h7⟩:=iP hH h4;obtain⟨_,h8|⟨g,cap,cur,h9,_⟩⟩:=h7
  ·omega
  ·cases h9;rfl
 ·obtain⟨q,h4,h5⟩:=hh.en i _ hi;obtain⟨a',c',h6,rfl⟩:=h5;rw[<-hn,h3]at h6;cases h6;have:=qg hH h4;simp only[Rel]at this;rcases this with⟨rfl,_⟩|⟨b,o,cap,vs,h1,_⟩
  ·simp at hn
  ·cases h1;rfl
theorem Co {s:Sl} {ηB:List aq} {t e:TypeId} {x y:Operand} {yt:TypeId} {t':Nat} {a:Option Addr} {n c:Nat} (neg:Bool) (ho:o.op= .binOp (if neg then .neq else .eql) t x y yt) (hu:E.P.underlying t=some (.slice e)) (hx:ev s x=some (.os t' a n c)) (hy:ev s y=some (.v (.slice none 0 0)))
  (ha:∀{G:Gl} {w:World} {F:Nat->Prop},bG G w F ηB->a.isNone=false):bP E.toCx N o s ηB (.v (.bool neg)):=by
 refine bP.mZ λF act w hst=>?_;have h1:=bz hst.sg (show ev (look (dG s (tmpsOf o))) x=some (.os t' a n c)by rw[fc (by rw[ho];cases neg<;>simp[Op.operands])];exact hx);have h2:=bz hst.sg (show ev (look (dG s (tmpsOf o))) y=some (.v (.slice none 0 0))by rw[fc (by rw[ho];cases neg<;>simp[Op.operands])];exact hy);simp only[Rel]at h1 h2;have h0:=ha hst.hp;refine⟨_,fK _,λw' _=>?_⟩;have h3:binOp .eql t (.slice a n c) (.slice none 0 0)=(do pure (.bool (<-Op.equal t (.slice a n c) (.slice none 0 0))):Sem Value):=rfl;have h4:binOp .neq t (.slice a n c) (.slice none 0 0)=(do pure (.bool (!(<-Op.equal t (.slice a n c) (.slice none 0 0)))):Sem Value):=rfl;cases neg
 ·simp[execOp,ho,h1,h2,eqGuard,h3,Cp hu,h0]
 ·simp[execOp,ho,h1,h2,eqGuard,h4,Cp hu,h0]
theorem bd.rh {x:CV} {ns:List (Nat×Nat)} (h:rh E.P Z O o.op=some (x,ns)) (hn:eqs ns):bd E N o Z O x:=λW s ηB hs hh=>by
 unfold Bw.rh at h;split at h
 ·rename_i t x y yt ho;split at h
  ·rename_i e i n hu hx hy;have hyy:ev s y=some (.v (.slice none 0 0)):=by
    obtain⟨z,g1,g2⟩:=bY hs hy;simp only[aG]at g2;subst g2;exact g1
   split at h
   ·rename_i e' k rows hi;simp only[aC,cF]at h;obtain⟨rfl,rfl⟩:=h;obtain⟨t',a,c,h1,h2⟩:=C9 hs hh hx hn.1 (.inl ⟨_,_,hi⟩);exact⟨_,rfl,Co false (by simpa using ho) hu h1 hyy h2⟩
   ·rename_i k rows hi;simp only[aC,cF]at h;obtain⟨rfl,rfl⟩:=h;obtain⟨t',a,c,h1,h2⟩:=C9 hs hh hx hn.1 (.inr ⟨_,hi⟩);exact⟨_,rfl,Co false (by simpa using ho) hu h1 hyy h2⟩
   ·cases h
  ·cases h
 ·rename_i t x y yt ho;split at h
  ·rename_i e i n hu hx hy;have hyy:ev s y=some (.v (.slice none 0 0)):=by
    obtain⟨z,g1,g2⟩:=bY hs hy;simp only[aG]at g2;subst g2;exact g1
   split at h
   ·rename_i e' k rows hi;simp only[aC,cF]at h;obtain⟨rfl,rfl⟩:=h;obtain⟨t',a,c,h1,h2⟩:=C9 hs hh hx hn.1 (.inl ⟨_,_,hi⟩);exact⟨_,rfl,Co true (by simpa using ho) hu h1 hyy h2⟩
   ·rename_i k rows hi;simp only[aC,cF]at h;obtain⟨rfl,rfl⟩:=h;obtain⟨t',a,c,h1,h2⟩:=C9 hs hh hx hn.1 (.inr ⟨_,hi⟩);exact⟨_,rfl,Co true (by simpa using ho) hu h1 hyy h2⟩
   ·cases h
  ·cases h
 ·cases h
