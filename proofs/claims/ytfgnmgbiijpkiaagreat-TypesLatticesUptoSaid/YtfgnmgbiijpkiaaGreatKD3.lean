/- The abstract machine, third part: operations on own memory; handing own memory on; calls. -/
import Derived.Test.YtfgnmgbiijpkiaaGreatKD1
set_option linter.all false
noncomputable section
namespace Go.Bw
open Go
theorem Oper.Xh {P:Program} {o:Oper} {a:Act} {w:World} {K K':Act->World->Prop} {Q Q':Exit->Act->World->Prop} (h:∀a w,K a w->K' a w) (hq:∀e a w,Q e a w->Q' e a w)
  (hh:o.wp P a w K Q):o.wp P a w K' Q':=by
 unfold Oper.wp at*
 generalize (execOp a.eval o).run P w=r at*
 cases r with
 |ok n w'=>
  cases n<;>simp only[Oper.upon]at hh⊢<;>
   first
    |exact h _ _ hh
    |exact Calls.mono hh (λe w'' he=>by cases e<;>first|exact h _ _ he|exact hq _ _ _ he|exact(let⟨a,w,hz⟩:=he;⟨a,w,hq _ _ _ hz⟩))
    |exact Rows.mono hh (λ_ _ he=>h _ _ he)
 |halt x w'=>cases x<;>simp only[Oper.upon]at hh⊢<;>first|exact hh|exact hq _ _ _ hh
theorem Cq {P:Program} {ops:Array Oper} {Q Q':Exit->Act->World->Prop} (hq:∀e a w,Q e a w->Q' e a w):∀{l:List Oper} {a:Act} {w:World},wpList P ops Q l a w->wpList P ops Q' l a w
 |[],_,_,h=>hq _ _ _ h
 |o::rest,a,w,h=>by
  unfold wpList at h⊢;split
  ·rename_i hw;rw[dj hw]at h;exact h.imp (Oper.Xh (λ_ _ hh=>Cq hq hh) hq) λ⟨h1,a,w,h2⟩=>⟨h1,a,w,hq _ _ _ h2⟩
  ·rename_i hw;rw[cM hw]at h;exact Cq hq h
theorem bo.mono {C:Cx} {N:Nat} {ops:Array Oper} {rest:List Oper} {Q Q':AQ} {Z:Sg} {O:List aq} (h:bo C N ops rest Q Z O) (hq:∀e Z O,Q e Z O->Q' e Z O):bo C N ops rest Q' Z O:=λF w0 η0 a w hs hx=>
 Cq (λ_ _ _ ⟨e0,σ',O',h1,h2⟩=>⟨e0,σ',O',hq _ _ _ h1,h2⟩) (h F w0 η0 a w hs hx)
theorem DO.up {E:Env} {N K:Nat} {all rest:List Oper} {Q:DQ} {ZB:Sg} {OB:List aq} {L L':aH} (hl:L.le L') (h:bo E.toCx N all.toArray rest (lift K L' Q) ZB OB):bo E.toCx N all.toArray rest (lift K L Q) ZB OB:=
 h.mono λ_ _ _ h=>qm (hl.toK K) (λ_ _ _ h=>h) h
def Hp.push (O:Hp) (x:bm):Hp:=⟨Tr.put 24 O.e O.n (some x),O.n+1⟩
def Hp.set (O:Hp) (i:Nat) (x:bm):Hp:=⟨Tr.put 24 O.e i (some x),O.n⟩
def aH.fI (L:aH) (t b:Nat):aH:=⟨λu=>if u=t then some b else L.b u,L.s⟩
def aH.ba (L:aH) (t n:Nat) (x:Option Addr×Nat):aH:=⟨L.b,λu m=>if u=t/\m=n then some x else L.s u m⟩
theorem aH.Aj {L:aH} {t b:Nat} (h:L.b t=none):L.le (L.fI t b):=⟨λu x hx=>by
 have:u≠t:=λe=>by subst e;rw[h]at hx;cases hx
 simp[aH.fI,this,hx],λ_ _ _ h=>h⟩
theorem aH.ko {L:aH} {t n:Nat} {x:Option Addr×Nat} (h:∀y,L.s t n=some y->y=x):L.le (L.ba t n x):=⟨λ_ _ h=>h,λu m y hy=>by
 by_cases hu:u=t/\m=n
 ·obtain⟨rfl,rfl⟩:=hu;simp[aH.ba,h y hy]
 ·simp[aH.ba,hu,hy]⟩
theorem UH {D:Type} {l r:List D} {i:Nat} {x:D} (h:nth l i=some x):nth (l++r) i=some x:=by
 rw[cq]at h⊢;rw[rY (cr.1 h).1];exact h
theorem HS.lt {L:aH} {O:Hp} {OB:List aq} (hh:HS L O OB) {i:Nat} {x:bm} (h:O.e.get i=some x):i<O.n:=by
 obtain⟨y,h1,_⟩:=hh.en i x h;rw[cq]at h1;rw[<-hh.len];exact(cr.1 h1).1
theorem HS.push {L L':aH} {O:Hp} {OB:List aq} (hh:HS L O OB) (hl:L.le L') (hs:∀i,i≠O.n->L'.s i=L.s i) (hb:∀i,i≠O.n->L'.b i=L.b i) {x:bm} {y:aq} (hx:k9 L' O.n x y):HS L' (O.push x) (OB++[y]):=by
 refine⟨λi z hz=>?_,by simp[Hp.push,hh.len],λt ht=>?_⟩
 ·rcases Tr.ep 24 O.e O.n i _ z hz with⟨rfl,h1⟩|⟨hne,h1⟩
  ·cases h1;exact⟨y,by rw[cq,<-hh.len];simp,hx⟩
  ·obtain⟨q,h2,h3⟩:=hh.en i z h1;exact⟨q,UH h2,h3.mono hl (hs i hne)⟩
 ·have:t≠O.n:=by simp[Hp.push]at ht;omega
  rw[hb t this,hs t this];exact hh.fJ t (by simp[Hp.push]at ht;omega)
theorem HS.set {L L':aH} {O:Hp} {OB:List aq} (hh:HS L O OB) (hl:L.le L') {i:Nat} (hs:∀j,j≠i->L'.s j=L.s j) (hb:∀j,j≠i->L'.b j=L.b j) (hi:i<O.n) {x:bm} {y:aq} (hx:k9 L' i x y):HS L' (O.set i x) (OB.set i y):=by
 refine⟨λj z hz=>?_,by simp[Hp.set,hh.len],λt ht=>?_⟩
 ·rcases Tr.ep 24 O.e i j _ z hz with⟨rfl,h1⟩|⟨hne,h1⟩
  ·cases h1;exact⟨y,by rw[cq];simp[hh.len,hi],hx⟩
  ·obtain⟨q,h2,h3⟩:=hh.en j z h1;exact⟨q,by rw[cq]at h2⊢;rw[jX (jv hne)];exact h2,h3.mono hl (hs j hne)⟩
 ·have:t≠i:=by simp[Hp.set]at ht;omega
  rw[hb t this,hs t this];exact hh.fJ t ht
section
variable {E:Env} {N K:Nat} {Q:DQ} {Z:TS} {O:Hp} {o:Oper} {x:CV} {all rest:List Oper}
theorem DO.u1 {cells:List CV} {d:Nat} (hg:o.guard=none) (hd:o.dst=some d) (hdN:Nat.blt d N=true) (h:∀L s OB,SS L Z s->HS L O OB->∃cs,aS L cells cs/\fA E.toCx N o s OB cs)
  (k:DO E N K all rest Q (bW Z (some d) (.own O.n 0)) (O.push (.box cells))):DO E N K all (o::rest) Q Z O:=λL ZB OB hs hh=>by
 obtain⟨cs,h1,h2⟩:=h L _ OB hs hh;refine bo.u1 hg hd hdN h2 λb=>?_;have hdom:=hh.fJ O.n (bQ _);have hl:L.le (L.fI O.n b):=aH.Aj hdom.1;have hbn:(L.fI O.n b).b O.n=some b:=by simp[aH.fI]
 refine DO.up hl (k _ _ _ ((hs.mono hl).put (some d) (by simp only[aI];exact⟨b,OB.length,hbn,rfl⟩)) ?_);exact hh.push hl (λ_ _=>rfl) (λi hi=>by simp[aH.fI,hi]) ⟨b,cs,hbn,rfl,h1.mono hl⟩
theorem Am {t:TypeId} {p:Operand} (ho:o.op= .box t p) (hp:a6 Z p=some x):∀L s OB,SS L Z s->HS L O OB->∃cs,aS L (dF x) cs/\fA E.toCx N o s OB cs:=λL s OB hs _=>by
 obtain⟨y,h1,h2⟩:=cg hs hp;exact⟨_,xZ h2,fA.box ho h1⟩
theorem yG {t:TypeId} {td:TD} {sz by':Nat} {z:List Value} (ho:o.op= .alloc t) (ht:a7 E.T t=some ⟨td,sz,by',z⟩):∀L s OB,SS L Z s->HS L O OB->∃cs,aS L ((z.map .v).map .d) cs/\fA E.toCx N o s OB cs:=λ_ _ _ _ _=>
 ⟨_,gA _,fA.alloc ho ht⟩
def l7:List CV->Bool
 |[]=>true
 | .d y::r=>match eK [y]with
  |true=>l7 r
  |false=>false
 | .agg _::_=>false
 | .bN _::_=>false
 |_::r=>l7 r
theorem Vz {y:AV} {r:List AV} (h:eK [y]=true) (hr:eK r=true):eK (y::r)=true:=by
 cases y<;>simp_all [eK]
theorem CC {L:aH}:∀{xs:List CV} {ys:List AV},l7 xs=true->aS L xs ys->eK ys=true
 |[],ys,_,h=>by simp only[aS]at h;subst h;rfl
 |x::r,ys,ho,h=>by
  simp only[aS]at h;obtain⟨y,r',rfl,h1,h2⟩:=h;have key:l7 r=true->eK [y]=true->eK (y::r')=true:=λh3 h4=>Vz h4 (CC h3 h2);cases x with
  |d z=>
   simp only[aI]at h1;subst h1;simp only[l7]at ho;split at ho
   ·rename_i h3;exact key ho h3
   ·cases ho
  |agg xs=>cases ho
  |bN xs=>cases ho
  |own t n=>simp only[aI]at h1;obtain⟨b,t',_,rfl⟩:=h1;exact key ho rfl
  |os t n=>simp only[aI]at h1;obtain⟨a,c,t',_,rfl⟩:=h1;exact key ho rfl
  |oe t n m=>simp only[aI]at h1;obtain⟨a,c,t',_,rfl⟩:=h1;exact key ho rfl
  |om t=>simp only[aI]at h1;obtain⟨b,t',_,rfl⟩:=h1;exact key ho rfl
  |fn f fs cs=>simp only[aI]at h1;obtain⟨us,vs,rfl,_⟩:=h1;exact key ho rfl
  |bB t z=>simp only[aI]at h1;obtain⟨u,rfl,_⟩:=h1;exact key ho rfl
theorem DO.store {t:TypeId} {p v:Operand} {i off:Nat} {cs cs':List CV} {ti:TI} (hg:o.guard=none) (ho:o.op= .store t p v) (hd:o.dst=none) (hp:a6 Z p=some (.own i off)) (hv:a6 Z v=some x) (hi:O.e.get i=some (.box cs)) (ht:a7 E.T t=some ti)
  (hk:Nat.beq (dF x).length ti.size=true) (h1:l7 (dF x)=true) (hl:lU cs off (dF x)=some cs') (k:DO E N K all rest Q Z (O.set i (.box cs'))):DO E N K all (o::rest) Q Z O:=λL ZB OB hs hh=>by
 obtain⟨y,h2,h3⟩:=cg hs hp;simp only[aI]at h3;obtain⟨b,t',h3,rfl⟩:=h3;obtain⟨z,h4,h5⟩:=cg hs hv;obtain⟨q,h6,h7⟩:=hh.en i _ hi;obtain⟨b',us,h8,rfl,h9⟩:=h7;rw[h3]at h8;cases h8;have hc:=xZ h5;obtain⟨us',h10,h11⟩:=xV hl h9 hc;refine bo.I9 hg hd (CZ ho h2 h4 h6 ht (by rw[hc.length];exact hk) (CC h1 hc) h10) (k L _ _ hs ?_);exact hh.set (.refl L) (λ_ _=>rfl) (λ_ _=>rfl) (hh.lt hi) ⟨b,us',h3,rfl,h11⟩
theorem DO.qq {t:TypeId} {p v:Operand} {i n m e kk:Nat} {rows:List (List AV)} {r r':List AV} {y:AV} {ti:TI} (j off:Nat) (hg:o.guard=none) (ho:o.op= .store t p v) (hd:o.dst=none) (hp:a6 Z p=some (.oe i n m)) (hv:a6 Z v=some (.d y)) (hi:O.e.get i=some (.row e kk rows)) (hn:n=rows.length)
  (hm:m=j*kk+off) (hr:rows[j]? =some r) (ht:a7 E.T t=some ti) (hk:Nat.beq (cf y).length ti.size=true) (h1:eK (cf y)=true) (hl:eU r off (cf y)=some r') (k:DO E N K all rest Q Z (O.set i (.row e kk (rows.set j r')))):DO E N K all (o::rest) Q Z O:=λL ZB OB hs hh=>by
 obtain⟨z,h2,h3⟩:=cg hs hp;simp only[aI]at h3;obtain⟨a,c,t',h3,rfl⟩:=h3;obtain⟨z,h4,h5⟩:=cg hs hv;simp only[aI]at h5;subst h5;obtain⟨q,h6,h7⟩:=hh.en i _ hi;obtain⟨⟨a',c',h8,rfl⟩,h9⟩:=h7;subst hn;rw[h3]at h8;cases h8;refine bo.I9 hg hd (JW ho j off h2 hm h4 h6 hr ht hk h1 hl) (k L _ _ hs ?_);exact hh.set (.refl L) (λ_ _=>rfl) (λ_ _=>rfl) (hh.lt hi) ⟨⟨a,c,by simpa using h3,by simp⟩,by simpa using h9⟩
theorem DO.lit {d n:Nat} {t:TypeId} {parts:Array (Nat×Operand)} {ty:TypeId} {pos:String} {after:Array Edge} {e k sz by' sz' by'':Nat} {z z':List Value} {td':TD} {cells:List AV}
  (ht:a7 E.T t=some ⟨.slice e k,sz,by',z⟩) (hte:a7 E.T e=some ⟨td',sz',by'',z'⟩) (hf:eM k (ee Z) (gD n (z'.map .v)) parts.toList=some cells) (hb:Nat.ble (n*k) 16777216=true) (hk:Nat.ble 1 k=true) (hd:Nat.blt d N=true)
  (kk:DO E N K all rest Q (bW Z (some d) (.os O.n n)) (O.push (.row e k (chunk n k cells)))):DO E N K all (⟨some d,.buildSlice t n parts,ty,pos,after,none⟩::rest) Q Z O:=λL ZB OB hs hh=>by
 have hf':eM k (look ZB) (gD n (z'.map .v)) parts.toList=some cells:=by
  have key:∀(l:List (Nat×Operand)) (cs r:List AV),eM k (ee Z) cs l=some r->eM k (look ZB) cs l=some r:=by
   intro l
   induction l with
   |nil=>intro cs r h;exact h
   |cons p l ih=>
    intro cs r h;obtain⟨i,p⟩:=p;simp only[eM]at h⊢;split at h
    ·rename_i y hy;have hy':ev (look ZB) p=some y:=by
      cases p with
      |tmp u=>exact kt hs hy
      |const v=>exact hy
      |global g=>exact hy
      |func f=>exact hy
     simp only[hy'];split at h
     ·rename_i c1 h1 h2;exact ih _ _ h
     ·cases h
    ·cases h
  exact key _ _ _ hf
 refine bo.lit ht hte hf' hb hk hd λb=>?_;have hdom:=hh.fJ O.n (bQ _);have hl:L.le (L.ba O.n n (some ⟨b,0,none⟩,n)):=aH.ko λy hy=>by rw[hdom.2]at hy;cases hy
 have hbn:(L.ba O.n n (some ⟨b,0,none⟩,n)).s O.n n=some (some ⟨b,0,none⟩,n):=by simp[aH.ba]
 refine DO.up hl (kk _ _ _ ((hs.mono hl).put (some d) (by simp only[aI];exact⟨_,_,OB.length,hbn,rfl⟩)) ?_);refine hh.push hl (λi hi=>by funext m;simp[aH.ba,hi]) (λ_ _=>rfl) ⟨⟨some ⟨b,0,none⟩,n,by rw[gw];exact hbn,by rw[gw]⟩,λm hm=>?_⟩;rw[gw]at hm;have:m≠n:=by omega
 simp only[aH.ba,this,and_false,if_false];exact hdom.2 m
theorem DO.iF (t e k:Nat) (ht:Z.get t=some (.d (.v (.slice none 0 0)))) (kk:DO E N K all rest Q (Tr.put 24 Z t (some (.os O.n 0))) (O.push (.row e k []))):DO E N K all rest Q Z O:=λL ZB OB hs hh=>by
 obtain⟨y,h1,h2⟩:=hs t _ ht;simp only[aI]at h2;subst h2;refine bo.iF t e k h1 ?_;have hdom:=hh.fJ O.n (bQ _);have hl:L.le (L.ba O.n 0 (none,0)):=aH.ko λy hy=>by rw[hdom.2]at hy;cases hy
 have hbn:(L.ba O.n 0 (none,0)).s O.n 0=some (none,0):=by simp[aH.ba]
 refine DO.up hl (kk _ _ _ ((hs.mono hl).put (some t) (by simp only[aI];exact⟨_,_,OB.length,hbn,rfl⟩)) ?_);refine hh.push hl (λi hi=>by funext m;simp[aH.ba,hi]) (λ_ _=>rfl) ⟨⟨none,0,by simpa using hbn,by simp⟩,λm hm=>?_⟩;have:m≠0:=by simp at hm;omega
 simp only[aH.ba,this,and_false,if_false];exact hdom.2 m
inductive lj (E:Env) (Z:TS) (O:Hp) (k:Nat):Operand->List (List AV)->Prop where
 |sl {p:Operand} {rows:List (List AV)}:a6 Z p=some (.d (.sl k rows))->lj E Z O k p rows
 |BU {p:Operand} {x:AV} {rows:List (List AV)}:a6 Z p=some (.d x)->(∀w A v,Rel w A x v->Rel w A (.sl k rows) v)->lj E Z O k p rows
 |nil {p:Operand}:a6 Z p=some (.d (.v (.slice none 0 0)))->lj E Z O k p []
 |row {p:Operand} {j n e:Nat} {rows:List (List AV)}:a6 Z p=some (.os j n)->O.e.get j=some (.row e k rows)->n=rows.length->lj E Z O k p rows
 |fz {p:Operand} {j n:Nat} {rows:List (List AV)}:a6 Z p=some (.os j n)->O.e.get j=some (.iq k rows)->n=rows.length->lj E Z O k p rows
theorem lj.ok {L:aH} {ZB:Sg} {OB:List aq} (hs:SS L Z (look ZB)) (hh:HS L O OB) {k:Nat} {p:Operand} {rows:List (List AV)} (h:lj E Z O k p rows):∀F a w,St E.G N w F a ZB OB->iY w (Al F OB) k (a.eval p) rows:=λF a w hst=>by
 cases h with
 |sl h=>
  obtain⟨y,h1,h2⟩:=cg hs h;simp only[aI]at h2;subst h2;exact iY.sl (bA hst.sg h1)
 |BU h hI=>
  obtain⟨y,h1,h2⟩:=cg hs h;simp only[aI]at h2;subst h2;exact iY.sl (hI _ _ _ (bA hst.sg h1))
 |nil h=>
  obtain⟨y,h1,h2⟩:=cg hs h;simp only[aI]at h2;subst h2;have:=bA hst.sg h1;simp only[Rel]at this;rw[this];exact⟨none,0,0,[],rfl,rfl,by simp[bu],λ_=>rfl,λ_ h=>by cases h⟩
 |row h h3 hn=>
  obtain⟨y,h1,h2⟩:=cg hs h;simp only[aI]at h2;obtain⟨a',c,t',h4,rfl⟩:=h2;obtain⟨q,h5,h6⟩:=hh.en _ _ h3;obtain⟨⟨a2,c2,h7,rfl⟩,_⟩:=h6;subst hn;rw[h4]at h7;cases h7;have:=bA hst.sg h1;simp only[Rel]at this;rw[this];exact iY.row (gG hst.hp h5)
 |fz h h3 hn=>
  obtain⟨y,h1,h2⟩:=cg hs h;simp only[aI]at h2;obtain⟨a',c,t',h4,rfl⟩:=h2;obtain⟨q,h5,h6⟩:=hh.en _ _ h3;obtain⟨a2,c2,h7,rfl⟩:=h6;subst hn;rw[h4]at h7;cases h7;have:=bA hst.sg h1;simp only[Rel]at this;rw[this];exact iY.sl (qI hst.hp h5)
theorem DO.append {i d n:Nat} {s p:Operand} {t:TypeId} {ty:TypeId} {pos:String} {after:Array Edge} {e k sz by' sz' by'':Nat} {z z':List Value} {td':TD} {rows rows2:List (List AV)}
  (hb:(rows++rows2).length*by''<=140737488355328) (hs':a6 Z s=some (.os i n)) (hi:O.e.get i=some (.row e k rows)) (hn:n=rows.length) (hx:lj E Z O k p rows2) (ht:a7 E.T t=some ⟨.slice e k,sz,by',z⟩) (hte:a7 E.T e=some ⟨td',sz',by'',z'⟩) (h1:gy rows2=true)
  (hk:Nat.ble 1 k=true) (hby:Nat.ble 1 by''=true) (hd:Nat.blt d N=true)
  (kk:DO E N K all rest Q (bW Z (some d) (.os i (rows++rows2).length)) (O.set i (.row e k (rows++rows2)))):
  DO E N K all (⟨some d,.call {callee:= .builtin .append,args:= #[s,p],argTypes:= #[t,t]},ty,pos,after,none⟩::rest) Q Z O:=λL ZB OB hs hh=>by
 obtain⟨y,h2,h3⟩:=cg hs hs';simp only[aI]at h3;obtain⟨a,c,t',h3,rfl⟩:=h3;obtain⟨q,h6,h7⟩:=hh.en i _ hi;obtain⟨⟨a',c',h8,rfl⟩,h9⟩:=h7;subst hn;rw[h3]at h8;cases h8;refine bo.p9 rfl hd (Ks rfl ht hte h2 h6 (hx.ok hs hh) h1 hk hby hb) ?_;rintro r O' ⟨a',c',h0,rfl,rfl⟩;have hl:L.le (L.ba i (rows++rows2).length (a',c')):=aH.ko λy hy=>by
  by_cases hz:rows2=[]
  ·subst hz;simp only[iz]at hy;rw[h3]at hy;cases hy;obtain⟨rfl,rfl⟩:=h0 rfl;rfl
  ·have:rows.length<(rows++rows2).length:=by
    have:=xL.2 hz;simp;omega
   rw[h9 _ this]at hy;cases hy
 have hbn:(L.ba i (rows++rows2).length (a',c')).s i (rows++rows2).length=some (a',c'):=by simp[aH.ba]
 refine DO.up hl (kk _ _ _ ((hs.mono hl).put (some d) (by simp only[aI];exact⟨_,_,i,hbn,rfl⟩)) ?_);refine hh.set hl (λj hj=>by funext m;simp[aH.ba,hj]) (λ_ _=>rfl) (hh.lt hi) ⟨⟨a',c',hbn,rfl⟩,λm hm=>?_⟩
 have hne:m≠(rows++rows2).length:=by omega
 simp only[aH.ba,hne,and_false,if_false];exact h9 m (by simp at hm;omega)
theorem DO.DT {i d n:Nat} {s p:Operand} {t u:TypeId} {ty:TypeId} {pos:String} {after:Array Edge} {e k sz by' sz' by'' szu byu:Nat} {z z' zu:List Value} {td':TD} {rows:List (List AV)} {b:ByteArray}
  (hb:(rows++dt b).length*by''<=140737488355328) (hs':a6 Z s=some (.os i n)) (hi:O.e.get i=some (.row e k rows)) (hn:n=rows.length) (hx:a6 Z p=some (.d (.v (.string b)))) (ht:a7 E.T t=some ⟨.slice e k,sz,by',z⟩) (hu:a7 E.T u=some ⟨.str,szu,byu,zu⟩) (hte:a7 E.T e=some ⟨td',sz',by'',z'⟩)
  (hk:Nat.beq k 1=true) (hby:Nat.beq by'' 1=true) (hd:Nat.blt d N=true)
  (kk:DO E N K all rest Q (bW Z (some d) (.os i (rows++dt b).length)) (O.set i (.row e k (rows++dt b)))):
  DO E N K all (⟨some d,.call {callee:= .builtin .append,args:= #[s,p],argTypes:= #[t,u]},ty,pos,after,none⟩::rest) Q Z O:=λL ZB OB hs hh=>by
 obtain⟨y,h2,h3⟩:=cg hs hs';simp only[aI]at h3;obtain⟨a,c,t',h3,rfl⟩:=h3;obtain⟨y2,g2,g3⟩:=cg hs hx;simp only[aI]at g3;subst g3;obtain⟨q,h6,h7⟩:=hh.en i _ hi;obtain⟨⟨a',c',h8,rfl⟩,h9⟩:=h7;subst hn;rw[h3]at h8;cases h8;refine bo.p9 rfl hd (Kb rfl ht hu hte h2 h6 g2 hk hby hb) ?_;rintro r O' ⟨a',c',h0,rfl,rfl⟩;have hl:L.le (L.ba i (rows++dt b).length (a',c')):=aH.ko λy hy=>by
  by_cases hz:dt b=[]
  ·rw[hz]at hy;simp only[iz]at hy;rw[h3]at hy;cases hy;obtain⟨rfl,rfl⟩:=h0 hz;rfl
  ·have:rows.length<(rows++dt b).length:=by
    have:=xL.2 hz;simp;omega
   rw[h9 _ this]at hy;cases hy
 have hbn:(L.ba i (rows++dt b).length (a',c')).s i (rows++dt b).length=some (a',c'):=by simp[aH.ba]
 refine DO.up hl (kk _ _ _ ((hs.mono hl).put (some d) (by simp only[aI];exact⟨_,_,i,hbn,rfl⟩)) ?_);refine hh.set hl (λj hj=>by funext m;simp[aH.ba,hj]) (λ_ _=>rfl) (hh.lt hi) ⟨⟨a',c',hbn,rfl⟩,λm hm=>?_⟩
 have hne:m≠(rows++dt b).length:=by omega
 simp only[aH.ba,hne,and_false,if_false];exact h9 m (by simp at hm;omega)
theorem DO.make {d:Nat} {t:TypeId} {p q:Operand} {ty:TypeId} {pos:String} {after:Array Edge} {e k sz by' sz' by'':Nat} {z z':List Value} {td':TD} {kl kc:IntKind} {li ci:Int} (l c:Nat)
  (hb:c*by''<=140737488355328) (hl:l<=c) (hx:a6 Z p=some (.d (.v (.int kl li)))) (hli:li=(l:Int)) (hy:a6 Z q=some (.d (.v (.int kc ci)))) (hci:ci=(c:Int)) (ht:a7 E.T t=some ⟨.slice e k,sz,by',z⟩) (hte:a7 E.T e=some ⟨td',sz',by'',z'⟩)
  (hk:Nat.ble 1 k=true) (hby:Nat.ble 1 by''=true) (hd:Nat.blt d N=true)
  (kk:DO E N K all rest Q (bW Z (some d) (.os O.n l)) (O.push (.row e k (List.replicate l (z'.map .v))))):DO E N K all (⟨some d,.makeSlice t p q,ty,pos,after,none⟩::rest) Q Z O:=λL ZB OB hs hh=>by
 obtain⟨y1,h2,h3⟩:=cg hs hx;simp only[aI]at h3;subst h3;obtain⟨y1,h4,h5⟩:=cg hs hy;simp only[aI]at h5;subst h5;refine bo.make l c hb hl h2 hli h4 hci ht hte hk hby hd λb=>?_;have hdom:=hh.fJ O.n (bQ _);have hle:L.le (L.ba O.n l (some ⟨b,0,none⟩,c)):=aH.ko λy hy=>by rw[hdom.2]at hy;cases hy
 have hbn:(L.ba O.n l (some ⟨b,0,none⟩,c)).s O.n l=some (some ⟨b,0,none⟩,c):=by simp[aH.ba]
 refine DO.up hle (kk _ _ _ ((hs.mono hle).put (some d) (by simp only[aI];exact⟨_,_,OB.length,hbn,rfl⟩)) ?_);refine hh.push hle (λi hi=>by funext m;simp[aH.ba,hi]) (λ_ _=>rfl) ⟨⟨some ⟨b,0,none⟩,c,by simpa using hbn,by simp⟩,λm hm=>?_⟩;have:m≠l:=by simp at hm;omega
 simp only[aH.ba,this,and_false,if_false];exact hdom.2 m
end
def eqs:List (Nat×Nat)->Prop
 |[]=>True
 |p::r=>p.1=p.2/\eqs r
theorem mC:∀{l r:List (Nat×Nat)},eqs (l++r)->eqs l/\eqs r
 |[],_,h=>⟨trivial,h⟩
 |_::_,_,h=>⟨⟨h.1,(mC h.2).1⟩,(mC h.2).2⟩
def b5 (e:Tr bm):Nat->List CV->Option (List AV×List (Nat×Nat)×List (Nat×bm))
 |0,_=>none
 |_+1,[]=>some ([],[],[])
 |f+1,x::r=>match b5 e f r with
  |none=>none
  |some (zs,ns,ms)=>match x with
   | .d y=>some (y::zs,ns,ms)
   | .agg ys=>match b5 e f ys with
    |some (us,ns',ms')=>some (.agg us::zs,ns'++ns,ms'++ms)
    |none=>none
   | .bN ys=>match b5 e f ys with
    |some (us,ns',ms')=>some (.bN us::zs,ns'++ns,ms'++ms)
    |none=>none
   | .own t o=>match e.get t with
    |some (.box cs)=>match b5 e f cs with
     |some (us,ns',ms')=>some (.ip (us.drop o)::zs,ns'++ns,(t,.lv us)::(ms'++ms))
     |none=>none
    |some (.lv us)=>some (.ip (us.drop o)::zs,ns,ms)
    |_=>none
   | .os t n=>match e.get t with
    |some (.row _ k rows)=>some (.sl k rows::zs,(n,rows.length)::ns,(t,.iq k rows)::ms)
    |some (.iq k rows)=>some (.sl k rows::zs,(n,rows.length)::ns,ms)
    |_=>none
   | .fn g fs cs=>match b5 e f fs,b5 e f cs with
    |some (us,ns1,ms1),some (vs,ns2,ms2)=>some (.fn g us vs::zs,ns1++(ns2++ns),ms1++(ms2++ms))
    |_,_=>none
   | .bB t y=>match b5 e f [y]with
    |some ([u],ns',ms')=>some (.bB t u::zs,ns'++ns,ms'++ms)
    |_=>none
   | .oe _ _ _=>none
   | .om _=>none
def eR (F:Nat->Prop) (OB:List aq) (M:List Nat) (b:Nat):Prop:=¬F b/\∀i y,nth OB i=some y->i∉M->b∉y.ids
theorem AI {F:Nat->Prop} {OB:List aq} (M:List Nat) {b:Nat} (h:Al F OB b):eR F OB M b:=
 ⟨h.1,λi y hy _ hb=>h.2 (ef.2 ⟨y,bw (by rw[<-cq];exact hy),hb⟩)⟩
theorem zA {w:World} {F:Nat->Prop} {OB:List aq} (M:List Nat):cL w (Al F OB) w (eR F OB M):=⟨bQ _,λ_ _ h=>⟨AI M h,rfl⟩⟩
theorem JX:∀{l:List aq} {i j:Nat} {x y:aq} {b:Nat},(ids l).Nodup->nth l i=some x->nth l j=some y->i≠j->b∈x.ids->b∉y.ids
 |[],_,_,_,_,_,_,h,_,_,_=>by simp[nth]at h
 |z::l,0,0,_,_,_,_,_,_,hne,_=>absurd rfl hne
 |z::l,0,j+1,x,y,b,hnd,hi,hj,_,hb=>λhy=>by
  rw[cF,iO]at hnd;simp only[nth,aE]at hi hj;subst hi;exact hnd.2.2 b hb b (ef.2 ⟨y,bw (by rw[<-cq];exact hj),hy⟩) rfl
 |z::l,i+1,0,x,y,b,hnd,hi,hj,_,hb=>λhy=>by
  rw[cF,iO]at hnd;simp only[nth,aE]at hi hj;subst hj;exact hnd.2.2 b hy b (ef.2 ⟨x,bw (by rw[<-cq];exact hi),hb⟩) rfl
 |z::l,i+1,j+1,x,y,b,hnd,hi,hj,hne,hb=>by
  rw[cF,iO]at hnd;simp only[nth]at hi hj;exact JX hnd.2.1 hi hj (λe=>hne (by rw[e])) hb
theorem O5 {G:Gl} {w:World} {F:Nat->Prop} {OB:List aq} {M:List Nat} (hH:bD G w F OB) {i:Nat} {x:aq} {b:Nat} (hi:nth OB i=some x) (hM:i∈M) (hb:b∈x.ids):eR F OB M b:=by
 refine⟨hH.free b (ef.2 ⟨x,bw (by rw[<-cq];exact hi),hb⟩),λj y hj hjM=>?_⟩;exact JX hH.nodup hi hj (λe=>hjM (e▸hM)) hb
def rJ (L:aH) (w:World) (A:Nat->Prop):Nat×bm->Prop
 |(t,.lv us)=>∃b,L.b t=some b/\Rel w A (.ip us) (.pointer (some ⟨b,0,none⟩))
 |(t,.iq k rows)=>∃a c,L.s t rows.length=some (a,c)/\Rel w A (.sl k rows) (.slice a rows.length c)
 |_=>False
section
variable {L:aH} {O:Hp} {OB:List aq} {w:World} {F:Nat->Prop} {G:Gl}
theorem Yh {M:List Nat} (hH:bD G w F OB) {i:Nat} {v:Value} {e k:Nat} {rows:List (List AV)} (hi:nth OB i=some (.row v e k rows)) (hM:i∈M):Rel w (eR F OB M) (.sl k rows) v:=by
 obtain⟨vs,h1,h2,h3⟩:=gG hH hi;simp only[Rel];rcases h3 with⟨rfl,h0⟩|⟨g,cap,cur,rfl,_,hg,hn,hcm,hcs,htake⟩
 ·exact .inl ⟨jU h0,_,_,rfl⟩
 ·refine .inr ⟨g,0,cap,vs,rfl,⟨(jo.1 hg).1,O5 hH hi hM (by simp[aq.ids,Value.ownBlock])⟩,hn,hcm,h1.keep (zA M),λj u hj=>?_⟩;rw[<-htake,jq]at hj;split at hj
  ·rw[oS];simp[World.cell?,hg];simpa using hj
  ·cases hj
theorem gV (hh:HS L O OB) (hH:bD G w F OB) (M:List Nat):∀(f:Nat) {xs:List CV} {zs:List AV} {ns:List (Nat×Nat)} {ms:List (Nat×bm)} {ys:List AV} {vs:List Value},b5 O.e f xs=some (zs,ns,ms)->eqs ns->(∀p∈ms,p.1∈M)->
  aS L xs ys->aJ w (Al F OB) ys vs->aJ w (eR F OB M) zs vs/\∀p∈ms,rJ L w (eR F OB M) p
 |0,_,_,_,_,_,_,h,_,_,_,_=>by simp[b5]at h
 |f+1,[],zs,ns,ms,ys,vs,h,_,_,hi,hr=>by
  simp only[b5,aE,cu]at h;obtain⟨rfl,rfl,rfl⟩:=h;simp only[aS]at hi;subst hi;simp only[aJ]at hr;subst hr;exact⟨by simp[aJ],by simp⟩
 |f+1,x::r,zs,ns,ms,ys,vs,h,hn,hM,hi,hr=>by
  simp only[aS]at hi;obtain⟨y,ys,rfl,hy,hi⟩:=hi;simp only[aJ]at hr;obtain⟨v,vs,rfl,hv,hr⟩:=hr;simp only[b5]at h;split at h
  ·cases h
  ·rename_i ao ns0 ms0 h0;have tail:∀{z:AV} {ms':List (Nat×bm)},eqs ns0->(∀p∈ms0,p.1∈M)->Rel w (eR F OB M) z v->(∀p∈ms',rJ L w (eR F OB M) p)->aJ w (eR F OB M) (z::ao) (v::vs)/\∀p∈ms'++ms0,rJ L w (eR F OB M) p:=by
    intro z ms' hn' hM' hz hm;obtain⟨h1,h2⟩:=gV hh hH M f h0 hn' hM' hi hr;refine⟨by simp only[aJ];exact⟨_,_,rfl,hz,h1⟩,λp hp=>?_⟩;rcases cJ.1 hp with hp|hp
    ·exact hm p hp
    ·exact h2 p hp
   cases x with
   |d z=>
    simp only[aE,cu]at h;obtain⟨rfl,rfl,rfl⟩:=h;simp only[aI]at hy;subst hy;simpa using tail (ms':=[]) hn hM (hv.keep (zA M)) (by simp)
   |agg ks=>
    simp only at h;split at h
    ·rename_i us ns' ms' h1;simp only[aE,cu]at h;obtain⟨rfl,rfl,rfl⟩:=h;simp only[aI]at hy;obtain⟨ws,rfl,hy⟩:=hy;simp only[Rel]at hv;obtain⟨qs,rfl,hv⟩:=hv;obtain⟨g1,g2⟩:=mC hn;obtain⟨h2,h3⟩:=gV hh hH M f h1 g1 (λp hp=>hM p (by simp[hp])) hy hv;exact tail g2 (λp hp=>hM p (by simp[hp])) (by simp only[Rel];exact⟨qs,rfl,h2⟩) h3
    ·cases h
   |bN ks=>
    simp only at h;split at h
    ·rename_i us ns' ms' h1;simp only[aE,cu]at h;obtain⟨rfl,rfl,rfl⟩:=h;simp only[aI]at hy;obtain⟨ws,rfl,hy⟩:=hy;simp only[Rel]at hv;obtain⟨qs,rfl,hv⟩:=hv;obtain⟨g1,g2⟩:=mC hn;obtain⟨h2,h3⟩:=gV hh hH M f h1 g1 (λp hp=>hM p (by simp[hp])) hy hv;exact tail g2 (λp hp=>hM p (by simp[hp])) (by simp only[Rel];exact⟨qs,rfl,h2⟩) h3
    ·cases h
   |own t off=>
    simp only[aI]at hy;obtain⟨b,t',hb,rfl⟩:=hy;simp only[Rel]at hv;subst hv;simp only at h;split at h
    ·rename_i cs hcs;split at h
     ·rename_i us ns' ms' h1;simp only[aE,cu]at h;obtain⟨rfl,rfl,rfl⟩:=h;obtain⟨q,hq1,hq2⟩:=hh.en t _ hcs;obtain⟨b',ws,hb',rfl,hws⟩:=hq2;rw[hb]at hb';cases hb';obtain⟨e,qs,hheap,hqs⟩:=gG hH hq1;obtain⟨g1,g2⟩:=mC hn;have htM:t∈M:=hM (t,.lv us) (by simp);obtain⟨h2,h3⟩:=gV hh hH M f h1 g1 (λp hp=>hM p (by simp[hp])) hws hqs;have hip:Rel w (eR F OB M) (.ip us) (.pointer (some ⟨b,0,none⟩)):=by
       simp only[Rel];exact⟨b,0,qs,rfl,⟨(jo.1 hheap).1,O5 hH hq1 htM (by simp[aq.ids])⟩,h2,λj u hj=>by rw[oS];exact sa hheap j u hj⟩
      have:=tail (ms':=(t,.lv us)::ms') g2 (λp hp=>hM p (by simp[hp])) (hip.EB off) (λp hp=>by
       rcases cm.1 hp with rfl|hp
       ·exact⟨b,hb,hip⟩
       ·exact h3 p hp)
      simpa using this
     ·cases h
    ·rename_i us hcs;simp only[aE,cu]at h;obtain⟨rfl,rfl,rfl⟩:=h;obtain⟨q,hq1,hq2⟩:=hh.en t _ hcs;obtain⟨b',hb',rfl⟩:=hq2;rw[hb]at hb';cases hb';have:=tail (ms':=[]) hn hM (((qI hH hq1).keep (zA M)).EB off) (by simp);simpa using this
    ·cases h
   |os t n=>
    simp only[aI]at hy;obtain⟨a,c,t',hb,rfl⟩:=hy;simp only[Rel]at hv;subst hv;simp only at h;split at h
    ·rename_i e k rows hcs;simp only[aE,cu]at h;obtain⟨rfl,rfl,rfl⟩:=h;obtain⟨q,hq1,hq2⟩:=hh.en t _ hcs;obtain⟨⟨a',c',hb',rfl⟩,_⟩:=hq2;have hnl:n=rows.length:=hn.1;subst hnl;rw[hb]at hb';cases hb';have hsl:=Yh (M:=M) hH hq1 (hM (t,.iq k rows) (by simp));have:=tail (ms':=[(t,.iq k rows)]) hn.2 (λp hp=>hM p (by simp[hp])) hsl (λp hp=>by
      simp only[nN]at hp;subst hp;exact⟨a,c,hb,hsl⟩)
     simpa using this
    ·rename_i k rows hcs;simp only[aE,cu]at h;obtain⟨rfl,rfl,rfl⟩:=h;obtain⟨q,hq1,hq2⟩:=hh.en t _ hcs;obtain⟨a',c',hb',rfl⟩:=hq2;have hnl:n=rows.length:=hn.1;subst hnl;rw[hb]at hb';cases hb';have:=tail (ms':=[]) hn.2 hM ((qI hH hq1).keep (zA M)) (by simp);simpa using this
    ·cases h
   |fn g fs cs=>
    simp only at h;split at h
    ·rename_i us ns1 ms1 us2 ns2 ms2 h1 h2;simp only[aE,cu]at h;obtain⟨rfl,rfl,rfl⟩:=h;simp only[aI]at hy;obtain⟨ws,ws2,rfl,hy,hy2⟩:=hy;simp only[Rel]at hv;obtain⟨qs,qs2,rfl,hv,hv2⟩:=hv;obtain⟨g1,g2⟩:=mC hn;obtain⟨g2,g3⟩:=mC g2;obtain⟨h3,h4⟩:=gV hh hH M f h1 g1 (λp hp=>hM p (by simp[hp])) hy hv;obtain⟨h5,h6⟩:=gV hh hH M f h2 g2 (λp hp=>hM p (by simp[hp])) hy2 hv2;have:=tail (ms':=ms1++ms2) g3 (λp hp=>hM p (by simp[hp])) (z:= .fn g us us2) (by simp only[Rel];exact⟨qs,qs2,rfl,h3,h5⟩) (λp hp=>by
      rcases cJ.1 hp with hp|hp
      ·exact h4 p hp
      ·exact h6 p hp)
     simpa using this
    ·cases h
   |bB t k=>
    simp only at h;split at h
    ·rename_i u ns' ms' h1;simp only[aE,cu]at h;obtain⟨rfl,rfl,rfl⟩:=h;simp only[aI]at hy;obtain⟨z,rfl,hy⟩:=hy;simp only[Rel]at hv;obtain⟨q,rfl,hv⟩:=hv;obtain⟨g1,g2⟩:=mC hn;obtain⟨h2,h3⟩:=gV hh hH M f (ys:=[z]) (vs:=[q]) h1 g1 (λp hp=>hM p (by simp[hp])) (by simp only[aS];exact⟨_,_,rfl,hy,rfl⟩) (by simp only[aJ];exact⟨_,_,rfl,hv,rfl⟩);simp only[aJ]at h2;obtain⟨q',_,h4,h5,rfl⟩:=h2;cases h4;exact tail g2 (λp hp=>hM p (by simp[hp])) (by simp only[Rel];exact⟨q,rfl,h5⟩) h3
    ·cases h
   |oe t n off=>cases h
   |om t=>cases h
end
def iE:List (Nat×bm)->Hp->Hp
 |[],O=>O
 |(t,e)::r,O=>(iE r O).set t e
def wg (L:aH) (t:Nat):bm->aq
 | .lv us=> .fact (.ip us) (.pointer (some ⟨(L.b t).getD 0,0,none⟩))
 | .iq k rows=> .fact (.sl k rows) (.slice ((L.s t rows.length).getD (none,0)).1 rows.length ((L.s t rows.length).getD (none,0)).2)
 |_=> .gone
def eO (L:aH):List (Nat×bm)->List aq->List aq
 |[],l=>l
 |(t,e)::r,l=>(eO L r l).set t (wg L t e)
theorem UX {L:aH}:∀(ms:List (Nat×bm)) (l:List aq),(eO L ms l).length=l.length
 |[],_=>rfl
 |(t,e)::r,l=>by simp[eO,UX r l]
theorem Kt {L:aH} {t:Nat} {e:bm}:(wg L t e).ids=[]:=by cases e<;>rfl
theorem Kc {x:aq} (hx:x.ids=[]):∀(l:List aq) (i:Nat),(ids (l.set i x)).Sublist (ids l)
 |[],_=>by simp
 |y::l,0=>by simp only[xI,cF,hx,xM];exact adj _ _
 |y::l,i+1=>by simp only[qe,cF];exact adk (JE _) (Kc hx l i)
theorem vl {L:aH}:∀(ms:List (Nat×bm)) (l:List aq),(ids (eO L ms l)).Sublist (ids l)
 |[],_=>JE _
 |(t,e)::r,l=>(Kc Kt _ _).trans (vl r l)
theorem C1 {L:aH}:∀(ms:List (Nat×bm)) (l:List aq) (i:Nat) (x:aq),nth (eO L ms l) i=some x->(nth l i=some x/\i∉ms.map (·.1))\/∃e,(i,e)∈ms/\x=wg L i e
 |[],_,_,_,h=> .inl ⟨h,by simp⟩
 |(t,e)::r,l,i,x,h=>by
  simp only[eO]at h;by_cases hti:t=i
  ·subst hti;rw[cq]at h;have hlt:t<(eO L r l).length:=by
    have:=(cr.1 h).1;simpa using this
   rw[mA hlt]at h;cases h;exact .inr ⟨e,by simp,rfl⟩
  ·rw[cq,jX hti,<-cq]at h;rcases C1 r l i x h with⟨h1,h2⟩|⟨e',h1,h2⟩
   ·exact .inl ⟨h1,by simp only[dP,cm,not_or];exact⟨λe=>hti e.symm,h2⟩⟩
   ·exact .inr ⟨e',by simp[h1],h2⟩
section
variable {L:aH} {O:Hp} {OB:List aq} {w:World} {F:Nat->Prop} {G:Gl}
theorem Wk {ms:List (Nat×bm)} {b:Nat} (h:eR F OB (ms.map (·.1)) b):Al F (eO L ms OB) b:=by
 refine⟨h.1,λhb=>?_⟩;obtain⟨x,hx,hb⟩:=ef.1 hb;obtain⟨i,hi⟩:=gr hx;rw[<-cq]at hi;rcases C1 ms OB i x hi with⟨h1,h2⟩|⟨e,_,rfl⟩
 ·exact h.2 i x h1 h2 hb
 ·rw[Kt]at hb;cases hb
theorem sq {ms:List (Nat×bm)}:cL w (eR F OB (ms.map (·.1))) w (Al F (eO L ms OB)):=⟨bQ _,λ_ _ h=>⟨Wk h,rfl⟩⟩
theorem zy (hH:bD G w F OB) {ms:List (Nat×bm)} (hm:∀p∈ms,rJ L w (eR F OB (ms.map (·.1))) p):bD G w F (eO L ms OB):=by
 refine hH.facts (vl ms OB) λx hx=>?_;obtain⟨i,hi⟩:=gr hx;rw[<-cq]at hi;rcases C1 ms OB i x hi with⟨h1,_⟩|⟨e,h1,rfl⟩
 ·exact .inl (bw (by rw[<-cq];exact h1))
 ·right;have h2:=hm _ h1;cases e<;>first|exact h2.elim|skip
  ·obtain⟨b,h3,h4⟩:=h2;exact⟨_,_,rfl,by simp only[h3,Uq];exact h4.keep sq⟩
  ·obtain⟨a,c,h3,h4⟩:=h2;exact⟨_,_,rfl,by simp only[h3,Uq];exact h4.keep sq⟩
theorem LQ:∀(ms:List (Nat×bm)) (O:Hp),(iE ms O).n=O.n
 |[],_=>rfl
 |(t,e)::r,O=>by simp[iE,Hp.set,LQ r O]
theorem yV (hh:HS L O OB):∀{ms:List (Nat×bm)},(∀p∈ms,p.1<O.n/\rJ L w F p)->HS L (iE ms O) (eO L ms OB)
 |[],_=>hh
 |(t,e)::r,hm=>by
  have ih:=yV (ms:=r) hh λp hp=>hm p (by simp[hp]);obtain⟨h1,h2⟩:=hm (t,e) (by simp);refine ih.set (.refl L) (λ_ _=>rfl) (λ_ _=>rfl) (by rw[LQ];exact h1) ?_
  cases e<;>first|exact h2.elim|skip
  ·obtain⟨b,h3,_⟩:=h2;exact⟨b,h3,by simp[wg,h3]⟩
  ·obtain⟨a,c,h3,_⟩:=h2;exact⟨a,c,h3,by simp[wg,h3]⟩
theorem rJ.lt (hh:HS L O OB) {A:Nat->Prop} {p:Nat×bm} (h:rJ L w A p):p.1<O.n:=by
 obtain⟨t,e⟩:=p;cases e<;>first|exact h.elim|skip
 ·obtain⟨b,h1,_⟩:=h;rcases mz t O.n with h2|h2
  ·exact h2
  ·rw[(hh.fJ t h2).1]at h1;cases h1
 ·obtain⟨a,c,h1,_⟩:=h;rcases mz t O.n with h2|h2
  ·exact h2
  ·rw[(hh.fJ t h2).2]at h1;cases h1
theorem aJ.one {A:Nat->Prop} {x:AV} {v:Value} (h:Rel w A x v):aJ w A [x] [v]:=by simp only[aJ];exact⟨_,_,rfl,h,rfl⟩
theorem aJ.A1 {A:Nat->Prop} {x:AV} {v:Value} (h:aJ w A [x] [v]):Rel w A x v:=by
 simp only[aJ]at h;obtain⟨v',r,h1,h2,h3⟩:=h;cases h1;exact h2
theorem aS.one {x:CV} {y:AV} (h:aI L x y):aS L [x] [y]:=by simp only[aS];exact⟨_,_,rfl,h,rfl⟩
end
section
variable {E:Env} {N K:Nat} {Q:DQ} {Z:TS} {O:Hp} {o:Oper} {x:CV} {all rest:List Oper}
theorem DO.cH {t:Nat} {z:AV} {ns:List (Nat×Nat)} {ms:List (Nat×bm)} (f:Nat) (hx:Z.get t=some x) (hf:b5 O.e f [x]=some ([z],ns,ms)) (hn:eqs ns) (k:DO E N K all rest Q (Tr.put 24 Z t (some (.d z))) (iE ms O)):DO E N K all rest Q Z O:=λL ZB OB hs hh=>by
 obtain⟨y,h1,h2⟩:=hs t x hx;intro F w0 η0 a w hst hxt;have hv:=(hst.sg.2 t y h1).2;obtain⟨h3,h4⟩:=gV hh hst.hp (ms.map (·.1)) f hf hn (λp hp=>cP.2 ⟨p,hp,rfl⟩) (aS.one h2) (aJ.one hv);have h3:=h3.A1;have hHS:HS L (iE ms O) (eO L ms OB):=yV (w:=w) (F:=eR F OB (ms.map (·.1))) hh λp hp=>⟨(h4 p hp).lt hh,h4 p hp⟩;have hHO:bD E.G w F (eO L ms OB):=zy hst.hp h4;have hsub:∀b∈ids (eO L ms OB),b∈ids OB:=λb hb=>(vl ms OB).subset hb;have hkeep:cL w (Al F OB) w (Al F (eO L ms OB)):=cL.sub hsub;refine k L ((t,z)::ZB) (eO L ms OB) (hs.put (some t) (x:= .d z) (y:=z) rfl) hHS F w0 η0 a w ⟨⟨hst.sg.1,λu q hq=>?_⟩,hHO,hst.df⟩ (hxt.trans ⟨rfl,rfl,rfl,bQ _,λ_ _ _=>rfl,λb hb=> .inl (hsub b hb),.of (bQ _)⟩);simp only[look]at hq;cases hb:Nat.beq t u with
 |true=>
  rw[hb]at hq;simp only[aE]at hq;subst hq;rw[<-bE hb];exact⟨(hst.sg.2 t y h1).1,h3.keep sq⟩
 |false=>
  rw[hb]at hq;exact⟨(hst.sg.2 u q hq).1,(hst.sg.2 u q hq).2.keep hkeep⟩
theorem DC.cH {t:Nat} {z:AV} {ns:List (Nat×Nat)} {ms:List (Nat×bm)} (f:Nat) (hx:Z.get t=some x) (hf:b5 O.e f [x]=some ([z],ns,ms)) (hn:eqs ns) {c:Code} (k:DC E N K c Q (Tr.put 24 Z t (some (.d z))) (iE ms O)):DC E N K c Q Z O:=λL ZB OB hs hh=>by
 obtain⟨y,h1,h2⟩:=hs t x hx;intro F w0 η0 a w hst hxt;have hv:=(hst.sg.2 t y h1).2;obtain⟨h3,h4⟩:=gV hh hst.hp (ms.map (·.1)) f hf hn (λp hp=>cP.2 ⟨p,hp,rfl⟩) (aS.one h2) (aJ.one hv);have h3:=h3.A1;have hHS:HS L (iE ms O) (eO L ms OB):=yV (w:=w) (F:=eR F OB (ms.map (·.1))) hh λp hp=>⟨(h4 p hp).lt hh,h4 p hp⟩;have hHO:bD E.G w F (eO L ms OB):=zy hst.hp h4;have hsub:∀b∈ids (eO L ms OB),b∈ids OB:=λb hb=>(vl ms OB).subset hb;have hkeep:cL w (Al F OB) w (Al F (eO L ms OB)):=cL.sub hsub;refine k L ((t,z)::ZB) (eO L ms OB) (hs.put (some t) (x:= .d z) (y:=z) rfl) hHS F w0 η0 a w ⟨⟨hst.sg.1,λu q hq=>?_⟩,hHO,hst.df⟩ (hxt.trans ⟨rfl,rfl,rfl,bQ _,λ_ _ _=>rfl,λb hb=> .inl (hsub b hb),.of (bQ _)⟩);simp only[look]at hq;cases hb:Nat.beq t u with
 |true=>
  rw[hb]at hq;simp only[aE]at hq;subst hq;rw[<-bE hb];exact⟨(hst.sg.2 t y h1).1,h3.keep sq⟩
 |false=>
  rw[hb]at hq;exact⟨(hst.sg.2 u q hq).1,(hst.sg.2 u q hq).2.keep hkeep⟩
def b4 (z y:AV):Prop:=∀w A v,Rel w A z v->Rel w A y v
inductive bZ:List AV->List AV->Prop where
 |nil:bZ [] []
 |cons {x y:AV} {xs ys:List AV}:b4 x y->bZ xs ys->bZ (x::xs) (y::ys)
theorem b4.refl (x:AV):b4 x x:=λ_ _ _ h=>h
theorem bZ.refl:∀(xs:List AV),bZ xs xs
 |[]=> .nil
 |x::xs=> .cons (.refl x) (bZ.refl xs)
theorem bZ.rel {w:World} {A:Nat->Prop}:∀{xs ys:List AV} {vs:List Value},bZ xs ys->aJ w A xs vs->aJ w A ys vs
 |_,_,_,.nil,h=>h
 |_,_,_,.cons h t,hr=>by
  simp only[aJ]at hr⊢;obtain⟨v,r,rfl,h1,h2⟩:=hr;exact⟨v,r,rfl,h _ _ _ h1,bZ.rel t h2⟩
theorem b4.nil (k:Nat):b4 (.v (.slice none 0 0)) (.sl k []):=λw A v h=>by
 simp only[Rel]at h⊢;subst h;exact .inl ⟨trivial,_,_,rfl⟩
theorem b4.agg {xs ys:List AV} (h:bZ xs ys):b4 (.agg xs) (.agg ys):=λw A v hr=>by
 simp only[Rel]at hr⊢;obtain⟨vs,rfl,h1⟩:=hr;exact⟨vs,rfl,h.rel h1⟩
theorem b4.bN {xs ys:List AV} (h:bZ xs ys):b4 (.bN xs) (.bN ys):=λw A v hr=>by
 simp only[Rel]at hr⊢;obtain⟨vs,rfl,h1⟩:=hr;exact⟨vs,rfl,h.rel h1⟩
theorem b4.ip {xs ys:List AV} (h:bZ xs ys):b4 (.ip xs) (.ip ys):=λw A v hr=>by
 simp only[Rel]at hr⊢;obtain⟨b,o,vs,e1,e2,e3,e4⟩:=hr;exact⟨b,o,vs,e1,e2,h.rel e3,e4⟩
theorem b4.fn {f:FuncId} {fs fs' cs cs':List AV} (h:bZ fs fs') (g:bZ cs cs'):b4 (.fn f fs cs) (.fn f fs' cs'):=λw A v hr=>by
 simp only[Rel]at hr⊢;obtain⟨us,vs,e,h1,h2⟩:=hr;exact⟨us,vs,e,h.rel h1,g.rel h2⟩
theorem b4.bB {t:TypeId} {x y:AV} (h:b4 x y):b4 (.bB t x) (.bB t y):=λw A v hr=>by
 simp only[Rel]at hr⊢;obtain⟨u,e,h1⟩:=hr;exact⟨u,e,h _ _ _ h1⟩
inductive dm:List (List AV)->List (List AV)->Prop where
 |nil:dm [] []
 |cons {x y:List AV} {xs ys:List (List AV)}:bZ x y->dm xs ys->dm (x::xs) (y::ys)
theorem bZ.length {xs ys:List AV} (h:bZ xs ys):ys.length=xs.length:=by induction h with|nil=>rfl|cons _ _ ih=>simp[ih]
theorem dm.length {xs ys:List (List AV)} (h:dm xs ys):ys.length=xs.length:=by induction h with|nil=>rfl|cons _ _ ih=>simp[ih]
theorem dm.refl:∀(xs:List (List AV)),dm xs xs
 |[]=> .nil
 |x::xs=> .cons (.refl x) (dm.refl xs)
theorem dm.rel {w:World} {A:Nat->Prop} {k:Nat}:∀{xs ys:List (List AV)} {vs:List Value},dm xs ys->bu w A k xs vs->bu w A k ys vs
 |_,_,_,.nil,h=>h
 |_,_,_,.cons h t,hr=>by
  simp only[bu]at hr⊢;obtain⟨v1,v2,rfl,h0,h1,h2⟩:=hr;exact⟨v1,v2,rfl,by rw[h.length];exact h0,h.rel h1,dm.rel t h2⟩
theorem b4.sl {k:Nat} {xs ys:List (List AV)} (h:dm xs ys):b4 (.sl k xs) (.sl k ys):=λw A v hr=>by
 simp only[Rel]at hr⊢;rcases hr with⟨rfl,h1⟩|⟨b,o,cap,vs,e1,e2,e3,e4,e5,e6⟩
 ·cases h;exact .inl ⟨rfl,h1⟩
 ·exact .inr ⟨b,o,cap,vs,by rw[h.length];exact e1,e2,by rw[h.length];exact e3,e4,h.rel e5,e6⟩
theorem dm.append {xs ys xs' ys':List (List AV)} (h:dm xs ys) (g:dm xs' ys'):dm (xs++xs') (ys++ys'):=by
 induction h with
 |nil=>exact g
 |cons h _ ih=>exact .cons h ih
theorem b4.trans {x y z:AV} (h:b4 x y) (g:b4 y z):b4 x z:=λw A v hr=>g w A v (h w A v hr)
def cU:AV->Bool
 | .v _=>true
 | .agg xs=>go xs
 | .bN xs=>go xs
 | .bB _ x=>cU x
 |_=>false
where go:List AV->Bool
 |[]=>true
 |x::r=>match cU x with
  |true=>go r
  |false=>false
mutual
theorem ya {w:World} {A A':Nat->Prop}:∀{x:AV} {v:Value},cU x=true->Rel w A x v->Rel w A' x v
 | .v _,_,_,h=>by simp only[Rel]at h⊢;exact h
 | .agg xs,_,hf,h=>by simp only[Rel]at h⊢;obtain⟨vs,e,h1⟩:=h;exact⟨vs,e,Cp (by simpa[cU]using hf) h1⟩
 | .bN xs,_,hf,h=>by simp only[Rel]at h⊢;obtain⟨vs,e,h1⟩:=h;exact⟨vs,e,Cp (by simpa[cU]using hf) h1⟩
 | .bB t x,_,hf,h=>by simp only[Rel]at h⊢;obtain⟨u,e,h1⟩:=h;exact⟨u,e,ya (by simpa[cU]using hf) h1⟩
 | .sl _ _,_,hf,_=>by simp[cU]at hf
 | .ip _,_,hf,_=>by simp[cU]at hf
 | .own _ _ _,_,hf,_=>by simp[cU]at hf
 | .os _ _ _ _,_,hf,_=>by simp[cU]at hf
 | .oe _ _ _,_,hf,_=>by simp[cU]at hf
 | .om _ _,_,hf,_=>by simp[cU]at hf
 | .fn _ _ _,_,hf,_=>by simp[cU]at hf
theorem Cp {w:World} {A A':Nat->Prop}:∀{xs:List AV} {vs:List Value},cU.go xs=true->aJ w A xs vs->aJ w A' xs vs
 |[],_,_,h=>by simp only[aJ]at h⊢;exact h
 |x::r,_,hf,h=>by
  simp only[cU.go]at hf;split at hf
  ·rename_i hx;simp only[aJ]at h⊢;obtain⟨v,r',e,h1,h2⟩:=h;exact⟨v,r',e,ya hx h1,Cp hf h2⟩
  ·cases hf
end
def cT (Z:TS) (f:Operand) (args:List Operand):Option (FuncId×List CV):=
 match a6 Z f,rK Z args with
 |some (.d (.v (.func (.func g) fa cs))),some xs=>some (g,(fa.toList.map .v).map .d++xs++(cs.toList.map .v).map .d)
 |some (.d (.fn g fs cs)),some xs=>some (g,fs.map .d++xs++cs.map .d)
 |some (.fn g fs cs),some xs=>some (g,fs++xs++cs)
 |_,_=>none
theorem nP {L:aH} {s:Sl} (hs:SS L Z s) {f:Operand} {args:List Operand} {g:FuncId} {cs:List CV} (h:cT Z f args=some (g,cs)):∃ys,callee s f args=some (g,ys)/\aS L cs ys:=by
 unfold cT at h;split at h
 ·rename_i g' fa qs xs h1 h2;simp only[aE,cu]at h;obtain⟨rfl,rfl⟩:=h;obtain⟨y,h3,h4⟩:=cg hs h1;simp only[aI]at h4;subst h4;obtain⟨ys,h5,h6⟩:=sB hs h2;exact⟨_,by simp only[callee,h3,h5],((gA _).append h6).append (gA _)⟩
 ·rename_i g' fs qs xs h1 h2;simp only[aE,cu]at h;obtain⟨rfl,rfl⟩:=h;obtain⟨y,h3,h4⟩:=cg hs h1;simp only[aI]at h4;subst h4;obtain⟨ys,h5,h6⟩:=sB hs h2;exact⟨_,by simp only[callee,h3,h5],((gA _).append h6).append (gA _)⟩
 ·rename_i g' fs qs xs h1 h2;simp only[aE,cu]at h;obtain⟨rfl,rfl⟩:=h;obtain⟨y,h3,h4⟩:=cg hs h1;simp only[aI]at h4;obtain⟨us,vs,rfl,h4,h4'⟩:=h4;obtain⟨ys,h5,h6⟩:=sB hs h2;exact⟨_,by simp only[callee,h3,h5],(h4.append h6).append h4'⟩
 ·cases h
theorem C0 {L:aH} {OB:List aq} {w:World} {F:Nat->Prop} {g:FuncId} {cs:List CV} {ys xs' xs:List AV} {vs:List Value} {ns:List (Nat×Nat)} {ms:List (Nat×bm)} {res:AR} (fl:Nat) (h:Pure E.toCx g xs res)
  (hf:b5 O.e fl cs=some (xs',ns,ms)) (hn:eqs ns) (hi:bZ xs' xs) (hl:ms=[]\/(match res with| .ret x=>cU x| .aO x=>cU x)=true) (hh:HS L O OB) (hH:bD E.G w F OB) (hcs:aS L cs ys) (hr:aJ w (Al F OB) ys vs):
  Calls E.P g vs.toArray w λe w'=>AR.rel w' (Al F OB) res e/\gP w w':=by
 obtain⟨h3,h4⟩:=gV hh hH (ms.map (·.1)) fl hf hn (λp hp=>cP.2 ⟨p,hp,rfl⟩) hcs hr;have hHO:bD E.G w F (eO L ms OB):=zy hH h4;have hx:=hi.rel h3;have hx':aJ w (Al F (eO L ms OB)) xs vs:=hx.keep sq;refine(h.run hHO hx').mono ?_;rintro e w' ⟨hv,_,hext,hsame⟩;refine⟨?_,⟨hext.os,hext.drawn⟩,hext.tape,hext.output,hext.size,hsame⟩;rcases hl with rfl|hl
 ·exact hv
 ·cases res with
  |ret x=>obtain⟨v,rfl,hv⟩:=hv;exact⟨v,rfl,ya hl hv⟩
  |aO x=>obtain⟨v,rfl,hv⟩:=hv;exact⟨v,rfl,ya hl hv⟩
theorem bg.pure {f:Operand} {args:List Operand} {g:FuncId} {cs:List CV} {xs' xs:List AV} {ns:List (Nat×Nat)} {ms:List (Nat×bm)} {res:AV} {tys:Array TypeId} (fl:Nat) (ho:o.op= .call {callee:= .value f,args:=args.toArray,argTypes:=tys})
  (h:Pure E.toCx g xs (.ret res)) (hc:cT Z f args=some (g,cs)) (hf:b5 O.e fl cs=some (xs',ns,ms)) (hn:eqs ns) (hi:bZ xs' xs) (hl:ms=[]\/cU res=true):bg E N o Z O (.d res):=λL s OB hs hh=>by
 obtain⟨ys,hcal,hcs⟩:=nP hs hc;refine⟨res,rfl,λF w a hN _ hH hopd K' Q' k=>?_⟩;have hmem:∀p,p=f\/p∈args->p∈o.op.operands.toList:=by
  rintro p hp;rw[ho];rcases hp with rfl|hp
  ·simp[Op.operands,Call.operands]
  ·simp[Op.operands,Call.operands,hp]
 have hc':callee (look (dA s (tmpsOf o))) f args=some (g,ys):=by
  unfold callee at hcal⊢;rw[fB (hmem f (.inl rfl)),sC λp hp=>fB (hmem p (.inr hp))];exact hcal
 have hsl:eY w (Al F OB) N a (look (dA s (tmpsOf o))):=⟨hN,λt y hy=>by obtain⟨h1,h2⟩:=kg hy;exact hopd t h1 y h2⟩;obtain⟨vs,h1,h2⟩:=sr (P:=E.P) hsl hc' (tys:=tys) (dst:=o.dst) (ty:=o.type) (pos:=o.pos) (after:=o.after) (gd:=o.guard) h.1;have ho':o=⟨o.dst,.call {callee:= .value f,args:=args.toArray,argTypes:=tys},o.type,o.pos,o.after,o.guard⟩:=by rw[<-ho]
 rw[<-ho']at h2;unfold Oper.wp;rw[h2 w,Oper.upon_enter];refine(C0 fl h hf hn hi hl hh hH hcs h1).mono ?_;rintro e w' ⟨⟨v,rfl,hv⟩,hcls⟩;exact k v w' hv hcls
theorem DO.pure {dst:Option Nat} {f:Operand} {args:List Operand} {g:FuncId} {cs:List CV} {xs' xs:List AV} {ns:List (Nat×Nat)} {ms:List (Nat×bm)} {res:AV} {tys:Array TypeId} {ty:TypeId} {pos:String} {after:Array Edge} (fl:Nat)
  (h:Pure E.toCx g xs (.ret res)) (hc:cT Z f args=some (g,cs)) (hf:b5 O.e fl cs=some (xs',ns,ms)) (hn:eqs ns) (hi:bZ xs' xs) (hl:ms=[]\/cU res=true) (hd:ck N dst=true)
  (k:DO E N K all rest Q (bW Z dst (.d res)) O):DO E N K all (⟨dst,.call {callee:= .value f,args:=args.toArray,argTypes:=tys},ty,pos,after,none⟩::rest) Q Z O:=
 DO.oH rfl hd (bg.pure fl rfl h hc hf hn hi hl) k
theorem DO.sY {dst:Option Nat} {f:Operand} {args:List Operand} {g:FuncId} {cs:List CV} {xs' xs:List AV} {ns:List (Nat×Nat)} {ms:List (Nat×bm)} {res:AV} {tys:Array TypeId} {ty:TypeId} {pos:String} {after:Array Edge} (fl:Nat)
  (h:Pure E.toCx g xs (.aO res)) (hc:cT Z f args=some (g,cs)) (hf:b5 O.e fl cs=some (xs',ns,ms)) (hn:eqs ns) (hi:bZ xs' xs) (hl:ms=[]\/cU res=true)
  (k:Q (.aO (.d res)) .lf O):DO E N K all (⟨dst,.call {callee:= .value f,args:=args.toArray,argTypes:=tys},ty,pos,after,none⟩::rest) Q Z O:=λL ZB OB hs hh=>by
 obtain⟨ys,hcal,hcs⟩:=nP hs hc;intro F w0 η0 a w hst hxt;unfold wpList;rw[dj (by simp[Region.wanted])];refine .inl ?_;obtain⟨vs,h1,h2⟩:=sr (P:=E.P) hst.sg hcal (tys:=tys) (dst:=dst) (ty:=ty) (pos:=pos) (after:=after) (gd:=none) h.1;unfold Oper.wp;rw[h2 w,Oper.upon_enter];refine(C0 fl h hf hn hi hl hh hst.hp hcs h1).mono ?_;rintro e w' ⟨⟨v,rfl,hv⟩,hcls⟩;refine⟨.aO res,[],OB,⟨L,.aO (.d res),.lf,O,.refl K L,⟨res,rfl,rfl⟩,λt x hx=>by simp[Tr.jD]at hx,hh,k⟩,⟨v,rfl,hv⟩,⟨⟨hst.sg.1,λt x hx=>by simp[AE.sl,look]at hx⟩,hst.hp.later hcls.2.2.2,hst.df⟩,hxt.trans hcls.ext⟩
inductive DR where
 |ret (x:CV)
 |aO (x:CV)
def DR.inst (L:aH):DR->AR->Prop
 | .ret x,r=>∃y,r= .ret y/\aI L x y
 | .aO x,r=>∃y,r= .aO y/\aI L x y
def PY (K:Nat) (L:aH) (Q:DR->Hp->Prop):AR->List aq->Prop:=λr OB=>∃L' d O,aH.fK K L L'/\DR.inst L' d r/\HS L' O OB/\Q d O
def eh (E:Env) (g:FuncId) (args:List CV) (O:Hp) (Q:DR->Hp->Prop):Prop:=∀L ys OB,aS L args ys->HS L O OB->iX E.toCx g ys OB (PY O.n L Q)
theorem HS.fK {L L':aH} {OB:List aq} (hh:HS L O OB) (h:aH.fK O.n L L'):L.le L':=by
 refine⟨λt x hx=>?_,λt n x hx=>?_⟩
 ·rcases mz t O.n with h1|h1
  ·exact(h t h1).1 x hx
  ·rw[(hh.fJ t h1).1]at hx;cases hx
 ·rcases mz t O.n with h1|h1
  ·exact(h t h1).2 n x hx
  ·rw[(hh.fJ t h1).2]at hx;cases hx
theorem DO.call {dst:Option Nat} {f:Operand} {args:List Operand} {g:FuncId} {cs:List CV} {Q':DR->Hp->Prop} {tys:Array TypeId} {ty:TypeId} {pos:String} {after:Array Edge}
  (h:eh E g cs O Q') (hc:cT Z f args=some (g,cs)) (hd:ck N dst=true) (k1:∀x O',Q' (.ret x) O'->DO E N K all rest Q (bW Z dst x) O') (k2:∀x O',Q' (.aO x) O'->Q (.aO x) .lf O'):
  DO E N K all (⟨dst,.call {callee:= .value f,args:=args.toArray,argTypes:=tys},ty,pos,after,none⟩::rest) Q Z O:=λL ZB OB hs hh=>by
 obtain⟨ys,h1,h2⟩:=nP hs hc;refine bo.aag (h L ys OB h2 hh) h1 hd ?_ ?_
 ·rintro y OB' ⟨L',r,O',h3,h4,h5,h6⟩;have hl:=hh.fK h3;cases r with
  |ret x=>
   obtain⟨y',e,h4⟩:=h4;cases e;exact DO.up hl (k1 x O' h6 L' _ OB' ((hs.mono hl).put dst h4) h5)
  |aO x=>obtain⟨y',e,_⟩:=h4;cases e
 ·rintro y OB' ⟨L',r,O',h3,h4,h5,h6⟩;have hl:=hh.fK h3;cases r with
  |ret x=>obtain⟨y',e,_⟩:=h4;cases e
  |aO x=>
   obtain⟨y',e,h4⟩:=h4;cases e;exact⟨L',.aO x,.lf,O',hl.toK K,⟨y,rfl,h4⟩,λt x hx=>by simp[Tr.jD]at hx,h5,k2 x O' h6⟩
def gH:Nat->List CV->TS
 |_,[]=> .lf
 |n,x::xs=>Tr.put 24 (gH (n+1) xs) n (some x)
theorem K2 {L:aH}:∀{xs:List CV} {ys:List AV} (n:Nat),aS L xs ys->SS L (gH n xs) (look (pW n ys))
 |[],ys,n,_=>λt x hx=>by simp[gH,Tr.jD]at hx
 |x::xs,ys,n,h=>by
  simp only[aS]at h;obtain⟨y,r,rfl,h1,h2⟩:=h;have:=K2 (n+1) h2;exact this.put (some n) h1
def Fh (T:bX) (Z:TS) (O:Hp):ResultVar->Option CV
 | .tmp t=>Z.get t
 | .cell a t=>match Z.get a,a7 T t with
  |some (.own i 0),some ⟨d,k,_,_⟩=>match O.e.get i with
   |some (.box cs)=>match d.agg with
    |true=>match Nat.ble k cs.length with
     |true=>some (uh (cs.take k))
     |false=>none
    |false=>nth cs 0
   |_=>none
  |some (.d (.ip cs)),some ⟨d,k,_,_⟩=>match d.agg,fits cs k with
   |true,true=>some (.d (.agg (cs.take k)))
   |_,_=>none
  |_,_=>none
def dT (T:bX) (Z:TS) (O:Hp):List ResultVar->Option (List CV)
 |[]=>some []
 |r::rs=>match Fh T Z O r,dT T Z O rs with
  |some x,some xs=>some (x::xs)
  |_,_=>none
def eI:List CV->CV
 |[x]=>x
 |xs=>Fi xs
theorem Xg {L:aH} {ZB:Sg} {OB:List aq} {T:bX} (hs:SS L Z (look ZB)) (hh:HS L O OB) {r:ResultVar} (h:Fh T Z O r=some x):∃y,pM T ZB OB r y/\aI L x y:=by
 cases r with
 |tmp t=>obtain⟨y,h1,h2⟩:=hs t x h;exact⟨y,.tmp h1,h2⟩
 |cell a t=>
  simp only[Fh]at h;split at h
  ·rename_i i d k b z ha ht;split at h
   ·rename_i cs hcs;obtain⟨y,h1,h2⟩:=hs a _ ha;simp only[aI]at h2;obtain⟨bk,t',h2,rfl⟩:=h2;obtain⟨q,h3,h4⟩:=hh.en i _ hcs;obtain⟨bk',us,h5,rfl,h6⟩:=h4;rw[h2]at h5;cases h5;split at h
    ·rename_i hd;split at h
     ·rename_i hle;simp only[aE]at h;subst h;exact⟨_,.PZ h1 h3 ht hd (CD (by rw[h6.length];exact dD hle)),yH (h6.take k)⟩
     ·cases h
    ·rename_i hd;obtain⟨y,h7,h8⟩:=h6.nth h;cases us with
     |nil=>simp[nth]at h7
     |cons u us=>
      simp only[nth,aE]at h7;subst h7;exact⟨_,.O6 h1 h3 ht hd,h8⟩
   ·cases h
  ·rename_i cs d k b z ha ht;split at h
   ·rename_i hd hf;simp only[aE]at h;subst h;obtain⟨y,h1,h2⟩:=hs a _ ha;simp only[aI]at h2;subst h2;exact⟨_,.P0 h1 ht hd hf,rfl⟩
   ·cases h
  ·cases h
theorem Nf {L:aH} {ZB:Sg} {OB:List aq} {T:bX} (hs:SS L Z (look ZB)) (hh:HS L O OB):∀{rs:List ResultVar} {xs:List CV},dT T Z O rs=some xs->∃ys,uG T ZB OB rs ys/\aS L xs ys
 |[],xs,h=>by simp only[dT,aE]at h;subst h;exact⟨[],.nil,by simp[aS]⟩
 |r::rs,xs,h=>by
  simp only[dT]at h;split at h
  ·rename_i x xs' h1 h2;simp only[aE]at h;subst h;obtain⟨y,h3,h4⟩:=Xg hs hh h1;obtain⟨ys,h5,h6⟩:=Nf hs hh h2;exact⟨y::ys,.cons h3 h5,by simp only[aS];exact⟨_,_,rfl,h4,h6⟩⟩
  ·cases h
theorem Vy {L:aH} {xs:List CV} {ys:List AV} (h:aS L xs ys):aI L (eI xs) (wE ys):=by
 match xs,ys,h with
 |[],ys,h=>exact Kv (xs:=[]) h|>λz=>by simp only[aS]at h;subst h;exact z
 |[x],ys,h=>simp only[aS]at h;obtain⟨y,r,rfl,h1,rfl⟩:=h;exact h1
 |x::x'::r,ys,h=>
  have h0:=h;simp only[aS]at h0;obtain⟨y,r,rfl,h1,y',r',rfl,h2,h3⟩:=h0;exact Kv h
def RD (T:bX) (rs:List ResultVar) (Q:DR->Hp->Prop):DQ:=λe Z O=>match e with
 | .norm=>∃xs,dT T Z O rs=some xs/\Q (.ret (eI xs)) O
 | .ret=>∃xs,dT T Z O rs=some xs/\Q (.ret (eI xs)) O
 | .exit _=>False
 | .aO x=>Q (.aO x) O
theorem eh.enter {f:FuncId} {fn:Func} {c:Code} {args:List CV} {Q:DR->Hp->Prop} (hf:E.P.funcs[f]? =some fn) (hb:fn.body=some c) (hname:(fn.name== "runtime.NumGoroutine")=false)
  (rs:List ResultVar) (hrs:fn.results=rs.toArray) (nt:Nat) (hnt:fn.ntmps=nt) (hn:Nat.ble args.length nt=true) (h:DC E nt O.n c (RD E.T rs Q) (gH 0 args) O):eh E f args O Q:=λL ys OB hi hh=>by
 refine iX.enter (E:=E) hf hb hname rs hrs nt hnt (by rw[hi.length];exact hn) (bK.mono (h L (pW 0 ys) OB (K2 0 hi) hh) ?_);rintro e ZB' OB' ⟨L',d,σ',O',h1,h2,h3,h4,h5⟩;have main:(∃xs,dT E.T σ' O' rs=some xs/\Q (.ret (eI xs)) O')->RQ E.T rs (PY O.n L Q) ZB' OB':=by
  rintro ⟨xs,h6,h7⟩;obtain⟨zs,h8,h9⟩:=Nf h3 h4 h6;exact⟨zs,h8,L',.ret (eI xs),O',h1,⟨_,rfl,Vy h9⟩,h4,h7⟩
 cases d with
 |norm=>simp only[DE.inst]at h2;subst h2;exact main h5
 |ret=>simp only[DE.inst]at h2;subst h2;exact main h5
 |exit i=>exact h5.elim
 |aO x=>obtain⟨y,rfl,h2⟩:=h2;exact⟨L',.aO x,O',h1,⟨y,rfl,h2⟩,h4,h5⟩
theorem eh.mono {f:FuncId} {args:List CV} {Q Q':DR->Hp->Prop} (h:eh E f args O Q) (hq:∀r O',Q r O'->Q' r O'):eh E f args O Q':=λL ys OB hi hh=>
 (h L ys OB hi hh).mono λ_ _ ⟨L',d,O',h1,h2,h3,h4⟩=>⟨L',d,O',h1,h2,h3,hq _ _ h4⟩
def Hp.nil:Hp:=⟨.lf,0⟩
theorem HS.nil (L:aH) (h:∀t,L.b t=none/\∀n,L.s t n=none):HS L Hp.nil []:=⟨λi x hx=>by simp[Hp.nil,Tr.jD]at hx,rfl,λt _=>h t⟩
def Ends (f:Nat) (res:AR):DR->Hp->Prop
 | .ret x,O=>∃z ns ms,b5 O.e f [x]=some ([z],ns,ms)/\eqs ns/\∃y,res= .ret y/\b4 z y
 | .aO x,O=>∃z ns ms,b5 O.e f [x]=some ([z],ns,ms)/\eqs ns/\∃y,res= .aO y/\b4 z y
theorem Pure.TZ {g:FuncId} {args:List AV} {res:AR} (f:Nat) (h:eh E g (args.map .d) Hp.nil (Ends f res)):Pure E.toCx g args res:=by
 have h0:=h ⟨λ_=>none,λ_ _=>none⟩ args [] (gA args) (HS.nil _ λ_=>⟨rfl,λ_=>rfl⟩);refine⟨h0.1,λF w vs hH hr=>(h0.2 F w vs hH hr).mono ?_⟩;rintro e w' ⟨r,OB,⟨L',d,O,h1,h2,h3,h4⟩,hv,hh,hx⟩;have hA:∀b,eR F OB (List.range OB.length) b->Al F [] b:=λb hb=>⟨hb.1,by simp[ids]⟩;have hk:∀M:List Nat,cL w' (eR F OB M) w' (Al F []):=λM=>⟨bQ _,λb _ hb=>⟨⟨hb.1,by simp[ids]⟩,rfl⟩⟩;have fin:∀{x:CV} {y:AV} {v:Value},(∃z ns ms,b5 O.e f [x]=some ([z],ns,ms)/\eqs ns/\b4 z y)->(∃u,aI L' x u/\Rel w' (Al F OB) u v)->Rel w' (Al F []) y v:=by
  rintro x y v ⟨z,ns,ms,g1,g2,g3⟩ ⟨u,g4,g5⟩;obtain⟨g6,_⟩:=gV h3 hh (ms.map (·.1)) f g1 g2 (λp hp=>cP.2 ⟨p,hp,rfl⟩) (aS.one g4) (aJ.one g5);exact g3 _ _ _ (g6.A1.keep (hk _))
 have hres:AR.rel w' (Al F []) res e:=by
  cases d with
  |ret x=>
   obtain⟨u,rfl,h5⟩:=h2;obtain⟨z,ns,ms,g1,g2,y,rfl,g3⟩:=h4;obtain⟨v,rfl,hv⟩:=hv;exact⟨v,rfl,fin ⟨z,ns,ms,g1,g2,g3⟩ ⟨u,h5,hv⟩⟩
  |aO x=>
   obtain⟨u,rfl,h5⟩:=h2;obtain⟨z,ns,ms,g1,g2,y,rfl,g3⟩:=h4;obtain⟨v,rfl,hv⟩:=hv;exact⟨v,rfl,fin ⟨z,ns,ms,g1,g2,g3⟩ ⟨u,h5,hv⟩⟩
 exact⟨res,[],⟨rfl,rfl⟩,hres,hh.none,⟨hx.os,hx.tape,hx.output,hx.size,hx.block,by simp[ids],hx.drawn⟩⟩
end
def rG (P:Program) (Z:TS) (O:Hp):Op->Option (CV×List (Nat×Nat))
 | .binOp .eql t x y _=>match P.underlying t,a6 Z x,a6 Z y with
  |some (.slice _),some (.os i (n+1)),some (.d (.v (.slice none 0 0)))=>match O.e.get i with
   |some (.row _ _ rows)=>some (.d (.v (.bool false)),[(n+1,rows.length)])
   |some (.iq _ rows)=>some (.d (.v (.bool false)),[(n+1,rows.length)])
   |_=>none
  |_,_,_=>none
 | .binOp .neq t x y _=>match P.underlying t,a6 Z x,a6 Z y with
  |some (.slice _),some (.os i (n+1)),some (.d (.v (.slice none 0 0)))=>match O.e.get i with
   |some (.row _ _ rows)=>some (.d (.v (.bool true)),[(n+1,rows.length)])
   |some (.iq _ rows)=>some (.d (.v (.bool true)),[(n+1,rows.length)])
   |_=>none
  |_,_,_=>none
 |_=>none
section
variable {E:Env} {N:Nat} {Z:TS} {O:Hp} {o:Oper}
theorem An {L:aH} {s:Sl} {OB:List aq} (hs:SS L Z s) (hh:HS L O OB) {x:Operand} {i n:Nat} (hx:a6 Z x=some (.os i (n+1))) {rows:List (List AV)} (hn:n+1=rows.length) (hi:(∃e k,O.e.get i=some (.row e k rows))\/∃k,O.e.get i=some (.iq k rows)):
  ∃t' a c,ev s x=some (.os t' a (n+1) c)/\∀{G:Gl} {w:World} {F:Nat->Prop},bD G w F OB->a.isNone=false:=by
 obtain⟨y,h1,h2⟩:=cg hs hx;simp only[aI]at h2;obtain⟨a,c,t',h3,rfl⟩:=h2;refine⟨t',a,c,h1,λhH=>?_⟩;rcases hi with⟨e,k,hi⟩|⟨k,hi⟩
 ·obtain⟨q,h4,h5⟩:=hh.en i _ hi;obtain⟨⟨a',c',h6,rfl⟩,_⟩:=h5;rw[<-hn,h3]at h6;cases h6;obtain⟨vs,_,h7⟩:=gG hH h4;obtain⟨_,h8|⟨g,cap,cur,h9,_⟩⟩:=h7
  ·omega
  ·cases h9;rfl
 ·obtain⟨q,h4,h5⟩:=hh.en i _ hi;obtain⟨a',c',h6,rfl⟩:=h5;rw[<-hn,h3]at h6;cases h6;have:=qI hH h4;simp only[Rel]at this;rcases this with⟨rfl,_⟩|⟨b,o,cap,vs,h1,_⟩
  ·simp at hn
  ·cases h1;rfl
theorem yW {s:Sl} {OB:List aq} {t e:TypeId} {x y:Operand} {yt:TypeId} {t':Nat} {a:Option Addr} {n c:Nat} (neg:Bool) (ho:o.op= .binOp (if neg then .neq else .eql) t x y yt) (hu:E.P.underlying t=some (.slice e)) (hx:ev s x=some (.os t' a n c)) (hy:ev s y=some (.v (.slice none 0 0)))
  (ha:∀{G:Gl} {w:World} {F:Nat->Prop},bD G w F OB->a.isNone=false):bV E.toCx N o s OB (.v (.bool neg)):=by
 refine bV.oK λF act w hst=>?_;have h1:=bA hst.sg (show ev (look (dA s (tmpsOf o))) x=some (.os t' a n c)by rw[fB (by rw[ho];cases neg<;>simp[Op.operands])];exact hx);have h2:=bA hst.sg (show ev (look (dA s (tmpsOf o))) y=some (.v (.slice none 0 0))by rw[fB (by rw[ho];cases neg<;>simp[Op.operands])];exact hy);simp only[Rel]at h1 h2;have h0:=ha hst.hp;refine⟨_,fG _,λw' _=>?_⟩;have h3:binOp .eql t (.slice a n c) (.slice none 0 0)=(do pure (.bool (<-Op.equal t (.slice a n c) (.slice none 0 0))):Sem Value):=rfl;have h4:binOp .neq t (.slice a n c) (.slice none 0 0)=(do pure (.bool (!(<-Op.equal t (.slice a n c) (.slice none 0 0)))):Sem Value):=rfl;cases neg
 ·simp[execOp,ho,h1,h2,eqGuard,h3,yZ hu,h0]
 ·simp[execOp,ho,h1,h2,eqGuard,h4,yZ hu,h0]
theorem bg.rG {x:CV} {ns:List (Nat×Nat)} (h:rG E.P Z O o.op=some (x,ns)) (hn:eqs ns):bg E N o Z O x:=λL s OB hs hh=>by
 unfold Bw.rG at h;split at h
 ·rename_i t x y yt ho;split at h
  ·rename_i e i n hu hx hy;have hyy:ev s y=some (.v (.slice none 0 0)):=by
    obtain⟨z,g1,g2⟩:=cg hs hy;simp only[aI]at g2;subst g2;exact g1
   split at h
   ·rename_i e' k rows hi;simp only[aE,cu]at h;obtain⟨rfl,rfl⟩:=h;obtain⟨t',a,c,h1,h2⟩:=An hs hh hx hn.1 (.inl ⟨_,_,hi⟩);exact⟨_,rfl,yW false (by simpa using ho) hu h1 hyy h2⟩
   ·rename_i k rows hi;simp only[aE,cu]at h;obtain⟨rfl,rfl⟩:=h;obtain⟨t',a,c,h1,h2⟩:=An hs hh hx hn.1 (.inr ⟨_,hi⟩);exact⟨_,rfl,yW false (by simpa using ho) hu h1 hyy h2⟩
   ·cases h
  ·cases h
 ·rename_i t x y yt ho;split at h
  ·rename_i e i n hu hx hy;have hyy:ev s y=some (.v (.slice none 0 0)):=by
    obtain⟨z,g1,g2⟩:=cg hs hy;simp only[aI]at g2;subst g2;exact g1
   split at h
   ·rename_i e' k rows hi;simp only[aE,cu]at h;obtain⟨rfl,rfl⟩:=h;obtain⟨t',a,c,h1,h2⟩:=An hs hh hx hn.1 (.inl ⟨_,_,hi⟩);exact⟨_,rfl,yW true (by simpa using ho) hu h1 hyy h2⟩
   ·rename_i k rows hi;simp only[aE,cu]at h;obtain⟨rfl,rfl⟩:=h;obtain⟨t',a,c,h1,h2⟩:=An hs hh hx hn.1 (.inr ⟨_,hi⟩);exact⟨_,rfl,yW true (by simpa using ho) hu h1 hyy h2⟩
   ·cases h
  ·cases h
 ·cases h
