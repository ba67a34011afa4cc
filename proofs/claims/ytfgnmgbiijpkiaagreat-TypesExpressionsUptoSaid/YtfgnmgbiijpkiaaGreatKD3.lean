/- The abstract machine, third part: operations on own memory; handing own memory on; calls. -/
import Derived.Test.YtfgnmgbiijpkiaaGreatKD1
set_option linter.all false
noncomputable section
namespace Go.Bw
open Go
theorem Oper.OF {P:Program} {o:Oper} {a:Act} {w:World} {K K':Act->World->Prop} {Q Q':Exit->Act->World->Prop} (h:∀a w,K a w->K' a w) (hq:∀e a w,Q e a w->Q' e a w)
  (hh:o.wp P a w K Q):o.wp P a w K' Q':=by
 unfold Oper.wp at*
 generalize (execOp a.eval o).run P w=r at*
 cases r with
 |ok n w'=>
  cases n<;>simp only[Oper.upon]at hh⊢<;>
   first
    |exact h _ _ hh
    |exact Calls.mono hh (λe w'' he=>by cases e<;>first|exact h _ _ he|exact hq _ _ _ he|exact(let⟨a,w,hz⟩:=he;⟨a,w,hq _ _ _ hz⟩))
    |exact Rows.mono hh (λ_ _ he=>h _ _ he)
 |halt x w'=>cases x<;>simp only[Oper.upon]at hh⊢<;>first|exact hh|exact hq _ _ _ hh
theorem xF {P:Program} {ops:Array Oper} {Q Q':Exit->Act->World->Prop} (hq:∀e a w,Q e a w->Q' e a w):∀{l:List Oper} {a:Act} {w:World},wpList P ops Q l a w->wpList P ops Q' l a w
 |[],_,_,h=>hq _ _ _ h
 |o::rest,a,w,h=>by
  unfold wpList at h⊢;split
  ·rename_i hw;rw[cZ hw]at h;exact h.imp (Oper.OF (λ_ _ hh=>xF hq hh) hq) λ⟨h1,a,w,h2⟩=>⟨h1,a,w,hq _ _ _ h2⟩
  ·rename_i hw;rw[cM hw]at h;exact xF hq h
theorem bh.mono {C:Cx} {N:Nat} {ops:Array Oper} {rest:List Oper} {Q Q':AQ} {Z:Sg} {O:List ah} (h:bh C N ops rest Q Z O) (hq:∀e Z O,Q e Z O->Q' e Z O):bh C N ops rest Q' Z O:=λF w0 O0 a w hs hx=>
 xF (λ_ _ _ ⟨e0,Z',η',h1,h2⟩=>⟨e0,Z',η',hq _ _ _ h1,h2⟩) (h F w0 O0 a w hs hx)
theorem DO.up {E:Env} {N K:Nat} {all rest:List Oper} {Q:DQ} {ZB:Sg} {ηB:List ah} {L L':aC} (hl:L.le L') (h:bh E.toCx N all.toArray rest (lift K L' Q) ZB ηB):bh E.toCx N all.toArray rest (lift K L Q) ZB ηB:=
 h.mono λ_ _ _ h=>mZ (hl.toK K) (λ_ _ _ h=>h) h
def Hp.push (O:Hp) (x:bg):Hp:=⟨Tr.put 24 O.e O.n (some x),O.n+1⟩
def Hp.set (O:Hp) (i:Nat) (x:bg):Hp:=⟨Tr.put 24 O.e i (some x),O.n⟩
def aC.eV (L:aC) (t b:Nat):aC:=⟨λu=>if u=t then some b else L.b u,L.s⟩
def aC.aY (L:aC) (t n:Nat) (x:Option Addr×Nat):aC:=⟨L.b,λu m=>if u=t/\m=n then some x else L.s u m⟩
theorem aC.vm {L:aC} {t b:Nat} (h:L.b t=none):L.le (L.eV t b):=⟨λu x hx=>by
 have:u≠t:=λe=>by subst e;rw[h]at hx;cases hx
 simp[aC.eV,this,hx],λ_ _ _ h=>h⟩
theorem aC.iQ {L:aC} {t n:Nat} {x:Option Addr×Nat} (h:∀y,L.s t n=some y->y=x):L.le (L.aY t n x):=⟨λ_ _ h=>h,λu m y hy=>by
 by_cases hu:u=t/\m=n
 ·obtain⟨rfl,rfl⟩:=hu;simp[aC.aY,h y hy]
 ·simp[aC.aY,hu,hy]⟩
theorem MI {D:Type} {l r:List D} {i:Nat} {x:D} (h:nth l i=some x):nth (l++r) i=some x:=by
 rw[ck]at h⊢;rw[mR (c8.1 h).1];exact h
theorem HS.lt {L:aC} {O:Hp} {ηB:List ah} (hh:HS L O ηB) {i:Nat} {x:bg} (h:O.e.get i=some x):i<O.n:=by
 obtain⟨y,h1,_⟩:=hh.en i x h;rw[ck]at h1;rw[<-hh.len];exact(c8.1 h1).1
theorem HS.push {L L':aC} {O:Hp} {ηB:List ah} (hh:HS L O ηB) (hl:L.le L') (hs:∀i,i≠O.n->L'.s i=L.s i) (hb:∀i,i≠O.n->L'.b i=L.b i) {x:bg} {y:ah} (hx:ju L' O.n x y):HS L' (O.push x) (ηB++[y]):=by
 refine⟨λi z hz=>?_,by simp[Hp.push,hh.len],λt ht=>?_⟩
 ·rcases Tr.dU 24 O.e O.n i _ z hz with⟨rfl,h1⟩|⟨hne,h1⟩
  ·cases h1;exact⟨y,by rw[ck,<-hh.len];simp,hx⟩
  ·obtain⟨q,h2,h3⟩:=hh.en i z h1;exact⟨q,MI h2,h3.mono hl (hs i hne)⟩
 ·have:t≠O.n:=by simp[Hp.push]at ht;omega
  rw[hb t this,hs t this];exact hh.eY t (by simp[Hp.push]at ht;omega)
theorem HS.set {L L':aC} {O:Hp} {ηB:List ah} (hh:HS L O ηB) (hl:L.le L') {i:Nat} (hs:∀j,j≠i->L'.s j=L.s j) (hb:∀j,j≠i->L'.b j=L.b j) (hi:i<O.n) {x:bg} {y:ah} (hx:ju L' i x y):HS L' (O.set i x) (ηB.set i y):=by
 refine⟨λj z hz=>?_,by simp[Hp.set,hh.len],λt ht=>?_⟩
 ·rcases Tr.dU 24 O.e i j _ z hz with⟨rfl,h1⟩|⟨hne,h1⟩
  ·cases h1;exact⟨y,by rw[ck];simp[hh.len,hi],hx⟩
  ·obtain⟨q,h2,h3⟩:=hh.en j z h1;exact⟨q,by rw[ck]at h2⊢;rw[mV (gX hne)];exact h2,h3.mono hl (hs j hne)⟩
 ·have:t≠i:=by simp[Hp.set]at ht;omega
  rw[hb t this,hs t this];exact hh.eY t ht
section
variable {E:Env} {N K:Nat} {Q:DQ} {Z:TS} {O:Hp} {o:Oper} {x:CV} {all rest:List Oper}
theorem DO.rb {cells:List CV} {d:Nat} (hg:o.guard=none) (hd:o.dst=some d) (hdN:Nat.blt d N=true) (h:∀L s ηB,SS L Z s->HS L O ηB->∃cs,aQ L cells cs/\eK E.toCx N o s ηB cs)
  (k:DO E N K all rest Q (bN Z (some d) (.own O.n 0)) (O.push (.box cells))):DO E N K all (o::rest) Q Z O:=λL ZB ηB hs hh=>by
 obtain⟨cs,h1,h2⟩:=h L _ ηB hs hh;refine bh.rb hg hd hdN h2 λb=>?_;have hdom:=hh.eY O.n (bA _);have hl:L.le (L.eV O.n b):=aC.vm hdom.1;have hbn:(L.eV O.n b).b O.n=some b:=by simp[aC.eV]
 refine DO.up hl (k _ _ _ ((hs.mono hl).put (some d) (by simp only[aE];exact⟨b,ηB.length,hbn,rfl⟩)) ?_);exact hh.push hl (λ_ _=>rfl) (λi hi=>by simp[aC.eV,hi]) ⟨b,cs,hbn,rfl,h1.mono hl⟩
theorem vo {t:TypeId} {p:Operand} (ho:o.op= .box t p) (hp:aW Z p=some x):∀L s ηB,SS L Z s->HS L O ηB->∃cs,aQ L (dA x) cs/\eK E.toCx N o s ηB cs:=λL s ηB hs _=>by
 obtain⟨y,h1,h2⟩:=cf hs hp;exact⟨_,uH h2,eK.box ho h1⟩
theorem uP {t:TypeId} {td:TD} {sz by':Nat} {z:List Value} (ho:o.op= .alloc t) (ht:aX E.T t=some ⟨td,sz,by',z⟩):∀L s ηB,SS L Z s->HS L O ηB->∃cs,aQ L ((z.map .v).map .d) cs/\eK E.toCx N o s ηB cs:=λ_ _ _ _ _=>
 ⟨_,fG _,eK.alloc ho ht⟩
def kj:List CV->Bool
 |[]=>true
 | .d y::r=>match ef [y]with
  |true=>kj r
  |false=>false
 | .agg _::_=>false
 | .bK _::_=>false
 |_::r=>kj r
theorem Nn {y:AV} {r:List AV} (h:ef [y]=true) (hr:ef r=true):ef (y::r)=true:=by
 cases y<;>simp_all [ef]
theorem xN {L:aC}:∀{xs:List CV} {ys:List AV},kj xs=true->aQ L xs ys->ef ys=true
 |[],ys,_,h=>by simp only[aQ]at h;subst h;rfl
 |x::r,ys,ho,h=>by
  simp only[aQ]at h;obtain⟨y,r',rfl,h1,h2⟩:=h;have key:kj r=true->ef [y]=true->ef (y::r')=true:=λh3 h4=>Nn h4 (xN h3 h2);cases x with
  |d z=>
   simp only[aE]at h1;subst h1;simp only[kj]at ho;split at ho
   ·rename_i h3;exact key ho h3
   ·cases ho
  |agg xs=>cases ho
  |bK xs=>cases ho
  |own t n=>simp only[aE]at h1;obtain⟨b,t',_,rfl⟩:=h1;exact key ho rfl
  |os t n=>simp only[aE]at h1;obtain⟨a,c,t',_,rfl⟩:=h1;exact key ho rfl
  |oe t n m=>simp only[aE]at h1;obtain⟨a,c,t',_,rfl⟩:=h1;exact key ho rfl
  |om t=>simp only[aE]at h1;obtain⟨b,t',_,rfl⟩:=h1;exact key ho rfl
  |fn f fs cs=>simp only[aE]at h1;obtain⟨us,vs,rfl,_⟩:=h1;exact key ho rfl
  |bu t z=>simp only[aE]at h1;obtain⟨u,rfl,_⟩:=h1;exact key ho rfl
theorem DO.store {t:TypeId} {p v:Operand} {i off:Nat} {cs cs':List CV} {ti:TI} (hg:o.guard=none) (ho:o.op= .store t p v) (hd:o.dst=none) (hp:aW Z p=some (.own i off)) (hv:aW Z v=some x) (hi:O.e.get i=some (.box cs)) (ht:aX E.T t=some ti)
  (hk:Nat.beq (dA x).length ti.size=true) (h1:kj (dA x)=true) (hl:jY cs off (dA x)=some cs') (k:DO E N K all rest Q Z (O.set i (.box cs'))):DO E N K all (o::rest) Q Z O:=λL ZB ηB hs hh=>by
 obtain⟨y,h2,h3⟩:=cf hs hp;simp only[aE]at h3;obtain⟨b,t',h3,rfl⟩:=h3;obtain⟨z,h4,h5⟩:=cf hs hv;obtain⟨q,h6,h7⟩:=hh.en i _ hi;obtain⟨b',us,h8,rfl,h9⟩:=h7;rw[h3]at h8;cases h8;have hc:=uH h5;obtain⟨us',h10,h11⟩:=uE hl h9 hc;refine bh.Dz hg hd (yh ho h2 h4 h6 ht (by rw[hc.length];exact hk) (xN h1 hc) h10) (k L _ _ hs ?_);exact hh.set (.refl L) (λ_ _=>rfl) (λ_ _=>rfl) (hh.lt hi) ⟨b,us',h3,rfl,h11⟩
theorem DO.nf {t:TypeId} {p v:Operand} {i n m e kk:Nat} {rows:List (List AV)} {r r':List AV} {y:AV} {ti:TI} (j off:Nat) (hg:o.guard=none) (ho:o.op= .store t p v) (hd:o.dst=none) (hp:aW Z p=some (.oe i n m)) (hv:aW Z v=some (.d y)) (hi:O.e.get i=some (.row e kk rows)) (hn:n=rows.length)
  (hm:m=j*kk+off) (hr:rows[j]? =some r) (ht:aX E.T t=some ti) (hk:Nat.beq (b9 y).length ti.size=true) (h1:ef (b9 y)=true) (hl:eo r off (b9 y)=some r') (k:DO E N K all rest Q Z (O.set i (.row e kk (rows.set j r')))):DO E N K all (o::rest) Q Z O:=λL ZB ηB hs hh=>by
 obtain⟨z,h2,h3⟩:=cf hs hp;simp only[aE]at h3;obtain⟨a,c,t',h3,rfl⟩:=h3;obtain⟨z,h4,h5⟩:=cf hs hv;simp only[aE]at h5;subst h5;obtain⟨q,h6,h7⟩:=hh.en i _ hi;obtain⟨⟨a',c',h8,rfl⟩,h9⟩:=h7;subst hn;rw[h3]at h8;cases h8;refine bh.Dz hg hd (En ho j off h2 hm h4 h6 hr ht hk h1 hl) (k L _ _ hs ?_);exact hh.set (.refl L) (λ_ _=>rfl) (λ_ _=>rfl) (hh.lt hi) ⟨⟨a,c,by simpa using h3,by simp⟩,by simpa using h9⟩
theorem DO.lit {d n:Nat} {t:TypeId} {parts:Array (Nat×Operand)} {ty:TypeId} {pos:String} {after:Array Edge} {e k sz by' sz' by'':Nat} {z z':List Value} {td':TD} {cells:List AV}
  (ht:aX E.T t=some ⟨.slice e k,sz,by',z⟩) (hte:aX E.T e=some ⟨td',sz',by'',z'⟩) (hf:eh k (dN Z) (fI n (z'.map .v)) parts.toList=some cells) (hb:Nat.ble (n*k) 16777216=true) (hk:Nat.ble 1 k=true) (hd:Nat.blt d N=true)
  (kk:DO E N K all rest Q (bN Z (some d) (.os O.n n)) (O.push (.row e k (chunk n k cells)))):DO E N K all (⟨some d,.buildSlice t n parts,ty,pos,after,none⟩::rest) Q Z O:=λL ZB ηB hs hh=>by
 have hf':eh k (look ZB) (fI n (z'.map .v)) parts.toList=some cells:=by
  have key:∀(l:List (Nat×Operand)) (cs r:List AV),eh k (dN Z) cs l=some r->eh k (look ZB) cs l=some r:=by
   intro l
   induction l with
   |nil=>intro cs r h;exact h
   |cons p l ih=>
    intro cs r h;obtain⟨i,p⟩:=p;simp only[eh]at h⊢;split at h
    ·rename_i y hy;have hy':ev (look ZB) p=some y:=by
      cases p with
      |tmp u=>exact iS hs hy
      |const v=>exact hy
      |global g=>exact hy
      |func f=>exact hy
     simp only[hy'];split at h
     ·rename_i c1 h1 h2;exact ih _ _ h
     ·cases h
    ·cases h
  exact key _ _ _ hf
 refine bh.lit ht hte hf' hb hk hd λb=>?_;have hdom:=hh.eY O.n (bA _);have hl:L.le (L.aY O.n n (some ⟨b,0,none⟩,n)):=aC.iQ λy hy=>by rw[hdom.2]at hy;cases hy
 have hbn:(L.aY O.n n (some ⟨b,0,none⟩,n)).s O.n n=some (some ⟨b,0,none⟩,n):=by simp[aC.aY]
 refine DO.up hl (kk _ _ _ ((hs.mono hl).put (some d) (by simp only[aE];exact⟨_,_,ηB.length,hbn,rfl⟩)) ?_);refine hh.push hl (λi hi=>by funext m;simp[aC.aY,hi]) (λ_ _=>rfl) ⟨⟨some ⟨b,0,none⟩,n,by rw[fD];exact hbn,by rw[fD]⟩,λm hm=>?_⟩;rw[fD]at hm;have:m≠n:=by omega
 simp only[aC.aY,this,and_false,if_false];exact hdom.2 m
theorem DO.gA (t e k:Nat) (ht:Z.get t=some (.d (.v (.slice none 0 0)))) (kk:DO E N K all rest Q (Tr.put 24 Z t (some (.os O.n 0))) (O.push (.row e k []))):DO E N K all rest Q Z O:=λL ZB ηB hs hh=>by
 obtain⟨y,h1,h2⟩:=hs t _ ht;simp only[aE]at h2;subst h2;refine bh.gA t e k h1 ?_;have hdom:=hh.eY O.n (bA _);have hl:L.le (L.aY O.n 0 (none,0)):=aC.iQ λy hy=>by rw[hdom.2]at hy;cases hy
 have hbn:(L.aY O.n 0 (none,0)).s O.n 0=some (none,0):=by simp[aC.aY]
 refine DO.up hl (kk _ _ _ ((hs.mono hl).put (some t) (by simp only[aE];exact⟨_,_,ηB.length,hbn,rfl⟩)) ?_);refine hh.push hl (λi hi=>by funext m;simp[aC.aY,hi]) (λ_ _=>rfl) ⟨⟨none,0,by simpa using hbn,by simp⟩,λm hm=>?_⟩;have:m≠0:=by simp at hm;omega
 simp only[aC.aY,this,and_false,if_false];exact hdom.2 m
inductive jA (E:Env) (Z:TS) (O:Hp) (k:Nat):Operand->List (List AV)->Prop where
 |sl {p:Operand} {rows:List (List AV)}:aW Z p=some (.d (.sl k rows))->jA E Z O k p rows
 |wZ {p:Operand} {x:AV} {rows:List (List AV)}:aW Z p=some (.d x)->(∀w A v,Rel w A x v->Rel w A (.sl k rows) v)->jA E Z O k p rows
 |nil {p:Operand}:aW Z p=some (.d (.v (.slice none 0 0)))->jA E Z O k p []
 |row {p:Operand} {j n e:Nat} {rows:List (List AV)}:aW Z p=some (.os j n)->O.e.get j=some (.row e k rows)->n=rows.length->jA E Z O k p rows
 |fz {p:Operand} {j n:Nat} {rows:List (List AV)}:aW Z p=some (.os j n)->O.e.get j=some (.gq k rows)->n=rows.length->jA E Z O k p rows
theorem jA.ok {L:aC} {ZB:Sg} {ηB:List ah} (hs:SS L Z (look ZB)) (hh:HS L O ηB) {k:Nat} {p:Operand} {rows:List (List AV)} (h:jA E Z O k p rows):∀F a w,St E.G N w F a ZB ηB->gO w (Al F ηB) k (a.eval p) rows:=λF a w hst=>by
 cases h with
 |sl h=>
  obtain⟨y,h1,h2⟩:=cf hs h;simp only[aE]at h2;subst h2;exact gO.sl (bt hst.sg h1)
 |wZ h hI=>
  obtain⟨y,h1,h2⟩:=cf hs h;simp only[aE]at h2;subst h2;exact gO.sl (hI _ _ _ (bt hst.sg h1))
 |nil h=>
  obtain⟨y,h1,h2⟩:=cf hs h;simp only[aE]at h2;subst h2;have:=bt hst.sg h1;simp only[Rel]at this;rw[this];exact⟨none,0,0,[],rfl,rfl,by simp[br],λ_=>rfl,λ_ h=>by cases h⟩
 |row h h3 hn=>
  obtain⟨y,h1,h2⟩:=cf hs h;simp only[aE]at h2;obtain⟨a',c,t',h4,rfl⟩:=h2;obtain⟨q,h5,h6⟩:=hh.en _ _ h3;obtain⟨⟨a2,c2,h7,rfl⟩,_⟩:=h6;subst hn;rw[h4]at h7;cases h7;have:=bt hst.sg h1;simp only[Rel]at this;rw[this];exact gO.row (fV hst.hp h5)
 |fz h h3 hn=>
  obtain⟨y,h1,h2⟩:=cf hs h;simp only[aE]at h2;obtain⟨a',c,t',h4,rfl⟩:=h2;obtain⟨q,h5,h6⟩:=hh.en _ _ h3;obtain⟨a2,c2,h7,rfl⟩:=h6;subst hn;rw[h4]at h7;cases h7;have:=bt hst.sg h1;simp only[Rel]at this;rw[this];exact gO.sl (nA hst.hp h5)
theorem DO.append {i d n:Nat} {s p:Operand} {t:TypeId} {ty:TypeId} {pos:String} {after:Array Edge} {e k sz by' sz' by'':Nat} {z z':List Value} {td':TD} {rows rows2:List (List AV)}
  (hb:(rows++rows2).length*by''<=140737488355328) (hs':aW Z s=some (.os i n)) (hi:O.e.get i=some (.row e k rows)) (hn:n=rows.length) (hx:jA E Z O k p rows2) (ht:aX E.T t=some ⟨.slice e k,sz,by',z⟩) (hte:aX E.T e=some ⟨td',sz',by'',z'⟩) (h1:fF rows2=true)
  (hk:Nat.ble 1 k=true) (hby:Nat.ble 1 by''=true) (hd:Nat.blt d N=true)
  (kk:DO E N K all rest Q (bN Z (some d) (.os i (rows++rows2).length)) (O.set i (.row e k (rows++rows2)))):
  DO E N K all (⟨some d,.call {callee:= .builtin .append,args:= #[s,p],argTypes:= #[t,t]},ty,pos,after,none⟩::rest) Q Z O:=λL ZB ηB hs hh=>by
 obtain⟨y,h2,h3⟩:=cf hs hs';simp only[aE]at h3;obtain⟨a,c,t',h3,rfl⟩:=h3;obtain⟨q,h6,h7⟩:=hh.en i _ hi;obtain⟨⟨a',c',h8,rfl⟩,h9⟩:=h7;subst hn;rw[h3]at h8;cases h8;refine bh.mO rfl hd (EM rfl ht hte h2 h6 (hx.ok hs hh) h1 hk hby hb) ?_;rintro r η' ⟨a',c',h0,rfl,rfl⟩;have hl:L.le (L.aY i (rows++rows2).length (a',c')):=aC.iQ λy hy=>by
  by_cases hz:rows2=[]
  ·subst hz;simp only[gw]at hy;rw[h3]at hy;cases hy;obtain⟨rfl,rfl⟩:=h0 rfl;rfl
  ·have:rows.length<(rows++rows2).length:=by
    have:=D7.2 hz;simp;omega
   rw[h9 _ this]at hy;cases hy
 have hbn:(L.aY i (rows++rows2).length (a',c')).s i (rows++rows2).length=some (a',c'):=by simp[aC.aY]
 refine DO.up hl (kk _ _ _ ((hs.mono hl).put (some d) (by simp only[aE];exact⟨_,_,i,hbn,rfl⟩)) ?_);refine hh.set hl (λj hj=>by funext m;simp[aC.aY,hj]) (λ_ _=>rfl) (hh.lt hi) ⟨⟨a',c',hbn,rfl⟩,λm hm=>?_⟩
 have hne:m≠(rows++rows2).length:=by omega
 simp only[aC.aY,hne,and_false,if_false];exact h9 m (by simp at hm;omega)
theorem DO.zO {i d n:Nat} {s p:Operand} {t u:TypeId} {ty:TypeId} {pos:String} {after:Array Edge} {e k sz by' sz' by'' szu byu:Nat} {z z' zu:List Value} {td':TD} {rows:List (List AV)} {b:ByteArray}
  (hb:(rows++dj b).length*by''<=140737488355328) (hs':aW Z s=some (.os i n)) (hi:O.e.get i=some (.row e k rows)) (hn:n=rows.length) (hx:aW Z p=some (.d (.v (.string b)))) (ht:aX E.T t=some ⟨.slice e k,sz,by',z⟩) (hu:aX E.T u=some ⟨.str,szu,byu,zu⟩) (hte:aX E.T e=some ⟨td',sz',by'',z'⟩)
  (hk:Nat.beq k 1=true) (hby:Nat.beq by'' 1=true) (hd:Nat.blt d N=true)
  (kk:DO E N K all rest Q (bN Z (some d) (.os i (rows++dj b).length)) (O.set i (.row e k (rows++dj b)))):
  DO E N K all (⟨some d,.call {callee:= .builtin .append,args:= #[s,p],argTypes:= #[t,u]},ty,pos,after,none⟩::rest) Q Z O:=λL ZB ηB hs hh=>by
 obtain⟨y,h2,h3⟩:=cf hs hs';simp only[aE]at h3;obtain⟨a,c,t',h3,rfl⟩:=h3;obtain⟨y2,g2,g3⟩:=cf hs hx;simp only[aE]at g3;subst g3;obtain⟨q,h6,h7⟩:=hh.en i _ hi;obtain⟨⟨a',c',h8,rfl⟩,h9⟩:=h7;subst hn;rw[h3]at h8;cases h8;refine bh.mO rfl hd (EA rfl ht hu hte h2 h6 g2 hk hby hb) ?_;rintro r η' ⟨a',c',h0,rfl,rfl⟩;have hl:L.le (L.aY i (rows++dj b).length (a',c')):=aC.iQ λy hy=>by
  by_cases hz:dj b=[]
  ·rw[hz]at hy;simp only[gw]at hy;rw[h3]at hy;cases hy;obtain⟨rfl,rfl⟩:=h0 hz;rfl
  ·have:rows.length<(rows++dj b).length:=by
    have:=D7.2 hz;simp;omega
   rw[h9 _ this]at hy;cases hy
 have hbn:(L.aY i (rows++dj b).length (a',c')).s i (rows++dj b).length=some (a',c'):=by simp[aC.aY]
 refine DO.up hl (kk _ _ _ ((hs.mono hl).put (some d) (by simp only[aE];exact⟨_,_,i,hbn,rfl⟩)) ?_);refine hh.set hl (λj hj=>by funext m;simp[aC.aY,hj]) (λ_ _=>rfl) (hh.lt hi) ⟨⟨a',c',hbn,rfl⟩,λm hm=>?_⟩
 have hne:m≠(rows++dj b).length:=by omega
 simp only[aC.aY,hne,and_false,if_false];exact h9 m (by simp at hm;omega)
theorem DO.make {d:Nat} {t:TypeId} {p q:Operand} {ty:TypeId} {pos:String} {after:Array Edge} {e k sz by' sz' by'':Nat} {z z':List Value} {td':TD} {kl kc:IntKind} {li ci:Int} (l c:Nat)
  (hb:c*by''<=140737488355328) (hl:l<=c) (hx:aW Z p=some (.d (.v (.int kl li)))) (hli:li=(l:Int)) (hy:aW Z q=some (.d (.v (.int kc ci)))) (hci:ci=(c:Int)) (ht:aX E.T t=some ⟨.slice e k,sz,by',z⟩) (hte:aX E.T e=some ⟨td',sz',by'',z'⟩)
  (hk:Nat.ble 1 k=true) (hby:Nat.ble 1 by''=true) (hd:Nat.blt d N=true)
  (kk:DO E N K all rest Q (bN Z (some d) (.os O.n l)) (O.push (.row e k (List.replicate l (z'.map .v))))):DO E N K all (⟨some d,.makeSlice t p q,ty,pos,after,none⟩::rest) Q Z O:=λL ZB ηB hs hh=>by
 obtain⟨y1,h2,h3⟩:=cf hs hx;simp only[aE]at h3;subst h3;obtain⟨y1,h4,h5⟩:=cf hs hy;simp only[aE]at h5;subst h5;refine bh.make l c hb hl h2 hli h4 hci ht hte hk hby hd λb=>?_;have hdom:=hh.eY O.n (bA _);have hle:L.le (L.aY O.n l (some ⟨b,0,none⟩,c)):=aC.iQ λy hy=>by rw[hdom.2]at hy;cases hy
 have hbn:(L.aY O.n l (some ⟨b,0,none⟩,c)).s O.n l=some (some ⟨b,0,none⟩,c):=by simp[aC.aY]
 refine DO.up hle (kk _ _ _ ((hs.mono hle).put (some d) (by simp only[aE];exact⟨_,_,ηB.length,hbn,rfl⟩)) ?_);refine hh.push hle (λi hi=>by funext m;simp[aC.aY,hi]) (λ_ _=>rfl) ⟨⟨some ⟨b,0,none⟩,c,by simpa using hbn,by simp⟩,λm hm=>?_⟩;have:m≠l:=by simp at hm;omega
 simp only[aC.aY,this,and_false,if_false];exact hdom.2 m
end
def eqs:List (Nat×Nat)->Prop
 |[]=>True
 |p::r=>p.1=p.2/\eqs r
theorem kA:∀{l r:List (Nat×Nat)},eqs (l++r)->eqs l/\eqs r
 |[],_,h=>⟨trivial,h⟩
 |_::_,_,h=>⟨⟨h.1,(kA h.2).1⟩,(kA h.2).2⟩
def bY (e:Tr bg):Nat->List CV->Option (List AV×List (Nat×Nat)×List (Nat×bg))
 |0,_=>none
 |_+1,[]=>some ([],[],[])
 |f+1,x::r=>match bY e f r with
  |none=>none
  |some (zs,ns,ms)=>match x with
   | .d y=>some (y::zs,ns,ms)
   | .agg ys=>match bY e f ys with
    |some (us,ns',ms')=>some (.agg us::zs,ns'++ns,ms'++ms)
    |none=>none
   | .bK ys=>match bY e f ys with
    |some (us,ns',ms')=>some (.bK us::zs,ns'++ns,ms'++ms)
    |none=>none
   | .own t o=>match e.get t with
    |some (.box cs)=>match bY e f cs with
     |some (us,ns',ms')=>some (.ip (us.drop o)::zs,ns'++ns,(t,.jG us)::(ms'++ms))
     |none=>none
    |some (.jG us)=>some (.ip (us.drop o)::zs,ns,ms)
    |_=>none
   | .os t n=>match e.get t with
    |some (.row _ k rows)=>some (.sl k rows::zs,(n,rows.length)::ns,(t,.gq k rows)::ms)
    |some (.gq k rows)=>some (.sl k rows::zs,(n,rows.length)::ns,ms)
    |_=>none
   | .fn g fs cs=>match bY e f fs,bY e f cs with
    |some (us,ns1,ms1),some (vs,ns2,ms2)=>some (.fn g us vs::zs,ns1++(ns2++ns),ms1++(ms2++ms))
    |_,_=>none
   | .bu t y=>match bY e f [y]with
    |some ([u],ns',ms')=>some (.bu t u::zs,ns'++ns,ms'++ms)
    |_=>none
   | .oe _ _ _=>none
   | .om _=>none
def ek (F:Nat->Prop) (ηB:List ah) (M:List Nat) (b:Nat):Prop:=¬F b/\∀i y,nth ηB i=some y->i∉M->b∉y.ids
theorem vz {F:Nat->Prop} {ηB:List ah} (M:List Nat) {b:Nat} (h:Al F ηB b):ek F ηB M b:=
 ⟨h.1,λi y hy _ hb=>h.2 (ec.2 ⟨y,cy (by rw[<-ck];exact hy),hb⟩)⟩
theorem u6 {w:World} {F:Nat->Prop} {ηB:List ah} (M:List Nat):cK w (Al F ηB) w (ek F ηB M):=⟨bA _,λ_ _ h=>⟨vz M h,rfl⟩⟩
theorem Eo:∀{l:List ah} {i j:Nat} {x y:ah} {b:Nat},(ids l).Nodup->nth l i=some x->nth l j=some y->i≠j->b∈x.ids->b∉y.ids
 |[],_,_,_,_,_,_,h,_,_,_=>by simp[nth]at h
 |z::l,0,0,_,_,_,_,_,_,hne,_=>absurd rfl hne
 |z::l,0,j+1,x,y,b,hnd,hi,hj,_,hb=>λhy=>by
  rw[cE,jP]at hnd;simp only[nth,aA]at hi hj;subst hi;exact hnd.2.2 b hb b (ec.2 ⟨y,cy (by rw[<-ck];exact hj),hy⟩) rfl
 |z::l,i+1,0,x,y,b,hnd,hi,hj,_,hb=>λhy=>by
  rw[cE,jP]at hnd;simp only[nth,aA]at hi hj;subst hj;exact hnd.2.2 b hy b (ec.2 ⟨x,cy (by rw[<-ck];exact hi),hb⟩) rfl
 |z::l,i+1,j+1,x,y,b,hnd,hi,hj,hne,hb=>by
  rw[cE,jP]at hnd;simp only[nth]at hi hj;exact Eo hnd.2.1 hi hj (λe=>hne (by rw[e])) hb
theorem Iy {G:Gl} {w:World} {F:Nat->Prop} {ηB:List ah} {M:List Nat} (hH:bz G w F ηB) {i:Nat} {x:ah} {b:Nat} (hi:nth ηB i=some x) (hM:i∈M) (hb:b∈x.ids):ek F ηB M b:=by
 refine⟨hH.free b (ec.2 ⟨x,cy (by rw[<-ck];exact hi),hb⟩),λj y hj hjM=>?_⟩;exact Eo hH.nodup hi hj (λe=>hjM (e▸hM)) hb
def oh (L:aC) (w:World) (A:Nat->Prop):Nat×bg->Prop
 |(t,.jG us)=>∃b,L.b t=some b/\Rel w A (.ip us) (.pointer (some ⟨b,0,none⟩))
 |(t,.gq k rows)=>∃a c,L.s t rows.length=some (a,c)/\Rel w A (.sl k rows) (.slice a rows.length c)
 |_=>False
section
variable {L:aC} {O:Hp} {ηB:List ah} {w:World} {F:Nat->Prop} {G:Gl}
theorem Pm {M:List Nat} (hH:bz G w F ηB) {i:Nat} {v:Value} {e k:Nat} {rows:List (List AV)} (hi:nth ηB i=some (.row v e k rows)) (hM:i∈M):Rel w (ek F ηB M) (.sl k rows) v:=by
 obtain⟨vs,h1,h2,h3⟩:=fV hH hi;simp only[Rel];rcases h3 with⟨rfl,h0⟩|⟨g,cap,cur,rfl,_,hg,hn,hcm,hcs,htake⟩
 ·exact .inl ⟨lY h0,_,_,rfl⟩
 ·refine .inr ⟨g,0,cap,vs,rfl,⟨(jN.1 hg).1,Iy hH hi hM (by simp[ah.ids,Value.ownBlock])⟩,hn,hcm,h1.bm (u6 M),λj u hj=>?_⟩;rw[<-htake,jR]at hj;split at hj
  ·rw[oO];simp[World.cell?,hg];simpa using hj
  ·cases hj
theorem fX (hh:HS L O ηB) (hH:bz G w F ηB) (M:List Nat):∀(f:Nat) {xs:List CV} {zs:List AV} {ns:List (Nat×Nat)} {ms:List (Nat×bg)} {ys:List AV} {vs:List Value},bY O.e f xs=some (zs,ns,ms)->eqs ns->(∀p∈ms,p.1∈M)->
  aQ L xs ys->aF w (Al F ηB) ys vs->aF w (ek F ηB M) zs vs/\∀p∈ms,oh L w (ek F ηB M) p
 |0,_,_,_,_,_,_,h,_,_,_,_=>by simp[bY]at h
 |f+1,[],zs,ns,ms,ys,vs,h,_,_,hi,hr=>by
  simp only[bY,aA,cv]at h;obtain⟨rfl,rfl,rfl⟩:=h;simp only[aQ]at hi;subst hi;simp only[aF]at hr;subst hr;exact⟨by simp[aF],by simp⟩
 |f+1,x::r,zs,ns,ms,ys,vs,h,hn,hM,hi,hr=>by
  simp only[aQ]at hi;obtain⟨y,ys,rfl,hy,hi⟩:=hi;simp only[aF]at hr;obtain⟨v,vs,rfl,hv,hr⟩:=hr;simp only[bY]at h;split at h
  ·cases h
  ·rename_i aq ns0 ms0 h0;have tail:∀{z:AV} {ms':List (Nat×bg)},eqs ns0->(∀p∈ms0,p.1∈M)->Rel w (ek F ηB M) z v->(∀p∈ms',oh L w (ek F ηB M) p)->aF w (ek F ηB M) (z::aq) (v::vs)/\∀p∈ms'++ms0,oh L w (ek F ηB M) p:=by
    intro z ms' hn' hM' hz hm;obtain⟨h1,h2⟩:=fX hh hH M f h0 hn' hM' hi hr;refine⟨by simp only[aF];exact⟨_,_,rfl,hz,h1⟩,λp hp=>?_⟩;rcases cN.1 hp with hp|hp
    ·exact hm p hp
    ·exact h2 p hp
   cases x with
   |d z=>
    simp only[aA,cv]at h;obtain⟨rfl,rfl,rfl⟩:=h;simp only[aE]at hy;subst hy;simpa using tail (ms':=[]) hn hM (hv.bm (u6 M)) (by simp)
   |agg ks=>
    simp only at h;split at h
    ·rename_i us ns' ms' h1;simp only[aA,cv]at h;obtain⟨rfl,rfl,rfl⟩:=h;simp only[aE]at hy;obtain⟨ws,rfl,hy⟩:=hy;simp only[Rel]at hv;obtain⟨qs,rfl,hv⟩:=hv;obtain⟨g1,g2⟩:=kA hn;obtain⟨h2,h3⟩:=fX hh hH M f h1 g1 (λp hp=>hM p (by simp[hp])) hy hv;exact tail g2 (λp hp=>hM p (by simp[hp])) (by simp only[Rel];exact⟨qs,rfl,h2⟩) h3
    ·cases h
   |bK ks=>
    simp only at h;split at h
    ·rename_i us ns' ms' h1;simp only[aA,cv]at h;obtain⟨rfl,rfl,rfl⟩:=h;simp only[aE]at hy;obtain⟨ws,rfl,hy⟩:=hy;simp only[Rel]at hv;obtain⟨qs,rfl,hv⟩:=hv;obtain⟨g1,g2⟩:=kA hn;obtain⟨h2,h3⟩:=fX hh hH M f h1 g1 (λp hp=>hM p (by simp[hp])) hy hv;exact tail g2 (λp hp=>hM p (by simp[hp])) (by simp only[Rel];exact⟨qs,rfl,h2⟩) h3
    ·cases h
   |own t off=>
    simp only[aE]at hy;obtain⟨b,t',hb,rfl⟩:=hy;simp only[Rel]at hv;subst hv;simp only at h;split at h
    ·rename_i cs hcs;split at h
     ·rename_i us ns' ms' h1;simp only[aA,cv]at h;obtain⟨rfl,rfl,rfl⟩:=h;obtain⟨q,hq1,hq2⟩:=hh.en t _ hcs;obtain⟨b',ws,hb',rfl,hws⟩:=hq2;rw[hb]at hb';cases hb';obtain⟨e,qs,hheap,hqs⟩:=fV hH hq1;obtain⟨g1,g2⟩:=kA hn;have htM:t∈M:=hM (t,.jG us) (by simp);obtain⟨h2,h3⟩:=fX hh hH M f h1 g1 (λp hp=>hM p (by simp[hp])) hws hqs;have hip:Rel w (ek F ηB M) (.ip us) (.pointer (some ⟨b,0,none⟩)):=by
       simp only[Rel];exact⟨b,0,qs,rfl,⟨(jN.1 hheap).1,Iy hH hq1 htM (by simp[ah.ids])⟩,h2,λj u hj=>by rw[oO];exact oS hheap j u hj⟩
      have:=tail (ms':=(t,.jG us)::ms') g2 (λp hp=>hM p (by simp[hp])) (hip.Am off) (λp hp=>by
       rcases dc.1 hp with rfl|hp
       ·exact⟨b,hb,hip⟩
       ·exact h3 p hp)
      simpa using this
     ·cases h
    ·rename_i us hcs;simp only[aA,cv]at h;obtain⟨rfl,rfl,rfl⟩:=h;obtain⟨q,hq1,hq2⟩:=hh.en t _ hcs;obtain⟨b',hb',rfl⟩:=hq2;rw[hb]at hb';cases hb';have:=tail (ms':=[]) hn hM (((nA hH hq1).bm (u6 M)).Am off) (by simp);simpa using this
    ·cases h
   |os t n=>
    simp only[aE]at hy;obtain⟨a,c,t',hb,rfl⟩:=hy;simp only[Rel]at hv;subst hv;simp only at h;split at h
    ·rename_i e k rows hcs;simp only[aA,cv]at h;obtain⟨rfl,rfl,rfl⟩:=h;obtain⟨q,hq1,hq2⟩:=hh.en t _ hcs;obtain⟨⟨a',c',hb',rfl⟩,_⟩:=hq2;have hnl:n=rows.length:=hn.1;subst hnl;rw[hb]at hb';cases hb';have hsl:=Pm (M:=M) hH hq1 (hM (t,.gq k rows) (by simp));have:=tail (ms':=[(t,.gq k rows)]) hn.2 (λp hp=>hM p (by simp[hp])) hsl (λp hp=>by
      simp only[lv]at hp;subst hp;exact⟨a,c,hb,hsl⟩)
     simpa using this
    ·rename_i k rows hcs;simp only[aA,cv]at h;obtain⟨rfl,rfl,rfl⟩:=h;obtain⟨q,hq1,hq2⟩:=hh.en t _ hcs;obtain⟨a',c',hb',rfl⟩:=hq2;have hnl:n=rows.length:=hn.1;subst hnl;rw[hb]at hb';cases hb';have:=tail (ms':=[]) hn.2 hM ((nA hH hq1).bm (u6 M)) (by simp);simpa using this
    ·cases h
   |fn g fs cs=>
    simp only at h;split at h
    ·rename_i us ns1 ms1 us2 ns2 ms2 h1 h2;simp only[aA,cv]at h;obtain⟨rfl,rfl,rfl⟩:=h;simp only[aE]at hy;obtain⟨ws,ws2,rfl,hy,hy2⟩:=hy;simp only[Rel]at hv;obtain⟨qs,qs2,rfl,hv,hv2⟩:=hv;obtain⟨g1,g2⟩:=kA hn;obtain⟨g2,g3⟩:=kA g2;obtain⟨h3,h4⟩:=fX hh hH M f h1 g1 (λp hp=>hM p (by simp[hp])) hy hv;obtain⟨h5,h6⟩:=fX hh hH M f h2 g2 (λp hp=>hM p (by simp[hp])) hy2 hv2;have:=tail (ms':=ms1++ms2) g3 (λp hp=>hM p (by simp[hp])) (z:= .fn g us us2) (by simp only[Rel];exact⟨qs,qs2,rfl,h3,h5⟩) (λp hp=>by
      rcases cN.1 hp with hp|hp
      ·exact h4 p hp
      ·exact h6 p hp)
     simpa using this
    ·cases h
   |bu t k=>
    simp only at h;split at h
    ·rename_i u ns' ms' h1;simp only[aA,cv]at h;obtain⟨rfl,rfl,rfl⟩:=h;simp only[aE]at hy;obtain⟨z,rfl,hy⟩:=hy;simp only[Rel]at hv;obtain⟨q,rfl,hv⟩:=hv;obtain⟨g1,g2⟩:=kA hn;obtain⟨h2,h3⟩:=fX hh hH M f (ys:=[z]) (vs:=[q]) h1 g1 (λp hp=>hM p (by simp[hp])) (by simp only[aQ];exact⟨_,_,rfl,hy,rfl⟩) (by simp only[aF];exact⟨_,_,rfl,hv,rfl⟩);simp only[aF]at h2;obtain⟨q',_,h4,h5,rfl⟩:=h2;cases h4;exact tail g2 (λp hp=>hM p (by simp[hp])) (by simp only[Rel];exact⟨q,rfl,h5⟩) h3
    ·cases h
   |oe t n off=>cases h
   |om t=>cases h
end
def gz:List (Nat×bg)->Hp->Hp
 |[],O=>O
 |(t,e)::r,O=>(gz r O).set t e
def sr (L:aC) (t:Nat):bg->ah
 | .jG us=> .fact (.ip us) (.pointer (some ⟨(L.b t).getD 0,0,none⟩))
 | .gq k rows=> .fact (.sl k rows) (.slice ((L.s t rows.length).getD (none,0)).1 rows.length ((L.s t rows.length).getD (none,0)).2)
 |_=> .gone
def ej (L:aC):List (Nat×bg)->List ah->List ah
 |[],l=>l
 |(t,e)::r,l=>(ej L r l).set t (sr L t e)
theorem MQ {L:aC}:∀(ms:List (Nat×bg)) (l:List ah),(ej L ms l).length=l.length
 |[],_=>rfl
 |(t,e)::r,l=>by simp[ej,MQ r l]
theorem EN {L:aC} {t:Nat} {e:bg}:(sr L t e).ids=[]:=by cases e<;>rfl
theorem EB {x:ah} (hx:x.ids=[]):∀(l:List ah) (i:Nat),(ids (l.set i x)).Sublist (ids l)
 |[],_=>by simp
 |y::l,0=>by simp only[uq,cE,hx,xn];exact Wj _ _
 |y::l,i+1=>by simp only[mT,cE];exact Wk (D8 _) (EB hx l i)
theorem rE {L:aC}:∀(ms:List (Nat×bg)) (l:List ah),(ids (ej L ms l)).Sublist (ids l)
 |[],_=>D8 _
 |(t,e)::r,l=>(EB EN _ _).trans (rE r l)
theorem yx {L:aC}:∀(ms:List (Nat×bg)) (l:List ah) (i:Nat) (x:ah),nth (ej L ms l) i=some x->(nth l i=some x/\i∉ms.map (·.1))\/∃e,(i,e)∈ms/\x=sr L i e
 |[],_,_,_,h=> .inl ⟨h,by simp⟩
 |(t,e)::r,l,i,x,h=>by
  simp only[ej]at h;by_cases hti:t=i
  ·subst hti;rw[ck]at h;have hlt:t<(ej L r l).length:=by
    have:=(c8.1 h).1;simpa using this
   rw[rm hlt]at h;cases h;exact .inr ⟨e,by simp,rfl⟩
  ·rw[ck,mV hti,<-ck]at h;rcases yx r l i x h with⟨h1,h2⟩|⟨e',h1,h2⟩
   ·exact .inl ⟨h1,by simp only[dW,dc,not_or];exact⟨λe=>hti e.symm,h2⟩⟩
   ·exact .inr ⟨e',by simp[h1],h2⟩
section
variable {L:aC} {O:Hp} {ηB:List ah} {w:World} {F:Nat->Prop} {G:Gl}
theorem NW {ms:List (Nat×bg)} {b:Nat} (h:ek F ηB (ms.map (·.1)) b):Al F (ej L ms ηB) b:=by
 refine⟨h.1,λhb=>?_⟩;obtain⟨x,hx,hb⟩:=ec.1 hb;obtain⟨i,hi⟩:=lx hx;rw[<-ck]at hi;rcases yx ms ηB i x hi with⟨h1,h2⟩|⟨e,_,rfl⟩
 ·exact h.2 i x h1 h2 hb
 ·rw[EN]at hb;cases hb
theorem o6 {ms:List (Nat×bg)}:cK w (ek F ηB (ms.map (·.1))) w (Al F (ej L ms ηB)):=⟨bA _,λ_ _ h=>⟨NW h,rfl⟩⟩
theorem u5 (hH:bz G w F ηB) {ms:List (Nat×bg)} (hm:∀p∈ms,oh L w (ek F ηB (ms.map (·.1))) p):bz G w F (ej L ms ηB):=by
 refine hH.facts (rE ms ηB) λx hx=>?_;obtain⟨i,hi⟩:=lx hx;rw[<-ck]at hi;rcases yx ms ηB i x hi with⟨h1,_⟩|⟨e,h1,rfl⟩
 ·exact .inl (cy (by rw[<-ck];exact h1))
 ·right;have h2:=hm _ h1;cases e<;>first|exact h2.elim|skip
  ·obtain⟨b,h3,h4⟩:=h2;exact⟨_,_,rfl,by simp only[h3,Mq];exact h4.bm o6⟩
  ·obtain⟨a,c,h3,h4⟩:=h2;exact⟨_,_,rfl,by simp only[h3,Mq];exact h4.bm o6⟩
theorem FT:∀(ms:List (Nat×bg)) (O:Hp),(gz ms O).n=O.n
 |[],_=>rfl
 |(t,e)::r,O=>by simp[gz,Hp.set,FT r O]
theorem uR (hh:HS L O ηB):∀{ms:List (Nat×bg)},(∀p∈ms,p.1<O.n/\oh L w F p)->HS L (gz ms O) (ej L ms ηB)
 |[],_=>hh
 |(t,e)::r,hm=>by
  have ih:=uR (ms:=r) hh λp hp=>hm p (by simp[hp]);obtain⟨h1,h2⟩:=hm (t,e) (by simp);refine ih.set (.refl L) (λ_ _=>rfl) (λ_ _=>rfl) (by rw[FT];exact h1) ?_
  cases e<;>first|exact h2.elim|skip
  ·obtain⟨b,h3,_⟩:=h2;exact⟨b,h3,by simp[sr,h3]⟩
  ·obtain⟨a,c,h3,_⟩:=h2;exact⟨a,c,h3,by simp[sr,h3]⟩
theorem oh.lt (hh:HS L O ηB) {A:Nat->Prop} {p:Nat×bg} (h:oh L w A p):p.1<O.n:=by
 obtain⟨t,e⟩:=p;cases e<;>first|exact h.elim|skip
 ·obtain⟨b,h1,_⟩:=h;rcases jO t O.n with h2|h2
  ·exact h2
  ·rw[(hh.eY t h2).1]at h1;cases h1
 ·obtain⟨a,c,h1,_⟩:=h;rcases jO t O.n with h2|h2
  ·exact h2
  ·rw[(hh.eY t h2).2]at h1;cases h1
theorem aF.one {A:Nat->Prop} {x:AV} {v:Value} (h:Rel w A x v):aF w A [x] [v]:=by simp only[aF];exact⟨_,_,rfl,h,rfl⟩
theorem aF.vP {A:Nat->Prop} {x:AV} {v:Value} (h:aF w A [x] [v]):Rel w A x v:=by
 simp only[aF]at h;obtain⟨v',r,h1,h2,h3⟩:=h;cases h1;exact h2
theorem aQ.one {x:CV} {y:AV} (h:aE L x y):aQ L [x] [y]:=by simp only[aQ];exact⟨_,_,rfl,h,rfl⟩
end
section
variable {E:Env} {N K:Nat} {Q:DQ} {Z:TS} {O:Hp} {o:Oper} {x:CV} {all rest:List Oper}
theorem DO.cH {t:Nat} {z:AV} {ns:List (Nat×Nat)} {ms:List (Nat×bg)} (f:Nat) (hx:Z.get t=some x) (hf:bY O.e f [x]=some ([z],ns,ms)) (hn:eqs ns) (k:DO E N K all rest Q (Tr.put 24 Z t (some (.d z))) (gz ms O)):DO E N K all rest Q Z O:=λL ZB ηB hs hh=>by
 obtain⟨y,h1,h2⟩:=hs t x hx;intro F w0 O0 a w hst hxt;have hv:=(hst.sg.2 t y h1).2;obtain⟨h3,h4⟩:=fX hh hst.hp (ms.map (·.1)) f hf hn (λp hp=>dt.2 ⟨p,hp,rfl⟩) (aQ.one h2) (aF.one hv);have h3:=h3.vP;have hHS:HS L (gz ms O) (ej L ms ηB):=uR (w:=w) (F:=ek F ηB (ms.map (·.1))) hh λp hp=>⟨(h4 p hp).lt hh,h4 p hp⟩;have hHO:bz E.G w F (ej L ms ηB):=u5 hst.hp h4;have hsub:∀b∈ids (ej L ms ηB),b∈ids ηB:=λb hb=>(rE ms ηB).subset hb;have hkeep:cK w (Al F ηB) w (Al F (ej L ms ηB)):=cK.sub hsub;refine k L ((t,z)::ZB) (ej L ms ηB) (hs.put (some t) (x:= .d z) (y:=z) rfl) hHS F w0 O0 a w ⟨⟨hst.sg.1,λu q hq=>?_⟩,hHO,hst.df⟩ (hxt.trans ⟨rfl,rfl,rfl,bA _,λ_ _ _=>rfl,λb hb=> .inl (hsub b hb),.of (bA _)⟩);simp only[look]at hq;cases hb:Nat.beq t u with
 |true=>
  rw[hb]at hq;simp only[aA]at hq;subst hq;rw[<-bB hb];exact⟨(hst.sg.2 t y h1).1,h3.bm o6⟩
 |false=>
  rw[hb]at hq;exact⟨(hst.sg.2 u q hq).1,(hst.sg.2 u q hq).2.bm hkeep⟩
theorem DC.cH {t:Nat} {z:AV} {ns:List (Nat×Nat)} {ms:List (Nat×bg)} (f:Nat) (hx:Z.get t=some x) (hf:bY O.e f [x]=some ([z],ns,ms)) (hn:eqs ns) {c:Code} (k:DC E N K c Q (Tr.put 24 Z t (some (.d z))) (gz ms O)):DC E N K c Q Z O:=λL ZB ηB hs hh=>by
 obtain⟨y,h1,h2⟩:=hs t x hx;intro F w0 O0 a w hst hxt;have hv:=(hst.sg.2 t y h1).2;obtain⟨h3,h4⟩:=fX hh hst.hp (ms.map (·.1)) f hf hn (λp hp=>dt.2 ⟨p,hp,rfl⟩) (aQ.one h2) (aF.one hv);have h3:=h3.vP;have hHS:HS L (gz ms O) (ej L ms ηB):=uR (w:=w) (F:=ek F ηB (ms.map (·.1))) hh λp hp=>⟨(h4 p hp).lt hh,h4 p hp⟩;have hHO:bz E.G w F (ej L ms ηB):=u5 hst.hp h4;have hsub:∀b∈ids (ej L ms ηB),b∈ids ηB:=λb hb=>(rE ms ηB).subset hb;have hkeep:cK w (Al F ηB) w (Al F (ej L ms ηB)):=cK.sub hsub;refine k L ((t,z)::ZB) (ej L ms ηB) (hs.put (some t) (x:= .d z) (y:=z) rfl) hHS F w0 O0 a w ⟨⟨hst.sg.1,λu q hq=>?_⟩,hHO,hst.df⟩ (hxt.trans ⟨rfl,rfl,rfl,bA _,λ_ _ _=>rfl,λb hb=> .inl (hsub b hb),.of (bA _)⟩);simp only[look]at hq;cases hb:Nat.beq t u with
 |true=>
  rw[hb]at hq;simp only[aA]at hq;subst hq;rw[<-bB hb];exact⟨(hst.sg.2 t y h1).1,h3.bm o6⟩
 |false=>
  rw[hb]at hq;exact⟨(hst.sg.2 u q hq).1,(hst.sg.2 u q hq).2.bm hkeep⟩
def bQ (z y:AV):Prop:=∀w A v,Rel w A z v->Rel w A y v
inductive bP:List AV->List AV->Prop where
 |nil:bP [] []
 |cons {x y:AV} {xs ys:List AV}:bQ x y->bP xs ys->bP (x::xs) (y::ys)
theorem bQ.refl (x:AV):bQ x x:=λ_ _ _ h=>h
theorem bP.refl:∀(xs:List AV),bP xs xs
 |[]=> .nil
 |x::xs=> .cons (.refl x) (bP.refl xs)
theorem bP.rel {w:World} {A:Nat->Prop}:∀{xs ys:List AV} {vs:List Value},bP xs ys->aF w A xs vs->aF w A ys vs
 |_,_,_,.nil,h=>h
 |_,_,_,.cons h t,hr=>by
  simp only[aF]at hr⊢;obtain⟨v,r,rfl,h1,h2⟩:=hr;exact⟨v,r,rfl,h _ _ _ h1,bP.rel t h2⟩
theorem bQ.nil (k:Nat):bQ (.v (.slice none 0 0)) (.sl k []):=λw A v h=>by
 simp only[Rel]at h⊢;subst h;exact .inl ⟨trivial,_,_,rfl⟩
theorem bQ.agg {xs ys:List AV} (h:bP xs ys):bQ (.agg xs) (.agg ys):=λw A v hr=>by
 simp only[Rel]at hr⊢;obtain⟨vs,rfl,h1⟩:=hr;exact⟨vs,rfl,h.rel h1⟩
theorem bQ.bK {xs ys:List AV} (h:bP xs ys):bQ (.bK xs) (.bK ys):=λw A v hr=>by
 simp only[Rel]at hr⊢;obtain⟨vs,rfl,h1⟩:=hr;exact⟨vs,rfl,h.rel h1⟩
theorem bQ.ip {xs ys:List AV} (h:bP xs ys):bQ (.ip xs) (.ip ys):=λw A v hr=>by
 simp only[Rel]at hr⊢;obtain⟨b,o,vs,e1,e2,e3,e4⟩:=hr;exact⟨b,o,vs,e1,e2,h.rel e3,e4⟩
theorem bQ.fn {f:FuncId} {fs fs' cs cs':List AV} (h:bP fs fs') (g:bP cs cs'):bQ (.fn f fs cs) (.fn f fs' cs'):=λw A v hr=>by
 simp only[Rel]at hr⊢;obtain⟨us,vs,e,h1,h2⟩:=hr;exact⟨us,vs,e,h.rel h1,g.rel h2⟩
theorem bQ.bu {t:TypeId} {x y:AV} (h:bQ x y):bQ (.bu t x) (.bu t y):=λw A v hr=>by
 simp only[Rel]at hr⊢;obtain⟨u,e,h1⟩:=hr;exact⟨u,e,h _ _ _ h1⟩
inductive de:List (List AV)->List (List AV)->Prop where
 |nil:de [] []
 |cons {x y:List AV} {xs ys:List (List AV)}:bP x y->de xs ys->de (x::xs) (y::ys)
theorem bP.length {xs ys:List AV} (h:bP xs ys):ys.length=xs.length:=by induction h with|nil=>rfl|cons _ _ ih=>simp[ih]
theorem de.length {xs ys:List (List AV)} (h:de xs ys):ys.length=xs.length:=by induction h with|nil=>rfl|cons _ _ ih=>simp[ih]
theorem de.refl:∀(xs:List (List AV)),de xs xs
 |[]=> .nil
 |x::xs=> .cons (.refl x) (de.refl xs)
theorem de.rel {w:World} {A:Nat->Prop} {k:Nat}:∀{xs ys:List (List AV)} {vs:List Value},de xs ys->br w A k xs vs->br w A k ys vs
 |_,_,_,.nil,h=>h
 |_,_,_,.cons h t,hr=>by
  simp only[br]at hr⊢;obtain⟨v1,v2,rfl,h0,h1,h2⟩:=hr;exact⟨v1,v2,rfl,by rw[h.length];exact h0,h.rel h1,de.rel t h2⟩
theorem bQ.sl {k:Nat} {xs ys:List (List AV)} (h:de xs ys):bQ (.sl k xs) (.sl k ys):=λw A v hr=>by
 simp only[Rel]at hr⊢;rcases hr with⟨rfl,h1⟩|⟨b,o,cap,vs,e1,e2,e3,e4,e5,e6⟩
 ·cases h;exact .inl ⟨rfl,h1⟩
 ·exact .inr ⟨b,o,cap,vs,by rw[h.length];exact e1,e2,by rw[h.length];exact e3,e4,h.rel e5,e6⟩
theorem de.append {xs ys xs' ys':List (List AV)} (h:de xs ys) (g:de xs' ys'):de (xs++xs') (ys++ys'):=by
 induction h with
 |nil=>exact g
 |cons h _ ih=>exact .cons h ih
theorem bQ.trans {x y z:AV} (h:bQ x y) (g:bQ y z):bQ x z:=λw A v hr=>g w A v (h w A v hr)
def cR:AV->Bool
 | .v _=>true
 | .agg xs=>go xs
 | .bK xs=>go xs
 | .bu _ x=>cR x
 |_=>false
where go:List AV->Bool
 |[]=>true
 |x::r=>match cR x with
  |true=>go r
  |false=>false
mutual
theorem uI {w:World} {A A':Nat->Prop}:∀{x:AV} {v:Value},cR x=true->Rel w A x v->Rel w A' x v
 | .v _,_,_,h=>by simp only[Rel]at h⊢;exact h
 | .agg xs,_,hf,h=>by simp only[Rel]at h⊢;obtain⟨vs,e,h1⟩:=h;exact⟨vs,e,xE (by simpa[cR]using hf) h1⟩
 | .bK xs,_,hf,h=>by simp only[Rel]at h⊢;obtain⟨vs,e,h1⟩:=h;exact⟨vs,e,xE (by simpa[cR]using hf) h1⟩
 | .bu t x,_,hf,h=>by simp only[Rel]at h⊢;obtain⟨u,e,h1⟩:=h;exact⟨u,e,uI (by simpa[cR]using hf) h1⟩
 | .sl _ _,_,hf,_=>by simp[cR]at hf
 | .ip _,_,hf,_=>by simp[cR]at hf
 | .own _ _ _,_,hf,_=>by simp[cR]at hf
 | .os _ _ _ _,_,hf,_=>by simp[cR]at hf
 | .oe _ _ _,_,hf,_=>by simp[cR]at hf
 | .om _ _,_,hf,_=>by simp[cR]at hf
 | .fn _ _ _,_,hf,_=>by simp[cR]at hf
theorem xE {w:World} {A A':Nat->Prop}:∀{xs:List AV} {vs:List Value},cR.go xs=true->aF w A xs vs->aF w A' xs vs
 |[],_,_,h=>by simp only[aF]at h⊢;exact h
 |x::r,_,hf,h=>by
  simp only[cR.go]at hf;split at hf
  ·rename_i hx;simp only[aF]at h⊢;obtain⟨v,r',e,h1,h2⟩:=h;exact⟨v,r',e,uI hx h1,xE hf h2⟩
  ·cases hf
end
def cT (Z:TS) (f:Operand) (args:List Operand):Option (FuncId×List CV):=
 match aW Z f,oo Z args with
 |some (.d (.v (.func (.func g) fa cs))),some xs=>some (g,(fa.toList.map .v).map .d++xs++(cs.toList.map .v).map .d)
 |some (.d (.fn g fs cs)),some xs=>some (g,fs.map .d++xs++cs.map .d)
 |some (.fn g fs cs),some xs=>some (g,fs++xs++cs)
 |_,_=>none
theorem lz {L:aC} {s:Sl} (hs:SS L Z s) {f:Operand} {args:List Operand} {g:FuncId} {cs:List CV} (h:cT Z f args=some (g,cs)):∃ys,callee s f args=some (g,ys)/\aQ L cs ys:=by
 unfold cT at h;split at h
 ·rename_i g' fa qs xs h1 h2;simp only[aA,cv]at h;obtain⟨rfl,rfl⟩:=h;obtain⟨y,h3,h4⟩:=cf hs h1;simp only[aE]at h4;subst h4;obtain⟨ys,h5,h6⟩:=pf hs h2;exact⟨_,by simp only[callee,h3,h5],((fG _).append h6).append (fG _)⟩
 ·rename_i g' fs qs xs h1 h2;simp only[aA,cv]at h;obtain⟨rfl,rfl⟩:=h;obtain⟨y,h3,h4⟩:=cf hs h1;simp only[aE]at h4;subst h4;obtain⟨ys,h5,h6⟩:=pf hs h2;exact⟨_,by simp only[callee,h3,h5],((fG _).append h6).append (fG _)⟩
 ·rename_i g' fs qs xs h1 h2;simp only[aA,cv]at h;obtain⟨rfl,rfl⟩:=h;obtain⟨y,h3,h4⟩:=cf hs h1;simp only[aE]at h4;obtain⟨us,vs,rfl,h4,h4'⟩:=h4;obtain⟨ys,h5,h6⟩:=pf hs h2;exact⟨_,by simp only[callee,h3,h5],(h4.append h6).append h4'⟩
 ·cases h
theorem yn {L:aC} {ηB:List ah} {w:World} {F:Nat->Prop} {g:FuncId} {cs:List CV} {ys xs' xs:List AV} {vs:List Value} {ns:List (Nat×Nat)} {ms:List (Nat×bg)} {res:AR} (fl:Nat) (h:Pure E.toCx g xs res)
  (hf:bY O.e fl cs=some (xs',ns,ms)) (hn:eqs ns) (hi:bP xs' xs) (hl:ms=[]\/(match res with| .ret x=>cR x| .aO x=>cR x)=true) (hh:HS L O ηB) (hH:bz E.G w F ηB) (hcs:aQ L cs ys) (hr:aF w (Al F ηB) ys vs):
  Calls E.P g vs.toArray w λe w'=>AR.rel w' (Al F ηB) res e/\fT w w':=by
 obtain⟨h3,h4⟩:=fX hh hH (ms.map (·.1)) fl hf hn (λp hp=>dt.2 ⟨p,hp,rfl⟩) hcs hr;have hHO:bz E.G w F (ej L ms ηB):=u5 hH h4;have hx:=hi.rel h3;have hx':aF w (Al F (ej L ms ηB)) xs vs:=hx.bm o6;refine(h.run hHO hx').mono ?_;rintro e w' ⟨hv,_,hext,hsame⟩;refine⟨?_,⟨hext.os,hext.drawn⟩,hext.tape,hext.output,hext.size,hsame⟩;rcases hl with rfl|hl
 ·exact hv
 ·cases res with
  |ret x=>obtain⟨v,rfl,hv⟩:=hv;exact⟨v,rfl,uI hl hv⟩
  |aO x=>obtain⟨v,rfl,hv⟩:=hv;exact⟨v,rfl,uI hl hv⟩
theorem a8.pure {f:Operand} {args:List Operand} {g:FuncId} {cs:List CV} {xs' xs:List AV} {ns:List (Nat×Nat)} {ms:List (Nat×bg)} {res:AV} {tys:Array TypeId} (fl:Nat) (ho:o.op= .call {callee:= .value f,args:=args.toArray,argTypes:=tys})
  (h:Pure E.toCx g xs (.ret res)) (hc:cT Z f args=some (g,cs)) (hf:bY O.e fl cs=some (xs',ns,ms)) (hn:eqs ns) (hi:bP xs' xs) (hl:ms=[]\/cR res=true):a8 E N o Z O (.d res):=λL s ηB hs hh=>by
 obtain⟨ys,hcal,hcs⟩:=lz hs hc;refine⟨res,rfl,λF w a hN _ hH hopd K' Q' k=>?_⟩;have hmem:∀p,p=f\/p∈args->p∈o.op.operands.toList:=by
  rintro p hp;rw[ho];rcases hp with rfl|hp
  ·simp[Op.operands,Call.operands]
  ·simp[Op.operands,Call.operands,hp]
 have hc':callee (look (dn s (tmpsOf o))) f args=some (g,ys):=by
  unfold callee at hcal⊢;rw[eN (hmem f (.inl rfl)),pg λp hp=>eN (hmem p (.inr hp))];exact hcal
 have hsl:ep w (Al F ηB) N a (look (dn s (tmpsOf o))):=⟨hN,λt y hy=>by obtain⟨h1,h2⟩:=iM hy;exact hopd t h1 y h2⟩;obtain⟨vs,h1,h2⟩:=o7 (P:=E.P) hsl hc' (tys:=tys) (dst:=o.dst) (ty:=o.type) (pos:=o.pos) (after:=o.after) (gd:=o.guard) h.1;have ho':o=⟨o.dst,.call {callee:= .value f,args:=args.toArray,argTypes:=tys},o.type,o.pos,o.after,o.guard⟩:=by rw[<-ho]
 rw[<-ho']at h2;unfold Oper.wp;rw[h2 w,Oper.upon_enter];refine(yn fl h hf hn hi hl hh hH hcs h1).mono ?_;rintro e w' ⟨⟨v,rfl,hv⟩,hcls⟩;exact k v w' hv hcls
theorem DO.pure {dst:Option Nat} {f:Operand} {args:List Operand} {g:FuncId} {cs:List CV} {xs' xs:List AV} {ns:List (Nat×Nat)} {ms:List (Nat×bg)} {res:AV} {tys:Array TypeId} {ty:TypeId} {pos:String} {after:Array Edge} (fl:Nat)
  (h:Pure E.toCx g xs (.ret res)) (hc:cT Z f args=some (g,cs)) (hf:bY O.e fl cs=some (xs',ns,ms)) (hn:eqs ns) (hi:bP xs' xs) (hl:ms=[]\/cR res=true) (hd:cj N dst=true)
  (k:DO E N K all rest Q (bN Z dst (.d res)) O):DO E N K all (⟨dst,.call {callee:= .value f,args:=args.toArray,argTypes:=tys},ty,pos,after,none⟩::rest) Q Z O:=
 DO.lQ rfl hd (a8.pure fl rfl h hc hf hn hi hl) k
theorem DO.pH {dst:Option Nat} {f:Operand} {args:List Operand} {g:FuncId} {cs:List CV} {xs' xs:List AV} {ns:List (Nat×Nat)} {ms:List (Nat×bg)} {res:AV} {tys:Array TypeId} {ty:TypeId} {pos:String} {after:Array Edge} (fl:Nat)
  (h:Pure E.toCx g xs (.aO res)) (hc:cT Z f args=some (g,cs)) (hf:bY O.e fl cs=some (xs',ns,ms)) (hn:eqs ns) (hi:bP xs' xs) (hl:ms=[]\/cR res=true)
  (k:Q (.aO (.d res)) .lf O):DO E N K all (⟨dst,.call {callee:= .value f,args:=args.toArray,argTypes:=tys},ty,pos,after,none⟩::rest) Q Z O:=λL ZB ηB hs hh=>by
 obtain⟨ys,hcal,hcs⟩:=lz hs hc;intro F w0 O0 a w hst hxt;unfold wpList;rw[cZ (by simp[Region.wanted])];refine .inl ?_;obtain⟨vs,h1,h2⟩:=o7 (P:=E.P) hst.sg hcal (tys:=tys) (dst:=dst) (ty:=ty) (pos:=pos) (after:=after) (gd:=none) h.1;unfold Oper.wp;rw[h2 w,Oper.upon_enter];refine(yn fl h hf hn hi hl hh hst.hp hcs h1).mono ?_;rintro e w' ⟨⟨v,rfl,hv⟩,hcls⟩;refine⟨.aO res,[],ηB,⟨L,.aO (.d res),.lf,O,.refl K L,⟨res,rfl,rfl⟩,λt x hx=>by simp[Tr.ie]at hx,hh,k⟩,⟨v,rfl,hv⟩,⟨⟨hst.sg.1,λt x hx=>by simp[AE.sl,look]at hx⟩,hst.hp.later hcls.2.2.2,hst.df⟩,hxt.trans hcls.ext⟩
inductive DR where
 |ret (x:CV)
 |aO (x:CV)
def DR.inst (L:aC):DR->AR->Prop
 | .ret x,r=>∃y,r= .ret y/\aE L x y
 | .aO x,r=>∃y,r= .aO y/\aE L x y
def Jk (K:Nat) (L:aC) (Q:DR->Hp->Prop):AR->List ah->Prop:=λr ηB=>∃L' d O,aC.e7 K L L'/\DR.inst L' d r/\HS L' O ηB/\Q d O
def dR (E:Env) (g:FuncId) (args:List CV) (O:Hp) (Q:DR->Hp->Prop):Prop:=∀L ys ηB,aQ L args ys->HS L O ηB->gM E.toCx g ys ηB (Jk O.n L Q)
theorem HS.e7 {L L':aC} {ηB:List ah} (hh:HS L O ηB) (h:aC.e7 O.n L L'):L.le L':=by
 refine⟨λt x hx=>?_,λt n x hx=>?_⟩
 ·rcases jO t O.n with h1|h1
  ·exact(h t h1).1 x hx
  ·rw[(hh.eY t h1).1]at hx;cases hx
 ·rcases jO t O.n with h1|h1
  ·exact(h t h1).2 n x hx
  ·rw[(hh.eY t h1).2]at hx;cases hx
theorem DO.call {dst:Option Nat} {f:Operand} {args:List Operand} {g:FuncId} {cs:List CV} {Q':DR->Hp->Prop} {tys:Array TypeId} {ty:TypeId} {pos:String} {after:Array Edge}
  (h:dR E g cs O Q') (hc:cT Z f args=some (g,cs)) (hd:cj N dst=true) (k1:∀x η',Q' (.ret x) η'->DO E N K all rest Q (bN Z dst x) η') (k2:∀x η',Q' (.aO x) η'->Q (.aO x) .lf η'):
  DO E N K all (⟨dst,.call {callee:= .value f,args:=args.toArray,argTypes:=tys},ty,pos,after,none⟩::rest) Q Z O:=λL ZB ηB hs hh=>by
 obtain⟨ys,h1,h2⟩:=lz hs hc;refine bh.Rh (h L ys ηB h2 hh) h1 hd ?_ ?_
 ·rintro y OB' ⟨L',r,η',h3,h4,h5,h6⟩;have hl:=hh.e7 h3;cases r with
  |ret x=>
   obtain⟨y',e,h4⟩:=h4;cases e;exact DO.up hl (k1 x η' h6 L' _ OB' ((hs.mono hl).put dst h4) h5)
  |aO x=>obtain⟨y',e,_⟩:=h4;cases e
 ·rintro y OB' ⟨L',r,η',h3,h4,h5,h6⟩;have hl:=hh.e7 h3;cases r with
  |ret x=>obtain⟨y',e,_⟩:=h4;cases e
  |aO x=>
   obtain⟨y',e,h4⟩:=h4;cases e;exact⟨L',.aO x,.lf,η',hl.toK K,⟨y,rfl,h4⟩,λt x hx=>by simp[Tr.ie]at hx,h5,k2 x η' h6⟩
def fN:Nat->List CV->TS
 |_,[]=> .lf
 |n,x::xs=>Tr.put 24 (fN (n+1) xs) n (some x)
theorem Fb {L:aC}:∀{xs:List CV} {ys:List AV} (n:Nat),aQ L xs ys->SS L (fN n xs) (look (mH n ys))
 |[],ys,n,_=>λt x hx=>by simp[fN,Tr.ie]at hx
 |x::xs,ys,n,h=>by
  simp only[aQ]at h;obtain⟨y,r,rfl,h1,h2⟩:=h;have:=Fb (n+1) h2;exact this.put (some n) h1
def A6 (T:bO) (Z:TS) (O:Hp):ResultVar->Option CV
 | .tmp t=>Z.get t
 | .cell a t=>match Z.get a,aX T t with
  |some (.own i 0),some ⟨d,k,_,_⟩=>match O.e.get i with
   |some (.box cs)=>match d.agg with
    |true=>match Nat.ble k cs.length with
     |true=>some (qo (cs.take k))
     |false=>none
    |false=>nth cs 0
   |_=>none
  |some (.d (.ip cs)),some ⟨d,k,_,_⟩=>match d.agg,fits cs k with
   |true,true=>some (.d (.agg (cs.take k)))
   |_,_=>none
  |_,_=>none
def dH (T:bO) (Z:TS) (O:Hp):List ResultVar->Option (List CV)
 |[]=>some []
 |r::rs=>match A6 T Z O r,dH T Z O rs with
  |some x,some xs=>some (x::xs)
  |_,_=>none
def ed:List CV->CV
 |[x]=>x
 |xs=>A7 xs
theorem OE {L:aC} {ZB:Sg} {ηB:List ah} {T:bO} (hs:SS L Z (look ZB)) (hh:HS L O ηB) {r:ResultVar} (h:A6 T Z O r=some x):∃y,my T ZB ηB r y/\aE L x y:=by
 cases r with
 |tmp t=>obtain⟨y,h1,h2⟩:=hs t x h;exact⟨y,.tmp h1,h2⟩
 |cell a t=>
  simp only[A6]at h;split at h
  ·rename_i i d k b z ha ht;split at h
   ·rename_i cs hcs;obtain⟨y,h1,h2⟩:=hs a _ ha;simp only[aE]at h2;obtain⟨bk,t',h2,rfl⟩:=h2;obtain⟨q,h3,h4⟩:=hh.en i _ hcs;obtain⟨bk',us,h5,rfl,h6⟩:=h4;rw[h2]at h5;cases h5;split at h
    ·rename_i hd;split at h
     ·rename_i hle;simp only[aA]at h;subst h;exact⟨_,.Jl h1 h3 ht hd (xO (by rw[h6.length];exact dw hle)),uQ (h6.take k)⟩
     ·cases h
    ·rename_i hd;obtain⟨y,h7,h8⟩:=h6.nth h;cases us with
     |nil=>simp[nth]at h7
     |cons u us=>
      simp only[nth,aA]at h7;subst h7;exact⟨_,.Iz h1 h3 ht hd,h8⟩
   ·cases h
  ·rename_i cs d k b z ha ht;split at h
   ·rename_i hd hf;simp only[aA]at h;subst h;obtain⟨y,h1,h2⟩:=hs a _ ha;simp only[aE]at h2;subst h2;exact⟨_,.Jm h1 ht hd hf,rfl⟩
   ·cases h
  ·cases h
theorem Ha {L:aC} {ZB:Sg} {ηB:List ah} {T:bO} (hs:SS L Z (look ZB)) (hh:HS L O ηB):∀{rs:List ResultVar} {xs:List CV},dH T Z O rs=some xs->∃ys,qJ T ZB ηB rs ys/\aQ L xs ys
 |[],xs,h=>by simp only[dH,aA]at h;subst h;exact⟨[],.nil,by simp[aQ]⟩
 |r::rs,xs,h=>by
  simp only[dH]at h;split at h
  ·rename_i x xs' h1 h2;simp only[aA]at h;subst h;obtain⟨y,h3,h4⟩:=OE hs hh h1;obtain⟨ys,h5,h6⟩:=Ha hs hh h2;exact⟨y::ys,.cons h3 h5,by simp only[aQ];exact⟨_,_,rfl,h4,h6⟩⟩
  ·cases h
theorem Nl {L:aC} {xs:List CV} {ys:List AV} (h:aQ L xs ys):aE L (ed xs) (sJ ys):=by
 match xs,ys,h with
 |[],ys,h=>exact EO (xs:=[]) h|>λz=>by simp only[aQ]at h;subst h;exact z
 |[x],ys,h=>simp only[aQ]at h;obtain⟨y,r,rfl,h1,rfl⟩:=h;exact h1
 |x::x'::r,ys,h=>
  have h0:=h;simp only[aQ]at h0;obtain⟨y,r,rfl,h1,y',r',rfl,h2,h3⟩:=h0;exact EO h
def RD (T:bO) (rs:List ResultVar) (Q:DR->Hp->Prop):DQ:=λe Z O=>match e with
 | .norm=>∃xs,dH T Z O rs=some xs/\Q (.ret (ed xs)) O
 | .ret=>∃xs,dH T Z O rs=some xs/\Q (.ret (ed xs)) O
 | .exit _=>False
 | .aO x=>Q (.aO x) O
theorem dR.enter {f:FuncId} {fn:Func} {c:Code} {args:List CV} {Q:DR->Hp->Prop} (hf:E.P.funcs[f]? =some fn) (hb:fn.body=some c) (hname:(fn.name== "runtime.NumGoroutine")=false)
  (rs:List ResultVar) (hrs:fn.results=rs.toArray) (nt:Nat) (hnt:fn.ntmps=nt) (hn:Nat.ble args.length nt=true) (h:DC E nt O.n c (RD E.T rs Q) (fN 0 args) O):dR E f args O Q:=λL ys ηB hi hh=>by
 refine gM.enter (E:=E) hf hb hname rs hrs nt hnt (by rw[hi.length];exact hn) (bD.mono (h L (mH 0 ys) ηB (Fb 0 hi) hh) ?_);rintro e ZB' OB' ⟨L',d,Z',η',h1,h2,h3,h4,h5⟩;have main:(∃xs,dH E.T Z' η' rs=some xs/\Q (.ret (ed xs)) η')->RQ E.T rs (Jk O.n L Q) ZB' OB':=by
  rintro ⟨xs,h6,h7⟩;obtain⟨zs,h8,h9⟩:=Ha h3 h4 h6;exact⟨zs,h8,L',.ret (ed xs),η',h1,⟨_,rfl,Nl h9⟩,h4,h7⟩
 cases d with
 |norm=>simp only[DE.inst]at h2;subst h2;exact main h5
 |ret=>simp only[DE.inst]at h2;subst h2;exact main h5
 |exit i=>exact h5.elim
 |aO x=>obtain⟨y,rfl,h2⟩:=h2;exact⟨L',.aO x,η',h1,⟨y,rfl,h2⟩,h4,h5⟩
theorem dR.mono {f:FuncId} {args:List CV} {Q Q':DR->Hp->Prop} (h:dR E f args O Q) (hq:∀r η',Q r η'->Q' r η'):dR E f args O Q':=λL ys ηB hi hh=>
 (h L ys ηB hi hh).mono λ_ _ ⟨L',d,η',h1,h2,h3,h4⟩=>⟨L',d,η',h1,h2,h3,hq _ _ h4⟩
def Hp.nil:Hp:=⟨.lf,0⟩
theorem HS.nil (L:aC) (h:∀t,L.b t=none/\∀n,L.s t n=none):HS L Hp.nil []:=⟨λi x hx=>by simp[Hp.nil,Tr.ie]at hx,rfl,λt _=>h t⟩
def Ends (f:Nat) (res:AR):DR->Hp->Prop
 | .ret x,O=>∃z ns ms,bY O.e f [x]=some ([z],ns,ms)/\eqs ns/\∃y,res= .ret y/\bQ z y
 | .aO x,O=>∃z ns ms,bY O.e f [x]=some ([z],ns,ms)/\eqs ns/\∃y,res= .aO y/\bQ z y
theorem Pure.L4 {g:FuncId} {args:List AV} {res:AR} (f:Nat) (h:dR E g (args.map .d) Hp.nil (Ends f res)):Pure E.toCx g args res:=by
 have h0:=h ⟨λ_=>none,λ_ _=>none⟩ args [] (fG args) (HS.nil _ λ_=>⟨rfl,λ_=>rfl⟩);refine⟨h0.1,λF w vs hH hr=>(h0.2 F w vs hH hr).mono ?_⟩;rintro e w' ⟨r,ηB,⟨L',d,O,h1,h2,h3,h4⟩,hv,hh,hx⟩;have hA:∀b,ek F ηB (List.range ηB.length) b->Al F [] b:=λb hb=>⟨hb.1,by simp[ids]⟩;have hk:∀M:List Nat,cK w' (ek F ηB M) w' (Al F []):=λM=>⟨bA _,λb _ hb=>⟨⟨hb.1,by simp[ids]⟩,rfl⟩⟩;have fin:∀{x:CV} {y:AV} {v:Value},(∃z ns ms,bY O.e f [x]=some ([z],ns,ms)/\eqs ns/\bQ z y)->(∃u,aE L' x u/\Rel w' (Al F ηB) u v)->Rel w' (Al F []) y v:=by
  rintro x y v ⟨z,ns,ms,g1,g2,g3⟩ ⟨u,g4,g5⟩;obtain⟨g6,_⟩:=fX h3 hh (ms.map (·.1)) f g1 g2 (λp hp=>dt.2 ⟨p,hp,rfl⟩) (aQ.one g4) (aF.one g5);exact g3 _ _ _ (g6.vP.bm (hk _))
 have hres:AR.rel w' (Al F []) res e:=by
  cases d with
  |ret x=>
   obtain⟨u,rfl,h5⟩:=h2;obtain⟨z,ns,ms,g1,g2,y,rfl,g3⟩:=h4;obtain⟨v,rfl,hv⟩:=hv;exact⟨v,rfl,fin ⟨z,ns,ms,g1,g2,g3⟩ ⟨u,h5,hv⟩⟩
  |aO x=>
   obtain⟨u,rfl,h5⟩:=h2;obtain⟨z,ns,ms,g1,g2,y,rfl,g3⟩:=h4;obtain⟨v,rfl,hv⟩:=hv;exact⟨v,rfl,fin ⟨z,ns,ms,g1,g2,g3⟩ ⟨u,h5,hv⟩⟩
 exact⟨res,[],⟨rfl,rfl⟩,hres,hh.none,⟨hx.os,hx.tape,hx.output,hx.size,hx.block,by simp[ids],hx.drawn⟩⟩
end
def oc (P:Program) (Z:TS) (O:Hp):Op->Option (CV×List (Nat×Nat))
 | .binOp .eql t x y _=>match P.underlying t,aW Z x,aW Z y with
  |some (.slice _),some (.os i (n+1)),some (.d (.v (.slice none 0 0)))=>match O.e.get i with
   |some (.row _ _ rows)=>some (.d (.v (.bool false)),[(n+1,rows.length)])
   |some (.gq _ rows)=>some (.d (.v (.bool false)),[(n+1,rows.length)])
   |_=>none
  |_,_,_=>none
 | .binOp .neq t x y _=>match P.underlying t,aW Z x,aW Z y with
  |some (.slice _),some (.os i (n+1)),some (.d (.v (.slice none 0 0)))=>match O.e.get i with
   |some (.row _ _ rows)=>some (.d (.v (.bool true)),[(n+1,rows.length)])
   |some (.gq _ rows)=>some (.d (.v (.bool true)),[(n+1,rows.length)])
   |_=>none
  |_,_,_=>none
 |_=>none
section
variable {E:Env} {N:Nat} {Z:TS} {O:Hp} {o:Oper}
theorem vp {L:aC} {s:Sl} {ηB:List ah} (hs:SS L Z s) (hh:HS L O ηB) {x:Operand} {i n:Nat} (hx:aW Z x=some (.os i (n+1))) {rows:List (List AV)} (hn:n+1=rows.length) (hi:(∃e k,O.e.get i=some (.row e k rows))\/∃k,O.e.get i=some (.gq k rows)):
  ∃t' a c,ev s x=some (.os t' a (n+1) c)/\∀{G:Gl} {w:World} {F:Nat->Prop},bz G w F ηB->a.isNone=false:=by
 obtain⟨y,h1,h2⟩:=cf hs hx;simp only[aE]at h2;obtain⟨a,c,t',h3,rfl⟩:=h2;refine⟨t',a,c,h1,λhH=>?_⟩;rcases hi with⟨e,k,hi⟩|⟨k,hi⟩
 ·obtain⟨q,h4,h5⟩:=hh.en i _ hi;obtain⟨⟨a',c',h6,rfl⟩,_⟩:=h5;rw[<-hn,h3]at h6;cases h6;obtain⟨vs,_,h7⟩:=fV hH h4;obtain⟨_,h8|⟨g,cap,cur,h9,_⟩⟩:=h7
  ·omega
  ·cases h9;rfl
 ·obtain⟨q,h4,h5⟩:=hh.en i _ hi;obtain⟨a',c',h6,rfl⟩:=h5;rw[<-hn,h3]at h6;cases h6;have:=nA hH h4;simp only[Rel]at this;rcases this with⟨rfl,_⟩|⟨b,o,cap,vs,h1,_⟩
  ·simp at hn
  ·cases h1;rfl
theorem uS {s:Sl} {ηB:List ah} {t e:TypeId} {x y:Operand} {yt:TypeId} {t':Nat} {a:Option Addr} {n c:Nat} (neg:Bool) (ho:o.op= .binOp (if neg then .neq else .eql) t x y yt) (hu:E.P.underlying t=some (.slice e)) (hx:ev s x=some (.os t' a n c)) (hy:ev s y=some (.v (.slice none 0 0)))
  (ha:∀{G:Gl} {w:World} {F:Nat->Prop},bz G w F ηB->a.isNone=false):bM E.toCx N o s ηB (.v (.bool neg)):=by
 refine bM.lT λF act w hst=>?_;have h1:=bt hst.sg (show ev (look (dn s (tmpsOf o))) x=some (.os t' a n c)by rw[eN (by rw[ho];cases neg<;>simp[Op.operands])];exact hx);have h2:=bt hst.sg (show ev (look (dn s (tmpsOf o))) y=some (.v (.slice none 0 0))by rw[eN (by rw[ho];cases neg<;>simp[Op.operands])];exact hy);simp only[Rel]at h1 h2;have h0:=ha hst.hp;refine⟨_,eS _,λw' _=>?_⟩;have h3:binOp .eql t (.slice a n c) (.slice none 0 0)=(do pure (.bool (<-Op.equal t (.slice a n c) (.slice none 0 0))):Sem Value):=rfl;have h4:binOp .neq t (.slice a n c) (.slice none 0 0)=(do pure (.bool (!(<-Op.equal t (.slice a n c) (.slice none 0 0)))):Sem Value):=rfl;cases neg
 ·simp[execOp,ho,h1,h2,eqGuard,h3,uT hu,h0]
 ·simp[execOp,ho,h1,h2,eqGuard,h4,uT hu,h0]
theorem a8.oc {x:CV} {ns:List (Nat×Nat)} (h:oc E.P Z O o.op=some (x,ns)) (hn:eqs ns):a8 E N o Z O x:=λL s ηB hs hh=>by
 unfold Bw.oc at h;split at h
 ·rename_i t x y yt ho;split at h
  ·rename_i e i n hu hx hy;have hyy:ev s y=some (.v (.slice none 0 0)):=by
    obtain⟨z,g1,g2⟩:=cf hs hy;simp only[aE]at g2;subst g2;exact g1
   split at h
   ·rename_i e' k rows hi;simp only[aA,cv]at h;obtain⟨rfl,rfl⟩:=h;obtain⟨t',a,c,h1,h2⟩:=vp hs hh hx hn.1 (.inl ⟨_,_,hi⟩);exact⟨_,rfl,uS false (by simpa using ho) hu h1 hyy h2⟩
   ·rename_i k rows hi;simp only[aA,cv]at h;obtain⟨rfl,rfl⟩:=h;obtain⟨t',a,c,h1,h2⟩:=vp hs hh hx hn.1 (.inr ⟨_,hi⟩);exact⟨_,rfl,uS false (by simpa using ho) hu h1 hyy h2⟩
   ·cases h
  ·cases h
 ·rename_i t x y yt ho;split at h
  ·rename_i e i n hu hx hy;have hyy:ev s y=some (.v (.slice none 0 0)):=by
    obtain⟨z,g1,g2⟩:=cf hs hy;simp only[aE]at g2;subst g2;exact g1
   split at h
   ·rename_i e' k rows hi;simp only[aA,cv]at h;obtain⟨rfl,rfl⟩:=h;obtain⟨t',a,c,h1,h2⟩:=vp hs hh hx hn.1 (.inl ⟨_,_,hi⟩);exact⟨_,rfl,uS true (by simpa using ho) hu h1 hyy h2⟩
   ·rename_i k rows hi;simp only[aA,cv]at h;obtain⟨rfl,rfl⟩:=h;obtain⟨t',a,c,h1,h2⟩:=vp hs hh hx hn.1 (.inr ⟨_,hi⟩);exact⟨_,rfl,uS true (by simpa using ho) hu h1 hyy h2⟩
   ·cases h
  ·cases h
 ·cases h
