/- The abstract machine, third part: operations on own memory; handing own memory on; calls. -/
import Derived.Test.YthlcjaanmbjcaaaGreatKD1
set_option linter.all false
noncomputable section
namespace Go.Bw
open Go
theorem Oper.LQ {P:Program} {o:Oper} {a:Act} {w:World} {K K':Act->World->Prop} {Q Q':Exit->Act->World->Prop} (h:∀a w,K a w->K' a w) (hq:∀e a w,Q e a w->Q' e a w)
  (hh:o.wp P a w K Q):o.wp P a w K' Q':=by
 unfold Oper.wp at*
 generalize (execOp a.eval o).run P w=r at*
 cases r with
 |ok n w'=>
  cases n<;>simp only[Oper.upon]at hh⊢<;>
   first
    |exact h _ _ hh
    |exact Calls.mono hh (λe w'' he=>by cases e<;>first|exact h _ _ he|exact hq _ _ _ he|exact(let⟨a,w,hz⟩:=he;⟨a,w,hq _ _ _ hz⟩))
    |exact Rows.mono hh (λ_ _ he=>h _ _ he)
 |halt x w'=>cases x<;>simp only[Oper.upon]at hh⊢<;>first|exact hh|exact hq _ _ _ hh
theorem u9 {P:Program} {ops:Array Oper} {Q Q':Exit->Act->World->Prop} (hq:∀e a w,Q e a w->Q' e a w):∀{l:List Oper} {a:Act} {w:World},wpList P ops Q l a w->wpList P ops Q' l a w
 |[],_,_,h=>hq _ _ _ h
 |o::rest,a,w,h=>by
  unfold wpList at h⊢;split
  ·rename_i hw;rw[cV hw]at h;exact h.imp (Oper.LQ (λ_ _ hh=>u9 hq hh) hq) λ⟨h1,a,w,h2⟩=>⟨h1,a,w,hq _ _ _ h2⟩
  ·rename_i hw;rw[cW hw]at h;exact u9 hq h
theorem aQ.mono {C:Cx} {N:Nat} {ops:Array Oper} {rest:List Oper} {Q Q':AQ} {Z:Sg} {O:List ag} (h:aQ C N ops rest Q Z O) (hq:∀e Z O,Q e Z O->Q' e Z O):aQ C N ops rest Q' Z O:=λF w0 O0 a w hs hx=>
 u9 (λ_ _ _ ⟨e0,Z',O',h1,h2⟩=>⟨e0,Z',O',hq _ _ _ h1,h2⟩) (h F w0 O0 a w hs hx)
theorem DO.up {E:Env} {N K:Nat} {all rest:List Oper} {Q:DQ} {ZB:Sg} {ηB:List ag} {L L':au} (hl:L.le L') (h:aQ E.toCx N all.toArray rest (lift K L' Q) ZB ηB):aQ E.toCx N all.toArray rest (lift K L Q) ZB ηB:=
 h.mono λ_ _ _ h=>lH (hl.toK K) (λ_ _ _ h=>h) h
def Hp.push (O:Hp) (x:aR):Hp:=⟨Tr.put 24 O.e O.n (some x),O.n+1⟩
def Hp.set (O:Hp) (i:Nat) (x:aR):Hp:=⟨Tr.put 24 O.e i (some x),O.n⟩
def au.dK (L:au) (t b:Nat):au:=⟨λu=>if u=t then some b else L.b u,L.s⟩
def au.aO (L:au) (t n:Nat) (x:Option Addr×Nat):au:=⟨L.b,λu m=>if u=t/\m=n then some x else L.s u m⟩
theorem au.pD {L:au} {t b:Nat} (h:L.b t=none):L.le (L.dK t b):=⟨λu x hx=>by
 have:u≠t:=λe=>by subst e;rw[h]at hx;cases hx
 simp[au.dK,this,hx],λ_ _ _ h=>h⟩
theorem au.gX {L:au} {t n:Nat} {x:Option Addr×Nat} (h:∀y,L.s t n=some y->y=x):L.le (L.aO t n x):=⟨λ_ _ h=>h,λu m y hy=>by
 by_cases hu:u=t/\m=n
 ·obtain⟨rfl,rfl⟩:=hu;simp[au.aO,h y hy]
 ·simp[au.aO,hu,hy]⟩
theorem J6 {D:Type} {l r:List D} {i:Nat} {x:D} (h:nth l i=some x):nth (l++r) i=some x:=by
 rw[bP]at h⊢;rw[mJ (cT.1 h).1];exact h
theorem HS.lt {L:au} {O:Hp} {ηB:List ag} (hh:HS L O ηB) {i:Nat} {x:aR} (h:O.e.get i=some x):i<O.n:=by
 obtain⟨y,h1,_⟩:=hh.en i x h;rw[bP]at h1;rw[<-hh.len];exact(cT.1 h1).1
theorem HS.push {L L':au} {O:Hp} {ηB:List ag} (hh:HS L O ηB) (hl:L.le L') (hs:∀i,i≠O.n->L'.s i=L.s i) (hb:∀i,i≠O.n->L'.b i=L.b i) {x:aR} {y:ag} (hx:iP L' O.n x y):HS L' (O.push x) (ηB++[y]):=by
 refine⟨λi z hz=>?_,by simp[Hp.push,hh.len],λt ht=>?_⟩
 ·rcases Tr.dA 24 O.e O.n i _ z hz with⟨rfl,h1⟩|⟨hne,h1⟩
  ·cases h1;exact⟨y,by rw[bP,<-hh.len];simp,hx⟩
  ·obtain⟨q,h2,h3⟩:=hh.en i z h1;exact⟨q,J6 h2,h3.mono hl (hs i hne)⟩
 ·have:t≠O.n:=by simp[Hp.push]at ht;omega
  rw[hb t this,hs t this];exact hh.eC t (by simp[Hp.push]at ht;omega)
theorem HS.set {L L':au} {O:Hp} {ηB:List ag} (hh:HS L O ηB) (hl:L.le L') {i:Nat} (hs:∀j,j≠i->L'.s j=L.s j) (hb:∀j,j≠i->L'.b j=L.b j) (hi:i<O.n) {x:aR} {y:ag} (hx:iP L' i x y):HS L' (O.set i x) (ηB.set i y):=by
 refine⟨λj z hz=>?_,by simp[Hp.set,hh.len],λt ht=>?_⟩
 ·rcases Tr.dA 24 O.e i j _ z hz with⟨rfl,h1⟩|⟨hne,h1⟩
  ·cases h1;exact⟨y,by rw[bP];simp[hh.len,hi],hx⟩
  ·obtain⟨q,h2,h3⟩:=hh.en j z h1;exact⟨q,by rw[bP]at h2⊢;rw[BP (ga hne)];exact h2,h3.mono hl (hs j hne)⟩
 ·have:t≠i:=by simp[Hp.set]at ht;omega
  rw[hb t this,hs t this];exact hh.eC t ht
section
variable {E:Env} {N K:Nat} {Q:DQ} {Z:TS} {O:Hp} {o:Oper} {x:CV} {all rest:List Oper}
theorem DO.oJ {cells:List CV} {d:Nat} (hg:o.guard=none) (hd:o.dst=some d) (hdN:Nat.blt d N=true) (h:∀L s ηB,SS L Z s->HS L O ηB->∃cs,aC L cells cs/\dZ E.toCx N o s ηB cs)
  (k:DO E N K all rest Q (br Z (some d) (.own O.n 0)) (O.push (.box cells))):DO E N K all (o::rest) Q Z O:=λL ZB ηB hs hh=>by
 obtain⟨cs,h1,h2⟩:=h L _ ηB hs hh;refine aQ.oJ hg hd hdN h2 λb=>?_;have hdom:=hh.eC O.n (bq _);have hl:L.le (L.dK O.n b):=au.pD hdom.1;have hbn:(L.dK O.n b).b O.n=some b:=by simp[au.dK]
 refine DO.up hl (k _ _ _ ((hs.mono hl).put (some d) (by simp only[aw];exact⟨b,ηB.length,hbn,rfl⟩)) ?_);exact hh.push hl (λ_ _=>rfl) (λi hi=>by simp[au.dK,hi]) ⟨b,cs,hbn,rfl,h1.mono hl⟩
theorem sM {t:TypeId} {p:Operand} (ho:o.op= .box t p) (hp:aL Z p=some x):∀L s ηB,SS L Z s->HS L O ηB->∃cs,aC L (cO x) cs/\dZ E.toCx N o s ηB cs:=λL s ηB hs _=>by
 obtain⟨y,h1,h2⟩:=bz hs hp;exact⟨_,rZ h2,dZ.box ho h1⟩
theorem sd {t:TypeId} {td:TD} {sz by':Nat} {z:List Value} (ho:o.op= .alloc t) (ht:aM E.T t=some ⟨td,sz,by',z⟩):∀L s ηB,SS L Z s->HS L O ηB->∃cs,aC L ((z.map .v).map .d) cs/\dZ E.toCx N o s ηB cs:=λ_ _ _ _ _=>
 ⟨_,fi _,dZ.alloc ho ht⟩
def iR:List CV->Bool
 |[]=>true
 | .d y::r=>match dE [y]with
  |true=>iR r
  |false=>false
 | .agg _::_=>false
 | .bK _::_=>false
 |_::r=>iR r
theorem KK {y:AV} {r:List AV} (h:dE [y]=true) (hr:dE r=true):dE (y::r)=true:=by
 cases y<;>simp_all [dE]
theorem vu {L:au}:∀{xs:List CV} {ys:List AV},iR xs=true->aC L xs ys->dE ys=true
 |[],ys,_,h=>by simp only[aC]at h;subst h;rfl
 |x::r,ys,ho,h=>by
  simp only[aC]at h;obtain⟨y,r',rfl,h1,h2⟩:=h;have key:iR r=true->dE [y]=true->dE (y::r')=true:=λh3 h4=>KK h4 (vu h3 h2);cases x with
  |d z=>
   simp only[aw]at h1;subst h1;simp only[iR]at ho;split at ho
   ·rename_i h3;exact key ho h3
   ·cases ho
  |agg xs=>cases ho
  |bK xs=>cases ho
  |own t n=>simp only[aw]at h1;obtain⟨b,t',_,rfl⟩:=h1;exact key ho rfl
  |os t n=>simp only[aw]at h1;obtain⟨a,c,t',_,rfl⟩:=h1;exact key ho rfl
  |oe t n m=>simp only[aw]at h1;obtain⟨a,c,t',_,rfl⟩:=h1;exact key ho rfl
  |om t=>simp only[aw]at h1;obtain⟨b,t',_,rfl⟩:=h1;exact key ho rfl
  |fn f fs cs=>simp only[aw]at h1;obtain⟨us,vs,rfl,_⟩:=h1;exact key ho rfl
  |ba t z=>simp only[aw]at h1;obtain⟨u,rfl,_⟩:=h1;exact key ho rfl
theorem DO.store {t:TypeId} {p v:Operand} {i off:Nat} {cs cs':List CV} {ti:TI} (hg:o.guard=none) (ho:o.op= .store t p v) (hd:o.dst=none) (hp:aL Z p=some (.own i off)) (hv:aL Z v=some x) (hi:O.e.get i=some (.box cs)) (ht:aM E.T t=some ti)
  (hk:Nat.beq (cO x).length ti.size=true) (h1:iR (cO x)=true) (hl:iD cs off (cO x)=some cs') (k:DO E N K all rest Q Z (O.set i (.box cs'))):DO E N K all (o::rest) Q Z O:=λL ZB ηB hs hh=>by
 obtain⟨y,h2,h3⟩:=bz hs hp;simp only[aw]at h3;obtain⟨b,t',h3,rfl⟩:=h3;obtain⟨z,h4,h5⟩:=bz hs hv;obtain⟨q,h6,h7⟩:=hh.en i _ hi;obtain⟨b',us,h8,rfl,h9⟩:=h7;rw[h3]at h8;cases h8;have hc:=rZ h5;obtain⟨us',h10,h11⟩:=rW hl h9 hc;refine aQ.ue hg hd (vJ ho h2 h4 h6 ht (by rw[hc.length];exact hk) (vu h1 hc) h10) (k L _ _ hs ?_);exact hh.set (.refl L) (λ_ _=>rfl) (λ_ _=>rfl) (hh.lt hi) ⟨b,us',h3,rfl,h11⟩
theorem DO.lL {t:TypeId} {p v:Operand} {i n m e kk:Nat} {rows:List (List AV)} {r r':List AV} {y:AV} {ti:TI} (j off:Nat) (hg:o.guard=none) (ho:o.op= .store t p v) (hd:o.dst=none) (hp:aL Z p=some (.oe i n m)) (hv:aL Z v=some (.d y)) (hi:O.e.get i=some (.row e kk rows)) (hn:n=rows.length)
  (hm:m=j*kk+off) (hr:rows[j]? =some r) (ht:aM E.T t=some ti) (hk:Nat.beq (bD y).length ti.size=true) (h1:dE (bD y)=true) (hl:dM r off (bD y)=some r') (k:DO E N K all rest Q Z (O.set i (.row e kk (rows.set j r')))):DO E N K all (o::rest) Q Z O:=λL ZB ηB hs hh=>by
 obtain⟨z,h2,h3⟩:=bz hs hp;simp only[aw]at h3;obtain⟨a,c,t',h3,rfl⟩:=h3;obtain⟨z,h4,h5⟩:=bz hs hv;simp only[aw]at h5;subst h5;obtain⟨q,h6,h7⟩:=hh.en i _ hi;obtain⟨⟨a',c',h8,rfl⟩,h9⟩:=h7;subst hn;rw[h3]at h8;cases h8;refine aQ.ue hg hd (Cc ho j off h2 hm h4 h6 hr ht hk h1 hl) (k L _ _ hs ?_);exact hh.set (.refl L) (λ_ _=>rfl) (λ_ _=>rfl) (hh.lt hi) ⟨⟨a,c,by simpa using h3,by simp⟩,by simpa using h9⟩
theorem DO.lit {d n:Nat} {t:TypeId} {parts:Array (Nat×Operand)} {ty:TypeId} {pos:String} {after:Array Edge} {e k sz by' sz' by'':Nat} {z z':List Value} {td':TD} {cells:List AV}
  (ht:aM E.T t=some ⟨.slice e k,sz,by',z⟩) (hte:aM E.T e=some ⟨td',sz',by'',z'⟩) (hf:dG k (cZ Z) (eR n (z'.map .v)) parts.toList=some cells) (hb:Nat.ble (n*k) 16777216=true) (hk:Nat.ble 1 k=true) (hd:Nat.blt d N=true)
  (kk:DO E N K all rest Q (br Z (some d) (.os O.n n)) (O.push (.row e k (chunk n k cells)))):DO E N K all (⟨some d,.buildSlice t n parts,ty,pos,after,none⟩::rest) Q Z O:=λL ZB ηB hs hh=>by
 have hf':dG k (look ZB) (eR n (z'.map .v)) parts.toList=some cells:=by
  have key:∀(l:List (Nat×Operand)) (cs r:List AV),dG k (cZ Z) cs l=some r->dG k (look ZB) cs l=some r:=by
   intro l
   induction l with
   |nil=>intro cs r h;exact h
   |cons p l ih=>
    intro cs r h;obtain⟨i,p⟩:=p;simp only[dG]at h⊢;split at h
    ·rename_i y hy;have hy':ev (look ZB) p=some y:=by
      cases p with
      |tmp u=>exact gI hs hy
      |const v=>exact hy
      |global g=>exact hy
      |func f=>exact hy
     simp only[hy'];split at h
     ·rename_i c1 h1 h2;exact ih _ _ h
     ·cases h
    ·cases h
  exact key _ _ _ hf
 refine aQ.lit ht hte hf' hb hk hd λb=>?_;have hdom:=hh.eC O.n (bq _);have hl:L.le (L.aO O.n n (some ⟨b,0,none⟩,n)):=au.gX λy hy=>by rw[hdom.2]at hy;cases hy
 have hbn:(L.aO O.n n (some ⟨b,0,none⟩,n)).s O.n n=some (some ⟨b,0,none⟩,n):=by simp[au.aO]
 refine DO.up hl (kk _ _ _ ((hs.mono hl).put (some d) (by simp only[aw];exact⟨_,_,ηB.length,hbn,rfl⟩)) ?_);refine hh.push hl (λi hi=>by funext m;simp[au.aO,hi]) (λ_ _=>rfl) ⟨⟨some ⟨b,0,none⟩,n,by rw[eN];exact hbn,by rw[eN]⟩,λm hm=>?_⟩;rw[eN]at hm;have:m≠n:=by omega
 simp only[au.aO,this,and_false,if_false];exact hdom.2 m
theorem DO.fB (t e k:Nat) (ht:Z.get t=some (.d (.v (.slice none 0 0)))) (kk:DO E N K all rest Q (Tr.put 24 Z t (some (.os O.n 0))) (O.push (.row e k []))):DO E N K all rest Q Z O:=λL ZB ηB hs hh=>by
 obtain⟨y,h1,h2⟩:=hs t _ ht;simp only[aw]at h2;subst h2;refine aQ.fB t e k h1 ?_;have hdom:=hh.eC O.n (bq _);have hl:L.le (L.aO O.n 0 (none,0)):=au.gX λy hy=>by rw[hdom.2]at hy;cases hy
 have hbn:(L.aO O.n 0 (none,0)).s O.n 0=some (none,0):=by simp[au.aO]
 refine DO.up hl (kk _ _ _ ((hs.mono hl).put (some t) (by simp only[aw];exact⟨_,_,ηB.length,hbn,rfl⟩)) ?_);refine hh.push hl (λi hi=>by funext m;simp[au.aO,hi]) (λ_ _=>rfl) ⟨⟨none,0,by simpa using hbn,by simp⟩,λm hm=>?_⟩;have:m≠0:=by simp at hm;omega
 simp only[au.aO,this,and_false,if_false];exact hdom.2 m
inductive ij (E:Env) (Z:TS) (O:Hp) (k:Nat):Operand->List (List AV)->Prop where
 |sl {p:Operand} {rows:List (List AV)}:aL Z p=some (.d (.sl k rows))->ij E Z O k p rows
 |uf {p:Operand} {x:AV} {rows:List (List AV)}:aL Z p=some (.d x)->(∀w A v,Rel w A x v->Rel w A (.sl k rows) v)->ij E Z O k p rows
 |nil {p:Operand}:aL Z p=some (.d (.v (.slice none 0 0)))->ij E Z O k p []
 |row {p:Operand} {j n e:Nat} {rows:List (List AV)}:aL Z p=some (.os j n)->O.e.get j=some (.row e k rows)->n=rows.length->ij E Z O k p rows
 |fz {p:Operand} {j n:Nat} {rows:List (List AV)}:aL Z p=some (.os j n)->O.e.get j=some (.fw k rows)->n=rows.length->ij E Z O k p rows
theorem ij.ok {L:au} {ZB:Sg} {ηB:List ag} (hs:SS L Z (look ZB)) (hh:HS L O ηB) {k:Nat} {p:Operand} {rows:List (List AV)} (h:ij E Z O k p rows):∀F a w,St E.G N w F a ZB ηB->fR w (Al F ηB) k (a.eval p) rows:=λF a w hst=>by
 cases h with
 |sl h=>
  obtain⟨y,h1,h2⟩:=bz hs h;simp only[aw]at h2;subst h2;exact fR.sl (aY hst.sg h1)
 |uf h hI=>
  obtain⟨y,h1,h2⟩:=bz hs h;simp only[aw]at h2;subst h2;exact fR.sl (hI _ _ _ (aY hst.sg h1))
 |nil h=>
  obtain⟨y,h1,h2⟩:=bz hs h;simp only[aw]at h2;subst h2;have:=aY hst.sg h1;simp only[Rel]at this;rw[this];exact⟨none,0,0,[],rfl,rfl,by simp[aX],λ_=>rfl,λ_ h=>by cases h⟩
 |row h h3 hn=>
  obtain⟨y,h1,h2⟩:=bz hs h;simp only[aw]at h2;obtain⟨a',c,t',h4,rfl⟩:=h2;obtain⟨q,h5,h6⟩:=hh.en _ _ h3;obtain⟨⟨a2,c2,h7,rfl⟩,_⟩:=h6;subst hn;rw[h4]at h7;cases h7;have:=aY hst.sg h1;simp only[Rel]at this;rw[this];exact fR.row (fg hst.hp h5)
 |fz h h3 hn=>
  obtain⟨y,h1,h2⟩:=bz hs h;simp only[aw]at h2;obtain⟨a',c,t',h4,rfl⟩:=h2;obtain⟨q,h5,h6⟩:=hh.en _ _ h3;obtain⟨a2,c2,h7,rfl⟩:=h6;subst hn;rw[h4]at h7;cases h7;have:=aY hst.sg h1;simp only[Rel]at this;rw[this];exact fR.sl (lO hst.hp h5)
theorem DO.append {i d n:Nat} {s p:Operand} {t:TypeId} {ty:TypeId} {pos:String} {after:Array Edge} {e k sz by' sz' by'':Nat} {z z':List Value} {td':TD} {rows rows2:List (List AV)}
  (hb:(rows++rows2).length*by''<=140737488355328) (hs':aL Z s=some (.os i n)) (hi:O.e.get i=some (.row e k rows)) (hn:n=rows.length) (hx:ij E Z O k p rows2) (ht:aM E.T t=some ⟨.slice e k,sz,by',z⟩) (hte:aM E.T e=some ⟨td',sz',by'',z'⟩) (h1:eo rows2=true)
  (hk:Nat.ble 1 k=true) (hby:Nat.ble 1 by''=true) (hd:Nat.blt d N=true)
  (kk:DO E N K all rest Q (br Z (some d) (.os i (rows++rows2).length)) (O.set i (.row e k (rows++rows2)))):
  DO E N K all (⟨some d,.call {callee:= .builtin .append,args:= #[s,p],argTypes:= #[t,t]},ty,pos,after,none⟩::rest) Q Z O:=λL ZB ηB hs hh=>by
 obtain⟨y,h2,h3⟩:=bz hs hs';simp only[aw]at h3;obtain⟨a,c,t',h3,rfl⟩:=h3;obtain⟨q,h6,h7⟩:=hh.en i _ hi;obtain⟨⟨a',c',h8,rfl⟩,h9⟩:=h7;subst hn;rw[h3]at h8;cases h8;refine aQ.kj rfl hd (CG rfl ht hte h2 h6 (hx.ok hs hh) h1 hk hby hb) ?_;rintro r O' ⟨a',c',h0,rfl,rfl⟩;have hl:L.le (L.aO i (rows++rows2).length (a',c')):=au.gX λy hy=>by
  by_cases hz:rows2=[]
  ·subst hz;simp only[gz]at hy;rw[h3]at hy;cases hy;obtain⟨rfl,rfl⟩:=h0 rfl;rfl
  ·have:rows.length<(rows++rows2).length:=by
    have:=BN.2 hz;simp;omega
   rw[h9 _ this]at hy;cases hy
 have hbn:(L.aO i (rows++rows2).length (a',c')).s i (rows++rows2).length=some (a',c'):=by simp[au.aO]
 refine DO.up hl (kk _ _ _ ((hs.mono hl).put (some d) (by simp only[aw];exact⟨_,_,i,hbn,rfl⟩)) ?_);refine hh.set hl (λj hj=>by funext m;simp[au.aO,hj]) (λ_ _=>rfl) (hh.lt hi) ⟨⟨a',c',hbn,rfl⟩,λm hm=>?_⟩
 have hne:m≠(rows++rows2).length:=by omega
 simp only[au.aO,hne,and_false,if_false];exact h9 m (by simp at hm;omega)
theorem DO.wJ {i d n:Nat} {s p:Operand} {t u:TypeId} {ty:TypeId} {pos:String} {after:Array Edge} {e k sz by' sz' by'' szu byu:Nat} {z z' zu:List Value} {td':TD} {rows:List (List AV)} {b:ByteArray}
  (hb:(rows++cy b).length*by''<=140737488355328) (hs':aL Z s=some (.os i n)) (hi:O.e.get i=some (.row e k rows)) (hn:n=rows.length) (hx:aL Z p=some (.d (.v (.string b)))) (ht:aM E.T t=some ⟨.slice e k,sz,by',z⟩) (hu:aM E.T u=some ⟨.str,szu,byu,zu⟩) (hte:aM E.T e=some ⟨td',sz',by'',z'⟩)
  (hk:Nat.beq k 1=true) (hby:Nat.beq by'' 1=true) (hd:Nat.blt d N=true)
  (kk:DO E N K all rest Q (br Z (some d) (.os i (rows++cy b).length)) (O.set i (.row e k (rows++cy b)))):
  DO E N K all (⟨some d,.call {callee:= .builtin .append,args:= #[s,p],argTypes:= #[t,u]},ty,pos,after,none⟩::rest) Q Z O:=λL ZB ηB hs hh=>by
 obtain⟨y,h2,h3⟩:=bz hs hs';simp only[aw]at h3;obtain⟨a,c,t',h3,rfl⟩:=h3;obtain⟨y2,g2,g3⟩:=bz hs hx;simp only[aw]at g3;subst g3;obtain⟨q,h6,h7⟩:=hh.en i _ hi;obtain⟨⟨a',c',h8,rfl⟩,h9⟩:=h7;subst hn;rw[h3]at h8;cases h8;refine aQ.kj rfl hd (Cl rfl ht hu hte h2 h6 g2 hk hby hb) ?_;rintro r O' ⟨a',c',h0,rfl,rfl⟩;have hl:L.le (L.aO i (rows++cy b).length (a',c')):=au.gX λy hy=>by
  by_cases hz:cy b=[]
  ·rw[hz]at hy;simp only[gz]at hy;rw[h3]at hy;cases hy;obtain⟨rfl,rfl⟩:=h0 hz;rfl
  ·have:rows.length<(rows++cy b).length:=by
    have:=BN.2 hz;simp;omega
   rw[h9 _ this]at hy;cases hy
 have hbn:(L.aO i (rows++cy b).length (a',c')).s i (rows++cy b).length=some (a',c'):=by simp[au.aO]
 refine DO.up hl (kk _ _ _ ((hs.mono hl).put (some d) (by simp only[aw];exact⟨_,_,i,hbn,rfl⟩)) ?_);refine hh.set hl (λj hj=>by funext m;simp[au.aO,hj]) (λ_ _=>rfl) (hh.lt hi) ⟨⟨a',c',hbn,rfl⟩,λm hm=>?_⟩
 have hne:m≠(rows++cy b).length:=by omega
 simp only[au.aO,hne,and_false,if_false];exact h9 m (by simp at hm;omega)
theorem DO.make {d:Nat} {t:TypeId} {p q:Operand} {ty:TypeId} {pos:String} {after:Array Edge} {e k sz by' sz' by'':Nat} {z z':List Value} {td':TD} {kl kc:IntKind} {li ci:Int} (l c:Nat)
  (hb:c*by''<=140737488355328) (hl:l<=c) (hx:aL Z p=some (.d (.v (.int kl li)))) (hli:li=(l:Int)) (hy:aL Z q=some (.d (.v (.int kc ci)))) (hci:ci=(c:Int)) (ht:aM E.T t=some ⟨.slice e k,sz,by',z⟩) (hte:aM E.T e=some ⟨td',sz',by'',z'⟩)
  (hk:Nat.ble 1 k=true) (hby:Nat.ble 1 by''=true) (hd:Nat.blt d N=true)
  (kk:DO E N K all rest Q (br Z (some d) (.os O.n l)) (O.push (.row e k (List.replicate l (z'.map .v))))):DO E N K all (⟨some d,.makeSlice t p q,ty,pos,after,none⟩::rest) Q Z O:=λL ZB ηB hs hh=>by
 obtain⟨y1,h2,h3⟩:=bz hs hx;simp only[aw]at h3;subst h3;obtain⟨y1,h4,h5⟩:=bz hs hy;simp only[aw]at h5;subst h5;refine aQ.make l c hb hl h2 hli h4 hci ht hte hk hby hd λb=>?_;have hdom:=hh.eC O.n (bq _);have hle:L.le (L.aO O.n l (some ⟨b,0,none⟩,c)):=au.gX λy hy=>by rw[hdom.2]at hy;cases hy
 have hbn:(L.aO O.n l (some ⟨b,0,none⟩,c)).s O.n l=some (some ⟨b,0,none⟩,c):=by simp[au.aO]
 refine DO.up hle (kk _ _ _ ((hs.mono hle).put (some d) (by simp only[aw];exact⟨_,_,ηB.length,hbn,rfl⟩)) ?_);refine hh.push hle (λi hi=>by funext m;simp[au.aO,hi]) (λ_ _=>rfl) ⟨⟨some ⟨b,0,none⟩,c,by simpa using hbn,by simp⟩,λm hm=>?_⟩;have:m≠l:=by simp at hm;omega
 simp only[au.aO,this,and_false,if_false];exact hdom.2 m
end
def eqs:List (Nat×Nat)->Prop
 |[]=>True
 |p::r=>p.1=p.2/\eqs r
theorem ji:∀{l r:List (Nat×Nat)},eqs (l++r)->eqs l/\eqs r
 |[],_,h=>⟨trivial,h⟩
 |_::_,_,h=>⟨⟨h.1,(ji h.2).1⟩,(ji h.2).2⟩
def bA (e:Tr aR):Nat->List CV->Option (List AV×List (Nat×Nat)×List (Nat×aR))
 |0,_=>none
 |_+1,[]=>some ([],[],[])
 |f+1,x::r=>match bA e f r with
  |none=>none
  |some (zs,ns,ms)=>match x with
   | .d y=>some (y::zs,ns,ms)
   | .agg ys=>match bA e f ys with
    |some (us,ns',ms')=>some (.agg us::zs,ns'++ns,ms'++ms)
    |none=>none
   | .bK ys=>match bA e f ys with
    |some (us,ns',ms')=>some (.bK us::zs,ns'++ns,ms'++ms)
    |none=>none
   | .own t o=>match e.get t with
    |some (.box cs)=>match bA e f cs with
     |some (us,ns',ms')=>some (.ip (us.drop o)::zs,ns'++ns,(t,.ir us)::(ms'++ms))
     |none=>none
    |some (.ir us)=>some (.ip (us.drop o)::zs,ns,ms)
    |_=>none
   | .os t n=>match e.get t with
    |some (.row _ k rows)=>some (.sl k rows::zs,(n,rows.length)::ns,(t,.fw k rows)::ms)
    |some (.fw k rows)=>some (.sl k rows::zs,(n,rows.length)::ns,ms)
    |_=>none
   | .fn g fs cs=>match bA e f fs,bA e f cs with
    |some (us,ns1,ms1),some (vs,ns2,ms2)=>some (.fn g us vs::zs,ns1++(ns2++ns),ms1++(ms2++ms))
    |_,_=>none
   | .ba t y=>match bA e f [y]with
    |some ([u],ns',ms')=>some (.ba t u::zs,ns'++ns,ms'++ms)
    |_=>none
   | .oe _ _ _=>none
   | .om _=>none
def dY (F:Nat->Prop) (ηB:List ag) (M:List Nat) (b:Nat):Prop:=¬F b/\∀i y,nth ηB i=some y->i∉M->b∉y.ids
theorem Fp {F:Nat->Prop} {ηB:List ag} (M:List Nat) {b:Nat} (h:Al F ηB b):dY F ηB M b:=
 ⟨h.1,λi y hy _ hb=>h.2 (fe.2 ⟨y,bV (by rw[<-bP];exact hy),hb⟩)⟩
theorem sA {w:World} {F:Nat->Prop} {ηB:List ag} (M:List Nat):b9 w (Al F ηB) w (dY F ηB M):=⟨bq _,λ_ _ h=>⟨Fp M h,rfl⟩⟩
theorem Cd:∀{l:List ag} {i j:Nat} {x y:ag} {b:Nat},(ids l).Nodup->nth l i=some x->nth l j=some y->i≠j->b∈x.ids->b∉y.ids
 |[],_,_,_,_,_,_,h,_,_,_=>by simp[nth]at h
 |z::l,0,0,_,_,_,_,_,_,hne,_=>absurd rfl hne
 |z::l,0,j+1,x,y,b,hnd,hi,hj,_,hb=>λhy=>by
  rw[b4,jd]at hnd;simp only[nth,ao]at hi hj;subst hi;exact hnd.2.2 b hb b (fe.2 ⟨y,bV (by rw[<-bP];exact hj),hy⟩) rfl
 |z::l,i+1,0,x,y,b,hnd,hi,hj,_,hb=>λhy=>by
  rw[b4,jd]at hnd;simp only[nth,ao]at hi hj;subst hj;exact hnd.2.2 b hy b (fe.2 ⟨x,bV (by rw[<-bP];exact hi),hb⟩) rfl
 |z::l,i+1,j+1,x,y,b,hnd,hi,hj,hne,hb=>by
  rw[b4,jd]at hnd;simp only[nth]at hi hj;exact Cd hnd.2.1 hi hj (λe=>hne (by rw[e])) hb
theorem FF {G:Gl} {w:World} {F:Nat->Prop} {ηB:List ag} {M:List Nat} (hH:bh G w F ηB) {i:Nat} {x:ag} {b:Nat} (hi:nth ηB i=some x) (hM:i∈M) (hb:b∈x.ids):dY F ηB M b:=by
 refine⟨hH.free b (fe.2 ⟨x,bV (by rw[<-bP];exact hi),hb⟩),λj y hj hjM=>?_⟩;exact Cd hH.nodup hi hj (λe=>hjM (e▸hM)) hb
def mo (L:au) (w:World) (A:Nat->Prop):Nat×aR->Prop
 |(t,.ir us)=>∃b,L.b t=some b/\Rel w A (.ip us) (.pointer (some ⟨b,0,none⟩))
 |(t,.fw k rows)=>∃a c,L.s t rows.length=some (a,c)/\Rel w A (.sl k rows) (.slice a rows.length c)
 |_=>False
section
variable {L:au} {O:Hp} {ηB:List ag} {w:World} {F:Nat->Prop} {G:Gl}
theorem Mv {M:List Nat} (hH:bh G w F ηB) {i:Nat} {v:Value} {e k:Nat} {rows:List (List AV)} (hi:nth ηB i=some (.row v e k rows)) (hM:i∈M):Rel w (dY F ηB M) (.sl k rows) v:=by
 obtain⟨vs,h1,h2,h3⟩:=fg hH hi;simp only[Rel];rcases h3 with⟨rfl,h0⟩|⟨g,cap,cur,rfl,_,hg,hn,hcm,hcs,htake⟩
 ·exact .inl ⟨jI h0,_,_,rfl⟩
 ·refine .inr ⟨g,0,cap,vs,rfl,⟨(fZ.1 hg).1,FF hH hi hM (by simp[ag.ids,Value.ownBlock])⟩,hn,hcm,h1.aU (sA M),λj u hj=>?_⟩;rw[<-htake,gV]at hj;split at hj
  ·rw[lz];simp[World.cell?,hg];simpa using hj
  ·cases hj
theorem fy (hh:HS L O ηB) (hH:bh G w F ηB) (M:List Nat):∀(f:Nat) {xs:List CV} {zs:List AV} {ns:List (Nat×Nat)} {ms:List (Nat×aR)} {ys:List AV} {vs:List Value},bA O.e f xs=some (zs,ns,ms)->eqs ns->(∀p∈ms,p.1∈M)->
  aC L xs ys->ax w (Al F ηB) ys vs->ax w (dY F ηB M) zs vs/\∀p∈ms,mo L w (dY F ηB M) p
 |0,_,_,_,_,_,_,h,_,_,_,_=>by simp[bA]at h
 |f+1,[],zs,ns,ms,ys,vs,h,_,_,hi,hr=>by
  simp only[bA,ao,bW]at h;obtain⟨rfl,rfl,rfl⟩:=h;simp only[aC]at hi;subst hi;simp only[ax]at hr;subst hr;exact⟨by simp[ax],by simp⟩
 |f+1,x::r,zs,ns,ms,ys,vs,h,hn,hM,hi,hr=>by
  simp only[aC]at hi;obtain⟨y,ys,rfl,hy,hi⟩:=hi;simp only[ax]at hr;obtain⟨v,vs,rfl,hv,hr⟩:=hr;simp only[bA]at h;split at h
  ·cases h
  ·rename_i ay ns0 ms0 h0;have tail:∀{z:AV} {ms':List (Nat×aR)},eqs ns0->(∀p∈ms0,p.1∈M)->Rel w (dY F ηB M) z v->(∀p∈ms',mo L w (dY F ηB M) p)->ax w (dY F ηB M) (z::ay) (v::vs)/\∀p∈ms'++ms0,mo L w (dY F ηB M) p:=by
    intro z ms' hn' hM' hz hm;obtain⟨h1,h2⟩:=fy hh hH M f h0 hn' hM' hi hr;refine⟨by simp only[ax];exact⟨_,_,rfl,hz,h1⟩,λp hp=>?_⟩;rcases ck.1 hp with hp|hp
    ·exact hm p hp
    ·exact h2 p hp
   cases x with
   |d z=>
    simp only[ao,bW]at h;obtain⟨rfl,rfl,rfl⟩:=h;simp only[aw]at hy;subst hy;simpa using tail (ms':=[]) hn hM (hv.aU (sA M)) (by simp)
   |agg ks=>
    simp only at h;split at h
    ·rename_i us ns' ms' h1;simp only[ao,bW]at h;obtain⟨rfl,rfl,rfl⟩:=h;simp only[aw]at hy;obtain⟨ws,rfl,hy⟩:=hy;simp only[Rel]at hv;obtain⟨qs,rfl,hv⟩:=hv;obtain⟨g1,g2⟩:=ji hn;obtain⟨h2,h3⟩:=fy hh hH M f h1 g1 (λp hp=>hM p (by simp[hp])) hy hv;exact tail g2 (λp hp=>hM p (by simp[hp])) (by simp only[Rel];exact⟨qs,rfl,h2⟩) h3
    ·cases h
   |bK ks=>
    simp only at h;split at h
    ·rename_i us ns' ms' h1;simp only[ao,bW]at h;obtain⟨rfl,rfl,rfl⟩:=h;simp only[aw]at hy;obtain⟨ws,rfl,hy⟩:=hy;simp only[Rel]at hv;obtain⟨qs,rfl,hv⟩:=hv;obtain⟨g1,g2⟩:=ji hn;obtain⟨h2,h3⟩:=fy hh hH M f h1 g1 (λp hp=>hM p (by simp[hp])) hy hv;exact tail g2 (λp hp=>hM p (by simp[hp])) (by simp only[Rel];exact⟨qs,rfl,h2⟩) h3
    ·cases h
   |own t off=>
    simp only[aw]at hy;obtain⟨b,t',hb,rfl⟩:=hy;simp only[Rel]at hv;subst hv;simp only at h;split at h
    ·rename_i cs hcs;split at h
     ·rename_i us ns' ms' h1;simp only[ao,bW]at h;obtain⟨rfl,rfl,rfl⟩:=h;obtain⟨q,hq1,hq2⟩:=hh.en t _ hcs;obtain⟨b',ws,hb',rfl,hws⟩:=hq2;rw[hb]at hb';cases hb';obtain⟨e,qs,hheap,hqs⟩:=fg hH hq1;obtain⟨g1,g2⟩:=ji hn;have htM:t∈M:=hM (t,.ir us) (by simp);obtain⟨h2,h3⟩:=fy hh hH M f h1 g1 (λp hp=>hM p (by simp[hp])) hws hqs;have hip:Rel w (dY F ηB M) (.ip us) (.pointer (some ⟨b,0,none⟩)):=by
       simp only[Rel];exact⟨b,0,qs,rfl,⟨(fZ.1 hheap).1,FF hH hq1 htM (by simp[ag.ids])⟩,h2,λj u hj=>by rw[lz];exact lD hheap j u hj⟩
      have:=tail (ms':=(t,.ir us)::ms') g2 (λp hp=>hM p (by simp[hp])) (hip.xh off) (λp hp=>by
       rcases cL.1 hp with rfl|hp
       ·exact⟨b,hb,hip⟩
       ·exact h3 p hp)
      simpa using this
     ·cases h
    ·rename_i us hcs;simp only[ao,bW]at h;obtain⟨rfl,rfl,rfl⟩:=h;obtain⟨q,hq1,hq2⟩:=hh.en t _ hcs;obtain⟨b',hb',rfl⟩:=hq2;rw[hb]at hb';cases hb';have:=tail (ms':=[]) hn hM (((lO hH hq1).aU (sA M)).xh off) (by simp);simpa using this
    ·cases h
   |os t n=>
    simp only[aw]at hy;obtain⟨a,c,t',hb,rfl⟩:=hy;simp only[Rel]at hv;subst hv;simp only at h;split at h
    ·rename_i e k rows hcs;simp only[ao,bW]at h;obtain⟨rfl,rfl,rfl⟩:=h;obtain⟨q,hq1,hq2⟩:=hh.en t _ hcs;obtain⟨⟨a',c',hb',rfl⟩,_⟩:=hq2;have hnl:n=rows.length:=hn.1;subst hnl;rw[hb]at hb';cases hb';have hsl:=Mv (M:=M) hH hq1 (hM (t,.fw k rows) (by simp));have:=tail (ms':=[(t,.fw k rows)]) hn.2 (λp hp=>hM p (by simp[hp])) hsl (λp hp=>by
      simp only[kC]at hp;subst hp;exact⟨a,c,hb,hsl⟩)
     simpa using this
    ·rename_i k rows hcs;simp only[ao,bW]at h;obtain⟨rfl,rfl,rfl⟩:=h;obtain⟨q,hq1,hq2⟩:=hh.en t _ hcs;obtain⟨a',c',hb',rfl⟩:=hq2;have hnl:n=rows.length:=hn.1;subst hnl;rw[hb]at hb';cases hb';have:=tail (ms':=[]) hn.2 hM ((lO hH hq1).aU (sA M)) (by simp);simpa using this
    ·cases h
   |fn g fs cs=>
    simp only at h;split at h
    ·rename_i us ns1 ms1 us2 ns2 ms2 h1 h2;simp only[ao,bW]at h;obtain⟨rfl,rfl,rfl⟩:=h;simp only[aw]at hy;obtain⟨ws,ws2,rfl,hy,hy2⟩:=hy;simp only[Rel]at hv;obtain⟨qs,qs2,rfl,hv,hv2⟩:=hv;obtain⟨g1,g2⟩:=ji hn;obtain⟨g2,g3⟩:=ji g2;obtain⟨h3,h4⟩:=fy hh hH M f h1 g1 (λp hp=>hM p (by simp[hp])) hy hv;obtain⟨h5,h6⟩:=fy hh hH M f h2 g2 (λp hp=>hM p (by simp[hp])) hy2 hv2;have:=tail (ms':=ms1++ms2) g3 (λp hp=>hM p (by simp[hp])) (z:= .fn g us us2) (by simp only[Rel];exact⟨qs,qs2,rfl,h3,h5⟩) (λp hp=>by
      rcases ck.1 hp with hp|hp
      ·exact h4 p hp
      ·exact h6 p hp)
     simpa using this
    ·cases h
   |ba t k=>
    simp only at h;split at h
    ·rename_i u ns' ms' h1;simp only[ao,bW]at h;obtain⟨rfl,rfl,rfl⟩:=h;simp only[aw]at hy;obtain⟨z,rfl,hy⟩:=hy;simp only[Rel]at hv;obtain⟨q,rfl,hv⟩:=hv;obtain⟨g1,g2⟩:=ji hn;obtain⟨h2,h3⟩:=fy hh hH M f (ys:=[z]) (vs:=[q]) h1 g1 (λp hp=>hM p (by simp[hp])) (by simp only[aC];exact⟨_,_,rfl,hy,rfl⟩) (by simp only[ax];exact⟨_,_,rfl,hv,rfl⟩);simp only[ax]at h2;obtain⟨q',_,h4,h5,rfl⟩:=h2;cases h4;exact tail g2 (λp hp=>hM p (by simp[hp])) (by simp only[Rel];exact⟨q,rfl,h5⟩) h3
    ·cases h
   |oe t n off=>cases h
   |om t=>cases h
end
def fA:List (Nat×aR)->Hp->Hp
 |[],O=>O
 |(t,e)::r,O=>(fA r O).set t e
def pT (L:au) (t:Nat):aR->ag
 | .ir us=> .fact (.ip us) (.pointer (some ⟨(L.b t).getD 0,0,none⟩))
 | .fw k rows=> .fact (.sl k rows) (.slice ((L.s t rows.length).getD (none,0)).1 rows.length ((L.s t rows.length).getD (none,0)).2)
 |_=> .gone
def dI (L:au):List (Nat×aR)->List ag->List ag
 |[],l=>l
 |(t,e)::r,l=>(dI L r l).set t (pT L t e)
theorem Kh {L:au}:∀(ms:List (Nat×aR)) (l:List ag),(dI L ms l).length=l.length
 |[],_=>rfl
 |(t,e)::r,l=>by simp[dI,Kh r l]
theorem CH {L:au} {t:Nat} {e:aR}:(pT L t e).ids=[]:=by cases e<;>rfl
theorem Cm {x:ag} (hx:x.ids=[]):∀(l:List ag) (i:Nat),(ids (l.set i x)).Sublist (ids l)
 |[],_=>by simp
 |y::l,0=>by simp only[rQ,b4,hx,rK];exact Sa _ _
 |y::l,i+1=>by simp only[lA,b4];exact Sc (BO _) (Cm hx l i)
theorem pn {L:au}:∀(ms:List (Nat×aR)) (l:List ag),(ids (dI L ms l)).Sublist (ids l)
 |[],_=>BO _
 |(t,e)::r,l=>(Cm CH _ _).trans (pn r l)
theorem vL {L:au}:∀(ms:List (Nat×aR)) (l:List ag) (i:Nat) (x:ag),nth (dI L ms l) i=some x->(nth l i=some x/\i∉ms.map (·.1))\/∃e,(i,e)∈ms/\x=pT L i e
 |[],_,_,_,h=> .inl ⟨h,by simp⟩
 |(t,e)::r,l,i,x,h=>by
  simp only[dI]at h;by_cases hti:t=i
  ·subst hti;rw[bP]at h;have hlt:t<(dI L r l).length:=by
    have:=(cT.1 h).1;simpa using this
   rw[JQ hlt]at h;cases h;exact .inr ⟨e,by simp,rfl⟩
  ·rw[bP,BP hti,<-bP]at h;rcases vL r l i x h with⟨h1,h2⟩|⟨e',h1,h2⟩
   ·exact .inl ⟨h1,by simp only[cA,cL,not_or];exact⟨λe=>hti e.symm,h2⟩⟩
   ·exact .inr ⟨e',by simp[h1],h2⟩
section
variable {L:au} {O:Hp} {ηB:List ag} {w:World} {F:Nat->Prop} {G:Gl}
theorem Lj {ms:List (Nat×aR)} {b:Nat} (h:dY F ηB (ms.map (·.1)) b):Al F (dI L ms ηB) b:=by
 refine⟨h.1,λhb=>?_⟩;obtain⟨x,hx,hb⟩:=fe.1 hb;obtain⟨i,hi⟩:=gA hx;rw[<-bP]at hi;rcases vL ms ηB i x hi with⟨h1,h2⟩|⟨e,_,rfl⟩
 ·exact h.2 i x h1 h2 hb
 ·rw[CH]at hb;cases hb
theorem mR {ms:List (Nat×aR)}:b9 w (dY F ηB (ms.map (·.1))) w (Al F (dI L ms ηB)):=⟨bq _,λ_ _ h=>⟨Lj h,rfl⟩⟩
theorem sy (hH:bh G w F ηB) {ms:List (Nat×aR)} (hm:∀p∈ms,mo L w (dY F ηB (ms.map (·.1))) p):bh G w F (dI L ms ηB):=by
 refine hH.facts (pn ms ηB) λx hx=>?_;obtain⟨i,hi⟩:=gA hx;rw[<-bP]at hi;rcases vL ms ηB i x hi with⟨h1,_⟩|⟨e,h1,rfl⟩
 ·exact .inl (bV (by rw[<-bP];exact h1))
 ·right;have h2:=hm _ h1;cases e<;>first|exact h2.elim|skip
  ·obtain⟨b,h3,h4⟩:=h2;exact⟨_,_,rfl,by simp only[h3,JR];exact h4.aU mR⟩
  ·obtain⟨a,c,h3,h4⟩:=h2;exact⟨_,_,rfl,by simp only[h3,JR];exact h4.aU mR⟩
theorem D4:∀(ms:List (Nat×aR)) (O:Hp),(fA ms O).n=O.n
 |[],_=>rfl
 |(t,e)::r,O=>by simp[fA,Hp.set,D4 r O]
theorem sj (hh:HS L O ηB):∀{ms:List (Nat×aR)},(∀p∈ms,p.1<O.n/\mo L w F p)->HS L (fA ms O) (dI L ms ηB)
 |[],_=>hh
 |(t,e)::r,hm=>by
  have ih:=sj (ms:=r) hh λp hp=>hm p (by simp[hp]);obtain⟨h1,h2⟩:=hm (t,e) (by simp);refine ih.set (.refl L) (λ_ _=>rfl) (λ_ _=>rfl) (by rw[D4];exact h1) ?_
  cases e<;>first|exact h2.elim|skip
  ·obtain⟨b,h3,_⟩:=h2;exact⟨b,h3,by simp[pT,h3]⟩
  ·obtain⟨a,c,h3,_⟩:=h2;exact⟨a,c,h3,by simp[pT,h3]⟩
theorem mo.lt (hh:HS L O ηB) {A:Nat->Prop} {p:Nat×aR} (h:mo L w A p):p.1<O.n:=by
 obtain⟨t,e⟩:=p;cases e<;>first|exact h.elim|skip
 ·obtain⟨b,h1,_⟩:=h;rcases je t O.n with h2|h2
  ·exact h2
  ·rw[(hh.eC t h2).1]at h1;cases h1
 ·obtain⟨a,c,h1,_⟩:=h;rcases je t O.n with h2|h2
  ·exact h2
  ·rw[(hh.eC t h2).2]at h1;cases h1
theorem ax.one {A:Nat->Prop} {x:AV} {v:Value} (h:Rel w A x v):ax w A [x] [v]:=by simp only[ax];exact⟨_,_,rfl,h,rfl⟩
theorem ax.tJ {A:Nat->Prop} {x:AV} {v:Value} (h:ax w A [x] [v]):Rel w A x v:=by
 simp only[ax]at h;obtain⟨v',r,h1,h2,h3⟩:=h;cases h1;exact h2
theorem aC.one {x:CV} {y:AV} (h:aw L x y):aC L [x] [y]:=by simp only[aC];exact⟨_,_,rfl,h,rfl⟩
end
section
variable {E:Env} {N K:Nat} {Q:DQ} {Z:TS} {O:Hp} {o:Oper} {x:CV} {all rest:List Oper}
theorem DO.cz {t:Nat} {z:AV} {ns:List (Nat×Nat)} {ms:List (Nat×aR)} (f:Nat) (hx:Z.get t=some x) (hf:bA O.e f [x]=some ([z],ns,ms)) (hn:eqs ns) (k:DO E N K all rest Q (Tr.put 24 Z t (some (.d z))) (fA ms O)):DO E N K all rest Q Z O:=λL ZB ηB hs hh=>by
 obtain⟨y,h1,h2⟩:=hs t x hx;intro F w0 O0 a w hst hxt;have hv:=(hst.sg.2 t y h1).2;obtain⟨h3,h4⟩:=fy hh hst.hp (ms.map (·.1)) f hf hn (λp hp=>cB.2 ⟨p,hp,rfl⟩) (aC.one h2) (ax.one hv);have h3:=h3.tJ;have hHS:HS L (fA ms O) (dI L ms ηB):=sj (w:=w) (F:=dY F ηB (ms.map (·.1))) hh λp hp=>⟨(h4 p hp).lt hh,h4 p hp⟩;have hHO:bh E.G w F (dI L ms ηB):=sy hst.hp h4;have hsub:∀b∈ids (dI L ms ηB),b∈ids ηB:=λb hb=>(pn ms ηB).subset hb;have hkeep:b9 w (Al F ηB) w (Al F (dI L ms ηB)):=b9.sub hsub;refine k L ((t,z)::ZB) (dI L ms ηB) (hs.put (some t) (x:= .d z) (y:=z) rfl) hHS F w0 O0 a w ⟨⟨hst.sg.1,λu q hq=>?_⟩,hHO,hst.df⟩ (hxt.trans ⟨rfl,rfl,rfl,bq _,λ_ _ _=>rfl,λb hb=> .inl (hsub b hb),.of (bq _)⟩);simp only[look]at hq;cases hb:Nat.beq t u with
 |true=>
  rw[hb]at hq;simp only[ao]at hq;subst hq;rw[<-bf hb];exact⟨(hst.sg.2 t y h1).1,h3.aU mR⟩
 |false=>
  rw[hb]at hq;exact⟨(hst.sg.2 u q hq).1,(hst.sg.2 u q hq).2.aU hkeep⟩
theorem DC.cz {t:Nat} {z:AV} {ns:List (Nat×Nat)} {ms:List (Nat×aR)} (f:Nat) (hx:Z.get t=some x) (hf:bA O.e f [x]=some ([z],ns,ms)) (hn:eqs ns) {c:Code} (k:DC E N K c Q (Tr.put 24 Z t (some (.d z))) (fA ms O)):DC E N K c Q Z O:=λL ZB ηB hs hh=>by
 obtain⟨y,h1,h2⟩:=hs t x hx;intro F w0 O0 a w hst hxt;have hv:=(hst.sg.2 t y h1).2;obtain⟨h3,h4⟩:=fy hh hst.hp (ms.map (·.1)) f hf hn (λp hp=>cB.2 ⟨p,hp,rfl⟩) (aC.one h2) (ax.one hv);have h3:=h3.tJ;have hHS:HS L (fA ms O) (dI L ms ηB):=sj (w:=w) (F:=dY F ηB (ms.map (·.1))) hh λp hp=>⟨(h4 p hp).lt hh,h4 p hp⟩;have hHO:bh E.G w F (dI L ms ηB):=sy hst.hp h4;have hsub:∀b∈ids (dI L ms ηB),b∈ids ηB:=λb hb=>(pn ms ηB).subset hb;have hkeep:b9 w (Al F ηB) w (Al F (dI L ms ηB)):=b9.sub hsub;refine k L ((t,z)::ZB) (dI L ms ηB) (hs.put (some t) (x:= .d z) (y:=z) rfl) hHS F w0 O0 a w ⟨⟨hst.sg.1,λu q hq=>?_⟩,hHO,hst.df⟩ (hxt.trans ⟨rfl,rfl,rfl,bq _,λ_ _ _=>rfl,λb hb=> .inl (hsub b hb),.of (bq _)⟩);simp only[look]at hq;cases hb:Nat.beq t u with
 |true=>
  rw[hb]at hq;simp only[ao]at hq;subst hq;rw[<-bf hb];exact⟨(hst.sg.2 t y h1).1,h3.aU mR⟩
 |false=>
  rw[hb]at hq;exact⟨(hst.sg.2 u q hq).1,(hst.sg.2 u q hq).2.aU hkeep⟩
def bw (z y:AV):Prop:=∀w A v,Rel w A z v->Rel w A y v
inductive bx:List AV->List AV->Prop where
 |nil:bx [] []
 |cons {x y:AV} {xs ys:List AV}:bw x y->bx xs ys->bx (x::xs) (y::ys)
theorem bw.refl (x:AV):bw x x:=λ_ _ _ h=>h
theorem bx.refl:∀(xs:List AV),bx xs xs
 |[]=> .nil
 |x::xs=> .cons (.refl x) (bx.refl xs)
theorem bx.rel {w:World} {A:Nat->Prop}:∀{xs ys:List AV} {vs:List Value},bx xs ys->ax w A xs vs->ax w A ys vs
 |_,_,_,.nil,h=>h
 |_,_,_,.cons h t,hr=>by
  simp only[ax]at hr⊢;obtain⟨v,r,rfl,h1,h2⟩:=hr;exact⟨v,r,rfl,h _ _ _ h1,bx.rel t h2⟩
theorem bw.nil (k:Nat):bw (.v (.slice none 0 0)) (.sl k []):=λw A v h=>by
 simp only[Rel]at h⊢;subst h;exact .inl ⟨trivial,_,_,rfl⟩
theorem bw.agg {xs ys:List AV} (h:bx xs ys):bw (.agg xs) (.agg ys):=λw A v hr=>by
 simp only[Rel]at hr⊢;obtain⟨vs,rfl,h1⟩:=hr;exact⟨vs,rfl,h.rel h1⟩
theorem bw.bK {xs ys:List AV} (h:bx xs ys):bw (.bK xs) (.bK ys):=λw A v hr=>by
 simp only[Rel]at hr⊢;obtain⟨vs,rfl,h1⟩:=hr;exact⟨vs,rfl,h.rel h1⟩
theorem bw.ip {xs ys:List AV} (h:bx xs ys):bw (.ip xs) (.ip ys):=λw A v hr=>by
 simp only[Rel]at hr⊢;obtain⟨b,o,vs,e1,e2,e3,e4⟩:=hr;exact⟨b,o,vs,e1,e2,h.rel e3,e4⟩
theorem bw.fn {f:FuncId} {fs fs' cs cs':List AV} (h:bx fs fs') (g:bx cs cs'):bw (.fn f fs cs) (.fn f fs' cs'):=λw A v hr=>by
 simp only[Rel]at hr⊢;obtain⟨us,vs,e,h1,h2⟩:=hr;exact⟨us,vs,e,h.rel h1,g.rel h2⟩
theorem bw.ba {t:TypeId} {x y:AV} (h:bw x y):bw (.ba t x) (.ba t y):=λw A v hr=>by
 simp only[Rel]at hr⊢;obtain⟨u,e,h1⟩:=hr;exact⟨u,e,h _ _ _ h1⟩
inductive cE:List (List AV)->List (List AV)->Prop where
 |nil:cE [] []
 |cons {x y:List AV} {xs ys:List (List AV)}:bx x y->cE xs ys->cE (x::xs) (y::ys)
theorem bx.length {xs ys:List AV} (h:bx xs ys):ys.length=xs.length:=by induction h with|nil=>rfl|cons _ _ ih=>simp[ih]
theorem cE.length {xs ys:List (List AV)} (h:cE xs ys):ys.length=xs.length:=by induction h with|nil=>rfl|cons _ _ ih=>simp[ih]
theorem cE.refl:∀(xs:List (List AV)),cE xs xs
 |[]=> .nil
 |x::xs=> .cons (.refl x) (cE.refl xs)
theorem cE.rel {w:World} {A:Nat->Prop} {k:Nat}:∀{xs ys:List (List AV)} {vs:List Value},cE xs ys->aX w A k xs vs->aX w A k ys vs
 |_,_,_,.nil,h=>h
 |_,_,_,.cons h t,hr=>by
  simp only[aX]at hr⊢;obtain⟨v1,v2,rfl,h0,h1,h2⟩:=hr;exact⟨v1,v2,rfl,by rw[h.length];exact h0,h.rel h1,cE.rel t h2⟩
theorem bw.sl {k:Nat} {xs ys:List (List AV)} (h:cE xs ys):bw (.sl k xs) (.sl k ys):=λw A v hr=>by
 simp only[Rel]at hr⊢;rcases hr with⟨rfl,h1⟩|⟨b,o,cap,vs,e1,e2,e3,e4,e5,e6⟩
 ·cases h;exact .inl ⟨rfl,h1⟩
 ·exact .inr ⟨b,o,cap,vs,by rw[h.length];exact e1,e2,by rw[h.length];exact e3,e4,h.rel e5,e6⟩
theorem cE.append {xs ys xs' ys':List (List AV)} (h:cE xs ys) (g:cE xs' ys'):cE (xs++xs') (ys++ys'):=by
 induction h with
 |nil=>exact g
 |cons h _ ih=>exact .cons h ih
theorem bw.trans {x y z:AV} (h:bw x y) (g:bw y z):bw x z:=λw A v hr=>g w A v (h w A v hr)
def cn:AV->Bool
 | .v _=>true
 | .agg xs=>go xs
 | .bK xs=>go xs
 | .ba _ x=>cn x
 |_=>false
where go:List AV->Bool
 |[]=>true
 |x::r=>match cn x with
  |true=>go r
  |false=>false
mutual
theorem r6 {w:World} {A A':Nat->Prop}:∀{x:AV} {v:Value},cn x=true->Rel w A x v->Rel w A' x v
 | .v _,_,_,h=>by simp only[Rel]at h⊢;exact h
 | .agg xs,_,hf,h=>by simp only[Rel]at h⊢;obtain⟨vs,e,h1⟩:=h;exact⟨vs,e,u7 (by simpa[cn]using hf) h1⟩
 | .bK xs,_,hf,h=>by simp only[Rel]at h⊢;obtain⟨vs,e,h1⟩:=h;exact⟨vs,e,u7 (by simpa[cn]using hf) h1⟩
 | .ba t x,_,hf,h=>by simp only[Rel]at h⊢;obtain⟨u,e,h1⟩:=h;exact⟨u,e,r6 (by simpa[cn]using hf) h1⟩
 | .sl _ _,_,hf,_=>by simp[cn]at hf
 | .ip _,_,hf,_=>by simp[cn]at hf
 | .own _ _ _,_,hf,_=>by simp[cn]at hf
 | .os _ _ _ _,_,hf,_=>by simp[cn]at hf
 | .oe _ _ _,_,hf,_=>by simp[cn]at hf
 | .om _ _,_,hf,_=>by simp[cn]at hf
 | .fn _ _ _,_,hf,_=>by simp[cn]at hf
theorem u7 {w:World} {A A':Nat->Prop}:∀{xs:List AV} {vs:List Value},cn.go xs=true->ax w A xs vs->ax w A' xs vs
 |[],_,_,h=>by simp only[ax]at h⊢;exact h
 |x::r,_,hf,h=>by
  simp only[cn.go]at hf;split at hf
  ·rename_i hx;simp only[ax]at h⊢;obtain⟨v,r',e,h1,h2⟩:=h;exact⟨v,r',e,r6 hx h1,u7 hf h2⟩
  ·cases hf
end
def cu (Z:TS) (f:Operand) (args:List Operand):Option (FuncId×List CV):=
 match aL Z f,mq Z args with
 |some (.d (.v (.func (.func g) fa cs))),some xs=>some (g,(fa.toList.map .v).map .d++xs++(cs.toList.map .v).map .d)
 |some (.d (.fn g fs cs)),some xs=>some (g,fs.map .d++xs++cs.map .d)
 |some (.fn g fs cs),some xs=>some (g,fs++xs++cs)
 |_,_=>none
theorem jM {L:au} {s:Sl} (hs:SS L Z s) {f:Operand} {args:List Operand} {g:FuncId} {cs:List CV} (h:cu Z f args=some (g,cs)):∃ys,callee s f args=some (g,ys)/\aC L cs ys:=by
 unfold cu at h;split at h
 ·rename_i g' fa qs xs h1 h2;simp only[ao,bW]at h;obtain⟨rfl,rfl⟩:=h;obtain⟨y,h3,h4⟩:=bz hs h1;simp only[aw]at h4;subst h4;obtain⟨ys,h5,h6⟩:=mZ hs h2;exact⟨_,by simp only[callee,h3,h5],((fi _).append h6).append (fi _)⟩
 ·rename_i g' fs qs xs h1 h2;simp only[ao,bW]at h;obtain⟨rfl,rfl⟩:=h;obtain⟨y,h3,h4⟩:=bz hs h1;simp only[aw]at h4;subst h4;obtain⟨ys,h5,h6⟩:=mZ hs h2;exact⟨_,by simp only[callee,h3,h5],((fi _).append h6).append (fi _)⟩
 ·rename_i g' fs qs xs h1 h2;simp only[ao,bW]at h;obtain⟨rfl,rfl⟩:=h;obtain⟨y,h3,h4⟩:=bz hs h1;simp only[aw]at h4;obtain⟨us,vs,rfl,h4,h4'⟩:=h4;obtain⟨ys,h5,h6⟩:=mZ hs h2;exact⟨_,by simp only[callee,h3,h5],(h4.append h6).append h4'⟩
 ·cases h
theorem vK {L:au} {ηB:List ag} {w:World} {F:Nat->Prop} {g:FuncId} {cs:List CV} {ys xs' xs:List AV} {vs:List Value} {ns:List (Nat×Nat)} {ms:List (Nat×aR)} {res:AR} (fl:Nat) (h:Pure E.toCx g xs res)
  (hf:bA O.e fl cs=some (xs',ns,ms)) (hn:eqs ns) (hi:bx xs' xs) (hl:ms=[]\/(match res with| .ret x=>cn x| .aD x=>cn x)=true) (hh:HS L O ηB) (hH:bh E.G w F ηB) (hcs:aC L cs ys) (hr:ax w (Al F ηB) ys vs):
  Calls E.P g vs.toArray w λe w'=>AR.rel w' (Al F ηB) res e/\fb w w':=by
 obtain⟨h3,h4⟩:=fy hh hH (ms.map (·.1)) fl hf hn (λp hp=>cB.2 ⟨p,hp,rfl⟩) hcs hr;have hHO:bh E.G w F (dI L ms ηB):=sy hH h4;have hx:=hi.rel h3;have hx':ax w (Al F (dI L ms ηB)) xs vs:=hx.aU mR;refine(h.run hHO hx').mono ?_;rintro e w' ⟨hv,_,hext,hsame⟩;refine⟨?_,⟨hext.os,hext.drawn⟩,hext.tape,hext.output,hext.size,hsame⟩;rcases hl with rfl|hl
 ·exact hv
 ·cases res with
  |ret x=>obtain⟨v,rfl,hv⟩:=hv;exact⟨v,rfl,r6 hl hv⟩
  |aD x=>obtain⟨v,rfl,hv⟩:=hv;exact⟨v,rfl,r6 hl hv⟩
theorem aN.pure {f:Operand} {args:List Operand} {g:FuncId} {cs:List CV} {xs' xs:List AV} {ns:List (Nat×Nat)} {ms:List (Nat×aR)} {res:AV} {tys:Array TypeId} (fl:Nat) (ho:o.op= .call {callee:= .value f,args:=args.toArray,argTypes:=tys})
  (h:Pure E.toCx g xs (.ret res)) (hc:cu Z f args=some (g,cs)) (hf:bA O.e fl cs=some (xs',ns,ms)) (hn:eqs ns) (hi:bx xs' xs) (hl:ms=[]\/cn res=true):aN E N o Z O (.d res):=λL s ηB hs hh=>by
 obtain⟨ys,hcal,hcs⟩:=jM hs hc;refine⟨res,rfl,λF w a hN _ hH hopd K' Q' k=>?_⟩;have hmem:∀p,p=f\/p∈args->p∈o.op.operands.toList:=by
  rintro p hp;rw[ho];rcases hp with rfl|hp
  ·simp[Op.operands,Call.operands]
  ·simp[Op.operands,Call.operands,hp]
 have hc':callee (look (cD s (tmpsOf o))) f args=some (g,ys):=by
  unfold callee at hcal⊢;rw[ea (hmem f (.inl rfl)),m4 λp hp=>ea (hmem p (.inr hp))];exact hcal
 have hsl:dN w (Al F ηB) N a (look (cD s (tmpsOf o))):=⟨hN,λt y hy=>by obtain⟨h1,h2⟩:=gD hy;exact hopd t h1 y h2⟩;obtain⟨vs,h1,h2⟩:=mS (P:=E.P) hsl hc' (tys:=tys) (dst:=o.dst) (ty:=o.type) (pos:=o.pos) (after:=o.after) (gd:=o.guard) h.1;have ho':o=⟨o.dst,.call {callee:= .value f,args:=args.toArray,argTypes:=tys},o.type,o.pos,o.after,o.guard⟩:=by rw[<-ho]
 rw[<-ho']at h2;unfold Oper.wp;rw[h2 w,Oper.upon_enter];refine(vK fl h hf hn hi hl hh hH hcs h1).mono ?_;rintro e w' ⟨⟨v,rfl,hv⟩,hcls⟩;exact k v w' hv hcls
theorem DO.pure {dst:Option Nat} {f:Operand} {args:List Operand} {g:FuncId} {cs:List CV} {xs' xs:List AV} {ns:List (Nat×Nat)} {ms:List (Nat×aR)} {res:AV} {tys:Array TypeId} {ty:TypeId} {pos:String} {after:Array Edge} (fl:Nat)
  (h:Pure E.toCx g xs (.ret res)) (hc:cu Z f args=some (g,cs)) (hf:bA O.e fl cs=some (xs',ns,ms)) (hn:eqs ns) (hi:bx xs' xs) (hl:ms=[]\/cn res=true) (hd:bE N dst=true)
  (k:DO E N K all rest Q (br Z dst (.d res)) O):DO E N K all (⟨dst,.call {callee:= .value f,args:=args.toArray,argTypes:=tys},ty,pos,after,none⟩::rest) Q Z O:=
 DO.ko rfl hd (aN.pure fl rfl h hc hf hn hi hl) k
theorem DO.nf {dst:Option Nat} {f:Operand} {args:List Operand} {g:FuncId} {cs:List CV} {xs' xs:List AV} {ns:List (Nat×Nat)} {ms:List (Nat×aR)} {res:AV} {tys:Array TypeId} {ty:TypeId} {pos:String} {after:Array Edge} (fl:Nat)
  (h:Pure E.toCx g xs (.aD res)) (hc:cu Z f args=some (g,cs)) (hf:bA O.e fl cs=some (xs',ns,ms)) (hn:eqs ns) (hi:bx xs' xs) (hl:ms=[]\/cn res=true)
  (k:Q (.aD (.d res)) .lf O):DO E N K all (⟨dst,.call {callee:= .value f,args:=args.toArray,argTypes:=tys},ty,pos,after,none⟩::rest) Q Z O:=λL ZB ηB hs hh=>by
 obtain⟨ys,hcal,hcs⟩:=jM hs hc;intro F w0 O0 a w hst hxt;unfold wpList;rw[cV (by simp[Region.wanted])];refine .inl ?_;obtain⟨vs,h1,h2⟩:=mS (P:=E.P) hst.sg hcal (tys:=tys) (dst:=dst) (ty:=ty) (pos:=pos) (after:=after) (gd:=none) h.1;unfold Oper.wp;rw[h2 w,Oper.upon_enter];refine(vK fl h hf hn hi hl hh hst.hp hcs h1).mono ?_;rintro e w' ⟨⟨v,rfl,hv⟩,hcls⟩;refine⟨.aD res,[],ηB,⟨L,.aD (.d res),.lf,O,.refl K L,⟨res,rfl,rfl⟩,λt x hx=>by simp[Tr.gH]at hx,hh,k⟩,⟨v,rfl,hv⟩,⟨⟨hst.sg.1,λt x hx=>by simp[AE.sl,look]at hx⟩,hst.hp.later hcls.2.2.2,hst.df⟩,hxt.trans hcls.ext⟩
inductive DR where
 |ret (x:CV)
 |aD (x:CV)
def DR.inst (L:au):DR->AR->Prop
 | .ret x,r=>∃y,r= .ret y/\aw L x y
 | .aD x,r=>∃y,r= .aD y/\aw L x y
def GL (K:Nat) (L:au) (Q:DR->Hp->Prop):AR->List ag->Prop:=λr ηB=>∃L' d O,au.ei K L L'/\DR.inst L' d r/\HS L' O ηB/\Q d O
def de (E:Env) (g:FuncId) (args:List CV) (O:Hp) (Q:DR->Hp->Prop):Prop:=∀L ys ηB,aC L args ys->HS L O ηB->fQ E.toCx g ys ηB (GL O.n L Q)
theorem HS.ei {L L':au} {ηB:List ag} (hh:HS L O ηB) (h:au.ei O.n L L'):L.le L':=by
 refine⟨λt x hx=>?_,λt n x hx=>?_⟩
 ·rcases je t O.n with h1|h1
  ·exact(h t h1).1 x hx
  ·rw[(hh.eC t h1).1]at hx;cases hx
 ·rcases je t O.n with h1|h1
  ·exact(h t h1).2 n x hx
  ·rw[(hh.eC t h1).2]at hx;cases hx
theorem DO.call {dst:Option Nat} {f:Operand} {args:List Operand} {g:FuncId} {cs:List CV} {Q':DR->Hp->Prop} {tys:Array TypeId} {ty:TypeId} {pos:String} {after:Array Edge}
  (h:de E g cs O Q') (hc:cu Z f args=some (g,cs)) (hd:bE N dst=true) (k1:∀x O',Q' (.ret x) O'->DO E N K all rest Q (br Z dst x) O') (k2:∀x O',Q' (.aD x) O'->Q (.aD x) .lf O'):
  DO E N K all (⟨dst,.call {callee:= .value f,args:=args.toArray,argTypes:=tys},ty,pos,after,none⟩::rest) Q Z O:=λL ZB ηB hs hh=>by
 obtain⟨ys,h1,h2⟩:=jM hs hc;refine aQ.Od (h L ys ηB h2 hh) h1 hd ?_ ?_
 ·rintro y OB' ⟨L',r,O',h3,h4,h5,h6⟩;have hl:=hh.ei h3;cases r with
  |ret x=>
   obtain⟨y',e,h4⟩:=h4;cases e;exact DO.up hl (k1 x O' h6 L' _ OB' ((hs.mono hl).put dst h4) h5)
  |aD x=>obtain⟨y',e,_⟩:=h4;cases e
 ·rintro y OB' ⟨L',r,O',h3,h4,h5,h6⟩;have hl:=hh.ei h3;cases r with
  |ret x=>obtain⟨y',e,_⟩:=h4;cases e
  |aD x=>
   obtain⟨y',e,h4⟩:=h4;cases e;exact⟨L',.aD x,.lf,O',hl.toK K,⟨y,rfl,h4⟩,λt x hx=>by simp[Tr.gH]at hx,h5,k2 x O' h6⟩
def fj:Nat->List CV->TS
 |_,[]=> .lf
 |n,x::xs=>Tr.put 24 (fj (n+1) xs) n (some x)
theorem Dg {L:au}:∀{xs:List CV} {ys:List AV} (n:Nat),aC L xs ys->SS L (fj n xs) (look (lh n ys))
 |[],ys,n,_=>λt x hx=>by simp[fj,Tr.gH]at hx
 |x::xs,ys,n,h=>by
  simp only[aC]at h;obtain⟨y,r,rfl,h1,h2⟩:=h;have:=Dg (n+1) h2;exact this.put (some n) h1
def xI (T:bt) (Z:TS) (O:Hp):ResultVar->Option CV
 | .tmp t=>Z.get t
 | .cell a t=>match Z.get a,aM T t with
  |some (.own i 0),some ⟨d,k,_,_⟩=>match O.e.get i with
   |some (.box cs)=>match d.agg with
    |true=>match Nat.ble k cs.length with
     |true=>some (od (cs.take k))
     |false=>none
    |false=>nth cs 0
   |_=>none
  |some (.d (.ip cs)),some ⟨d,k,_,_⟩=>match d.agg,fits cs k with
   |true,true=>some (.d (.agg (cs.take k)))
   |_,_=>none
  |_,_=>none
def cU (T:bt) (Z:TS) (O:Hp):List ResultVar->Option (List CV)
 |[]=>some []
 |r::rs=>match xI T Z O r,cU T Z O rs with
  |some x,some xs=>some (x::xs)
  |_,_=>none
def dC:List CV->CV
 |[x]=>x
 |xs=>xJ xs
theorem LP {L:au} {ZB:Sg} {ηB:List ag} {T:bt} (hs:SS L Z (look ZB)) (hh:HS L O ηB) {r:ResultVar} (h:xI T Z O r=some x):∃y,k9 T ZB ηB r y/\aw L x y:=by
 cases r with
 |tmp t=>obtain⟨y,h1,h2⟩:=hs t x h;exact⟨y,.tmp h1,h2⟩
 |cell a t=>
  simp only[xI]at h;split at h
  ·rename_i i d k b z ha ht;split at h
   ·rename_i cs hcs;obtain⟨y,h1,h2⟩:=hs a _ ha;simp only[aw]at h2;obtain⟨bk,t',h2,rfl⟩:=h2;obtain⟨q,h3,h4⟩:=hh.en i _ hcs;obtain⟨bk',us,h5,rfl,h6⟩:=h4;rw[h2]at h5;cases h5;split at h
    ·rename_i hd;split at h
     ·rename_i hle;simp only[ao]at h;subst h;exact⟨_,.GM h1 h3 ht hd (vv (by rw[h6.length];exact cM hle)),se (h6.take k)⟩
     ·cases h
    ·rename_i hd;obtain⟨y,h7,h8⟩:=h6.nth h;cases us with
     |nil=>simp[nth]at h7
     |cons u us=>
      simp only[nth,ao]at h7;subst h7;exact⟨_,.FG h1 h3 ht hd,h8⟩
   ·cases h
  ·rename_i cs d k b z ha ht;split at h
   ·rename_i hd hf;simp only[ao]at h;subst h;obtain⟨y,h1,h2⟩:=hs a _ ha;simp only[aw]at h2;subst h2;exact⟨_,.GN h1 ht hd hf,rfl⟩
   ·cases h
  ·cases h
theorem EF {L:au} {ZB:Sg} {ηB:List ag} {T:bt} (hs:SS L Z (look ZB)) (hh:HS L O ηB):∀{rs:List ResultVar} {xs:List CV},cU T Z O rs=some xs->∃ys,ov T ZB ηB rs ys/\aC L xs ys
 |[],xs,h=>by simp only[cU,ao]at h;subst h;exact⟨[],.nil,by simp[aC]⟩
 |r::rs,xs,h=>by
  simp only[cU]at h;split at h
  ·rename_i x xs' h1 h2;simp only[ao]at h;subst h;obtain⟨y,h3,h4⟩:=LP hs hh h1;obtain⟨ys,h5,h6⟩:=EF hs hh h2;exact⟨y::ys,.cons h3 h5,by simp only[aC];exact⟨_,_,rfl,h4,h6⟩⟩
  ·cases h
theorem KJ {L:au} {xs:List CV} {ys:List AV} (h:aC L xs ys):aw L (dC xs) (qb ys):=by
 match xs,ys,h with
 |[],ys,h=>exact CI (xs:=[]) h|>λz=>by simp only[aC]at h;subst h;exact z
 |[x],ys,h=>simp only[aC]at h;obtain⟨y,r,rfl,h1,rfl⟩:=h;exact h1
 |x::x'::r,ys,h=>
  have h0:=h;simp only[aC]at h0;obtain⟨y,r,rfl,h1,y',r',rfl,h2,h3⟩:=h0;exact CI h
def RD (T:bt) (rs:List ResultVar) (Q:DR->Hp->Prop):DQ:=λe Z O=>match e with
 | .norm=>∃xs,cU T Z O rs=some xs/\Q (.ret (dC xs)) O
 | .ret=>∃xs,cU T Z O rs=some xs/\Q (.ret (dC xs)) O
 | .exit _=>False
 | .aD x=>Q (.aD x) O
theorem de.enter {f:FuncId} {fn:Func} {c:Code} {args:List CV} {Q:DR->Hp->Prop} (hf:E.P.funcs[f]? =some fn) (hb:fn.body=some c) (hname:(fn.name== "runtime.NumGoroutine")=false)
  (rs:List ResultVar) (hrs:fn.results=rs.toArray) (nt:Nat) (hnt:fn.ntmps=nt) (hn:Nat.ble args.length nt=true) (h:DC E nt O.n c (RD E.T rs Q) (fj 0 args) O):de E f args O Q:=λL ys ηB hi hh=>by
 refine fQ.enter (E:=E) hf hb hname rs hrs nt hnt (by rw[hi.length];exact hn) (bg.mono (h L (lh 0 ys) ηB (Dg 0 hi) hh) ?_);rintro e ZB' OB' ⟨L',d,Z',O',h1,h2,h3,h4,h5⟩;have main:(∃xs,cU E.T Z' O' rs=some xs/\Q (.ret (dC xs)) O')->RQ E.T rs (GL O.n L Q) ZB' OB':=by
  rintro ⟨xs,h6,h7⟩;obtain⟨zs,h8,h9⟩:=EF h3 h4 h6;exact⟨zs,h8,L',.ret (dC xs),O',h1,⟨_,rfl,KJ h9⟩,h4,h7⟩
 cases d with
 |norm=>simp only[DE.inst]at h2;subst h2;exact main h5
 |ret=>simp only[DE.inst]at h2;subst h2;exact main h5
 |exit i=>exact h5.elim
 |aD x=>obtain⟨y,rfl,h2⟩:=h2;exact⟨L',.aD x,O',h1,⟨y,rfl,h2⟩,h4,h5⟩
theorem de.mono {f:FuncId} {args:List CV} {Q Q':DR->Hp->Prop} (h:de E f args O Q) (hq:∀r O',Q r O'->Q' r O'):de E f args O Q':=λL ys ηB hi hh=>
 (h L ys ηB hi hh).mono λ_ _ ⟨L',d,O',h1,h2,h3,h4⟩=>⟨L',d,O',h1,h2,h3,hq _ _ h4⟩
def Hp.nil:Hp:=⟨.lf,0⟩
theorem HS.nil (L:au) (h:∀t,L.b t=none/\∀n,L.s t n=none):HS L Hp.nil []:=⟨λi x hx=>by simp[Hp.nil,Tr.gH]at hx,rfl,λt _=>h t⟩
def Ends (f:Nat) (res:AR):DR->Hp->Prop
 | .ret x,O=>∃z ns ms,bA O.e f [x]=some ([z],ns,ms)/\eqs ns/\∃y,res= .ret y/\bw z y
 | .aD x,O=>∃z ns ms,bA O.e f [x]=some ([z],ns,ms)/\eqs ns/\∃y,res= .aD y/\bw z y
theorem Pure.H8 {g:FuncId} {args:List AV} {res:AR} (f:Nat) (h:de E g (args.map .d) Hp.nil (Ends f res)):Pure E.toCx g args res:=by
 have h0:=h ⟨λ_=>none,λ_ _=>none⟩ args [] (fi args) (HS.nil _ λ_=>⟨rfl,λ_=>rfl⟩);refine⟨h0.1,λF w vs hH hr=>(h0.2 F w vs hH hr).mono ?_⟩;rintro e w' ⟨r,ηB,⟨L',d,O,h1,h2,h3,h4⟩,hv,hh,hx⟩;have hA:∀b,dY F ηB (List.range ηB.length) b->Al F [] b:=λb hb=>⟨hb.1,by simp[ids]⟩;have hk:∀M:List Nat,b9 w' (dY F ηB M) w' (Al F []):=λM=>⟨bq _,λb _ hb=>⟨⟨hb.1,by simp[ids]⟩,rfl⟩⟩;have fin:∀{x:CV} {y:AV} {v:Value},(∃z ns ms,bA O.e f [x]=some ([z],ns,ms)/\eqs ns/\bw z y)->(∃u,aw L' x u/\Rel w' (Al F ηB) u v)->Rel w' (Al F []) y v:=by
  rintro x y v ⟨z,ns,ms,g1,g2,g3⟩ ⟨u,g4,g5⟩;obtain⟨g6,_⟩:=fy h3 hh (ms.map (·.1)) f g1 g2 (λp hp=>cB.2 ⟨p,hp,rfl⟩) (aC.one g4) (ax.one g5);exact g3 _ _ _ (g6.tJ.aU (hk _))
 have hres:AR.rel w' (Al F []) res e:=by
  cases d with
  |ret x=>
   obtain⟨u,rfl,h5⟩:=h2;obtain⟨z,ns,ms,g1,g2,y,rfl,g3⟩:=h4;obtain⟨v,rfl,hv⟩:=hv;exact⟨v,rfl,fin ⟨z,ns,ms,g1,g2,g3⟩ ⟨u,h5,hv⟩⟩
  |aD x=>
   obtain⟨u,rfl,h5⟩:=h2;obtain⟨z,ns,ms,g1,g2,y,rfl,g3⟩:=h4;obtain⟨v,rfl,hv⟩:=hv;exact⟨v,rfl,fin ⟨z,ns,ms,g1,g2,g3⟩ ⟨u,h5,hv⟩⟩
 exact⟨res,[],⟨rfl,rfl⟩,hres,hh.none,⟨hx.os,hx.tape,hx.output,hx.size,hx.block,by simp[ids],hx.drawn⟩⟩
end
def ml (P:Program) (Z:TS) (O:Hp):Op->Option (CV×List (Nat×Nat))
 | .binOp .eql t x y _=>match P.underlying t,aL Z x,aL Z y with
  |some (.slice _),some (.os i (n+1)),some (.d (.v (.slice none 0 0)))=>match O.e.get i with
   |some (.row _ _ rows)=>some (.d (.v (.bool false)),[(n+1,rows.length)])
   |some (.fw _ rows)=>some (.d (.v (.bool false)),[(n+1,rows.length)])
   |_=>none
  |_,_,_=>none
 | .binOp .neq t x y _=>match P.underlying t,aL Z x,aL Z y with
  |some (.slice _),some (.os i (n+1)),some (.d (.v (.slice none 0 0)))=>match O.e.get i with
   |some (.row _ _ rows)=>some (.d (.v (.bool true)),[(n+1,rows.length)])
   |some (.fw _ rows)=>some (.d (.v (.bool true)),[(n+1,rows.length)])
   |_=>none
  |_,_,_=>none
 |_=>none
section
variable {E:Env} {N:Nat} {Z:TS} {O:Hp} {o:Oper}
theorem sN {L:au} {s:Sl} {ηB:List ag} (hs:SS L Z s) (hh:HS L O ηB) {x:Operand} {i n:Nat} (hx:aL Z x=some (.os i (n+1))) {rows:List (List AV)} (hn:n+1=rows.length) (hi:(∃e k,O.e.get i=some (.row e k rows))\/∃k,O.e.get i=some (.fw k rows)):
  ∃t' a c,ev s x=some (.os t' a (n+1) c)/\∀{G:Gl} {w:World} {F:Nat->Prop},bh G w F ηB->a.isNone=false:=by
 obtain⟨y,h1,h2⟩:=bz hs hx;simp only[aw]at h2;obtain⟨a,c,t',h3,rfl⟩:=h2;refine⟨t',a,c,h1,λhH=>?_⟩;rcases hi with⟨e,k,hi⟩|⟨k,hi⟩
 ·obtain⟨q,h4,h5⟩:=hh.en i _ hi;obtain⟨⟨a',c',h6,rfl⟩,_⟩:=h5;rw[<-hn,h3]at h6;cases h6;obtain⟨vs,_,h7⟩:=fg hH h4;obtain⟨_,h8|⟨g,cap,cur,h9,_⟩⟩:=h7
  ·omega
  ·cases h9;rfl
 ·obtain⟨q,h4,h5⟩:=hh.en i _ hi;obtain⟨a',c',h6,rfl⟩:=h5;rw[<-hn,h3]at h6;cases h6;have:=lO hH h4;simp only[Rel]at this;rcases this with⟨rfl,_⟩|⟨b,o,cap,vs,h1,_⟩
  ·simp at hn
  ·cases h1;rfl
theorem sk {s:Sl} {ηB:List ag} {t e:TypeId} {x y:Operand} {yt:TypeId} {t':Nat} {a:Option Addr} {n c:Nat} (neg:Bool) (ho:o.op= .binOp (if neg then .neq else .eql) t x y yt) (hu:E.P.underlying t=some (.slice e)) (hx:ev s x=some (.os t' a n c)) (hy:ev s y=some (.v (.slice none 0 0)))
  (ha:∀{G:Gl} {w:World} {F:Nat->Prop},bh G w F ηB->a.isNone=false):bp E.toCx N o s ηB (.v (.bool neg)):=by
 refine bp.kv λF act w hst=>?_;have h1:=aY hst.sg (show ev (look (cD s (tmpsOf o))) x=some (.os t' a n c)by rw[ea (by rw[ho];cases neg<;>simp[Op.operands])];exact hx);have h2:=aY hst.sg (show ev (look (cD s (tmpsOf o))) y=some (.v (.slice none 0 0))by rw[ea (by rw[ho];cases neg<;>simp[Op.operands])];exact hy);simp only[Rel]at h1 h2;have h0:=ha hst.hp;refine⟨_,ef _,λw' _=>?_⟩;have h3:binOp .eql t (.slice a n c) (.slice none 0 0)=(do pure (.bool (<-Op.equal t (.slice a n c) (.slice none 0 0))):Sem Value):=rfl;have h4:binOp .neq t (.slice a n c) (.slice none 0 0)=(do pure (.bool (!(<-Op.equal t (.slice a n c) (.slice none 0 0)))):Sem Value):=rfl;cases neg
 ·simp[execOp,ho,h1,h2,eqGuard,h3,sm hu,h0]
 ·simp[execOp,ho,h1,h2,eqGuard,h4,sm hu,h0]
theorem aN.ml {x:CV} {ns:List (Nat×Nat)} (h:ml E.P Z O o.op=some (x,ns)) (hn:eqs ns):aN E N o Z O x:=λL s ηB hs hh=>by
 unfold Bw.ml at h;split at h
 ·rename_i t x y yt ho;split at h
  ·rename_i e i n hu hx hy;have hyy:ev s y=some (.v (.slice none 0 0)):=by
    obtain⟨z,g1,g2⟩:=bz hs hy;simp only[aw]at g2;subst g2;exact g1
   split at h
   ·rename_i e' k rows hi;simp only[ao,bW]at h;obtain⟨rfl,rfl⟩:=h;obtain⟨t',a,c,h1,h2⟩:=sN hs hh hx hn.1 (.inl ⟨_,_,hi⟩);exact⟨_,rfl,sk false (by simpa using ho) hu h1 hyy h2⟩
   ·rename_i k rows hi;simp only[ao,bW]at h;obtain⟨rfl,rfl⟩:=h;obtain⟨t',a,c,h1,h2⟩:=sN hs hh hx hn.1 (.inr ⟨_,hi⟩);exact⟨_,rfl,sk false (by simpa using ho) hu h1 hyy h2⟩
   ·cases h
  ·cases h
 ·rename_i t x y yt ho;split at h
  ·rename_i e i n hu hx hy;have hyy:ev s y=some (.v (.slice none 0 0)):=by
    obtain⟨z,g1,g2⟩:=bz hs hy;simp only[aw]at g2;subst g2;exact g1
   split at h
   ·rename_i e' k rows hi;simp only[ao,bW]at h;obtain⟨rfl,rfl⟩:=h;obtain⟨t',a,c,h1,h2⟩:=sN hs hh hx hn.1 (.inl ⟨_,_,hi⟩);exact⟨_,rfl,sk true (by simpa using ho) hu h1 hyy h2⟩
   ·rename_i k rows hi;simp only[ao,bW]at h;obtain⟨rfl,rfl⟩:=h;obtain⟨t',a,c,h1,h2⟩:=sN hs hh hx hn.1 (.inr ⟨_,hi⟩);exact⟨_,rfl,sk true (by simpa using ho) hu h1 hyy h2⟩
   ·cases h
  ·cases h
 ·cases h
