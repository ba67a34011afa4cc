/- The abstract machine, third part: operations on own memory; handing own memory on; calls. -/
import Derived.Test.YtnocmolegijmkaaGreatKD1
set_option linter.all false
noncomputable section
namespace Go.Bw
open Go
theorem Oper.PC {P:Program} {o:Oper} {a:Act} {w:World} {K K':Act->World->Prop} {Q Q':Exit->Act->World->Prop} (h:∀a w,K a w->K' a w) (hq:∀e a w,Q e a w->Q' e a w)
  (hh:o.wp P a w K Q):o.wp P a w K' Q':=by
 unfold Oper.wp at*
 generalize (execOp a.eval o).run P w=r at*
 cases r with
 |ok n w'=>
  cases n<;>simp only[Oper.upon]at hh⊢<;>
   first
    |exact h _ _ hh
    |exact Calls.mono hh (λe w'' he=>by cases e<;>first|exact h _ _ he|exact hq _ _ _ he|exact(let⟨a,w,hz⟩:=he;⟨a,w,hq _ _ _ hz⟩))
    |exact Rows.mono hh (λ_ _ he=>h _ _ he)
 |halt x w'=>cases x<;>simp only[Oper.upon]at hh⊢<;>first|exact hh|exact hq _ _ _ hh
theorem An {P:Program} {ops:Array Oper} {Q Q':Exit->Act->World->Prop} (hq:∀e a w,Q e a w->Q' e a w):∀{l:List Oper} {a:Act} {w:World},wpList P ops Q l a w->wpList P ops Q' l a w
 |[],_,_,h=>hq _ _ _ h
 |o::rest,a,w,h=>by
  unfold wpList at h⊢;split
  ·rename_i hw;rw[ck hw]at h;exact h.imp (Oper.PC (λ_ _ hh=>An hq hh) hq) λ⟨h1,a,w,h2⟩=>⟨h1,a,w,hq _ _ _ h2⟩
  ·rename_i hw;rw[bI hw]at h;exact An hq h
theorem bE.mono {C:Cx} {N:Nat} {ops:Array Oper} {rest:List Oper} {Q Q':AQ} {O:Sg} {L:List aj} (h:bE C N ops rest Q O L) (hq:∀e O L,Q e O L->Q' e O L):bE C N ops rest Q' O L:=λF w0 η0 a w hs hx=>
 An (λ_ _ _ ⟨e0,O',L',h1,h2⟩=>⟨e0,O',L',hq _ _ _ h1,h2⟩) (h F w0 η0 a w hs hx)
theorem DO.up {E:Env} {N K:Nat} {all rest:List Oper} {Q:DQ} {OB:Sg} {LB:List aj} {Z Z':aD} (hl:Z.le Z') (h:bE E.toCx N all.toArray rest (lift K Z' Q) OB LB):bE E.toCx N all.toArray rest (lift K Z Q) OB LB:=
 h.mono λ_ _ _ h=>oz (hl.toK K) (λ_ _ _ h=>h) h
def Hp.push (L:Hp) (x:aT):Hp:=⟨Tr.put 24 L.e L.n (some x),L.n+1⟩
def Hp.set (L:Hp) (i:Nat) (x:aT):Hp:=⟨Tr.put 24 L.e i (some x),L.n⟩
def aD.gC (Z:aD) (t b:Nat):aD:=⟨λu=>if u=t then some b else Z.b u,Z.s⟩
def aD.aQ (Z:aD) (t n:Nat) (x:Option Addr×Nat):aD:=⟨Z.b,λu m=>if u=t/\m=n then some x else Z.s u m⟩
theorem aD.Bs {Z:aD} {t b:Nat} (h:Z.b t=none):Z.le (Z.gC t b):=⟨λu x hx=>by
 have:u≠t:=λe=>by subst e;rw[h]at hx;cases hx
 simp[aD.gC,this,hx],λ_ _ _ h=>h⟩
theorem aD.ka {Z:aD} {t n:Nat} {x:Option Addr×Nat} (h:∀y,Z.s t n=some y->y=x):Z.le (Z.aQ t n x):=⟨λ_ _ h=>h,λu m y hy=>by
 by_cases hu:u=t/\m=n
 ·obtain⟨rfl,rfl⟩:=hu;simp[aD.aQ,h y hy]
 ·simp[aD.aQ,hu,hy]⟩
theorem Nl {D:Type} {l r:List D} {i:Nat} {x:D} (h:nth l i=some x):nth (l++r) i=some x:=by
 rw[b7]at h⊢;rw[pT (cX.1 h).1];exact h
theorem HS.lt {Z:aD} {L:Hp} {LB:List aj} (hh:HS Z L LB) {i:Nat} {x:aT} (h:L.e.get i=some x):i<L.n:=by
 obtain⟨y,h1,_⟩:=hh.en i x h;rw[b7]at h1;rw[<-hh.len];exact(cX.1 h1).1
theorem HS.push {Z Z':aD} {L:Hp} {LB:List aj} (hh:HS Z L LB) (hl:Z.le Z') (hs:∀i,i≠L.n->Z'.s i=Z.s i) (hb:∀i,i≠L.n->Z'.b i=Z.b i) {x:aT} {y:aj} (hx:kT Z' L.n x y):HS Z' (L.push x) (LB++[y]):=by
 refine⟨λi z hz=>?_,by simp[Hp.push,hh.len],λt ht=>?_⟩
 ·rcases Tr.eu 24 L.e L.n i _ z hz with⟨rfl,h1⟩|⟨hne,h1⟩
  ·cases h1;exact⟨y,by rw[b7,<-hh.len];simp,hx⟩
  ·obtain⟨q,h2,h3⟩:=hh.en i z h1;exact⟨q,Nl h2,h3.mono hl (hs i hne)⟩
 ·have:t≠L.n:=by simp[Hp.push]at ht;omega
  rw[hb t this,hs t this];exact hh.gb t (by simp[Hp.push]at ht;omega)
theorem HS.set {Z Z':aD} {L:Hp} {LB:List aj} (hh:HS Z L LB) (hl:Z.le Z') {i:Nat} (hs:∀j,j≠i->Z'.s j=Z.s j) (hb:∀j,j≠i->Z'.b j=Z.b j) (hi:i<L.n) {x:aT} {y:aj} (hx:kT Z' i x y):HS Z' (L.set i x) (LB.set i y):=by
 refine⟨λj z hz=>?_,by simp[Hp.set,hh.len],λt ht=>?_⟩
 ·rcases Tr.eu 24 L.e i j _ z hz with⟨rfl,h1⟩|⟨hne,h1⟩
  ·cases h1;exact⟨y,by rw[b7];simp[hh.len,hi],hx⟩
  ·obtain⟨q,h2,h3⟩:=hh.en j z h1;exact⟨q,by rw[b7]at h2⊢;rw[pV (iP hne)];exact h2,h3.mono hl (hs j hne)⟩
 ·have:t≠i:=by simp[Hp.set]at ht;omega
  rw[hb t this,hs t this];exact hh.gb t ht
section
variable {E:Env} {N K:Nat} {Q:DQ} {O:TS} {L:Hp} {o:Oper} {x:CV} {all rest:List Oper}
theorem DO.rW {cells:List CV} {d:Nat} (hg:o.guard=none) (hd:o.dst=some d) (hdN:Nat.blt d N=true) (h:∀Z s LB,SS Z O s->HS Z L LB->∃cs,aI Z cells cs/\eR E.toCx N o s LB cs)
  (k:DO E N K all rest Q (bK O (some d) (.own L.n 0)) (L.push (.box cells))):DO E N K all (o::rest) Q O L:=λZ OB LB hs hh=>by
 obtain⟨cs,h1,h2⟩:=h Z _ LB hs hh;refine bE.rW hg hd hdN h2 λb=>?_;have hdom:=hh.gb L.n (bC _);have hl:Z.le (Z.gC L.n b):=aD.Bs hdom.1;have hbn:(Z.gC L.n b).b L.n=some b:=by simp[aD.gC]
 refine DO.up hl (k _ _ _ ((hs.mono hl).put (some d) (by simp only[aC];exact⟨b,LB.length,hbn,rfl⟩)) ?_);exact hh.push hl (λ_ _=>rfl) (λi hi=>by simp[aD.gC,hi]) ⟨b,cs,hbn,rfl,h1.mono hl⟩
theorem wR {t:TypeId} {p:Operand} (ho:o.op= .box t p) (hp:aO O p=some x):∀Z s LB,SS Z O s->HS Z L LB->∃cs,aI Z (de x) cs/\eR E.toCx N o s LB cs:=λZ s LB hs _=>by
 obtain⟨y,h1,h2⟩:=bR hs hp;exact⟨_,vK h2,eR.box ho h1⟩
theorem vS {t:TypeId} {td:TD} {sz by':Nat} {z:List Value} (ho:o.op= .alloc t) (ht:aP E.T t=some ⟨td,sz,by',z⟩):∀Z s LB,SS Z O s->HS Z L LB->∃cs,aI Z ((z.map .v).map .d) cs/\eR E.toCx N o s LB cs:=λ_ _ _ _ _=>
 ⟨_,gv _,eR.alloc ho ht⟩
def kU:List CV->Bool
 |[]=>true
 | .d y::r=>match ek [y]with
  |true=>kU r
  |false=>false
 | .agg _::_=>false
 | .bX _::_=>false
 |_::r=>kU r
theorem Oa {y:AV} {r:List AV} (h:ek [y]=true) (hr:ek r=true):ek (y::r)=true:=by
 cases y<;>simp_all [ek]
theorem Ay {Z:aD}:∀{xs:List CV} {ys:List AV},kU xs=true->aI Z xs ys->ek ys=true
 |[],ys,_,h=>by simp only[aI]at h;subst h;rfl
 |x::r,ys,ho,h=>by
  simp only[aI]at h;obtain⟨y,r',rfl,h1,h2⟩:=h;have key:kU r=true->ek [y]=true->ek (y::r')=true:=λh3 h4=>Oa h4 (Ay h3 h2);cases x with
  |d z=>
   simp only[aC]at h1;subst h1;simp only[kU]at ho;split at ho
   ·rename_i h3;exact key ho h3
   ·cases ho
  |agg xs=>cases ho
  |bX xs=>cases ho
  |own t n=>simp only[aC]at h1;obtain⟨b,t',_,rfl⟩:=h1;exact key ho rfl
  |os t n=>simp only[aC]at h1;obtain⟨a,c,t',_,rfl⟩:=h1;exact key ho rfl
  |oe t n m=>simp only[aC]at h1;obtain⟨a,c,t',_,rfl⟩:=h1;exact key ho rfl
  |om t=>simp only[aC]at h1;obtain⟨b,t',_,rfl⟩:=h1;exact key ho rfl
  |fn f fs cs=>simp only[aC]at h1;obtain⟨us,vs,rfl,_⟩:=h1;exact key ho rfl
  |bd t z=>simp only[aC]at h1;obtain⟨u,rfl,_⟩:=h1;exact key ho rfl
theorem DO.store {t:TypeId} {p v:Operand} {i off:Nat} {cs cs':List CV} {ti:TI} (hg:o.guard=none) (ho:o.op= .store t p v) (hd:o.dst=none) (hp:aO O p=some (.own i off)) (hv:aO O v=some x) (hi:L.e.get i=some (.box cs)) (ht:aP E.T t=some ti)
  (hk:Nat.beq (de x).length ti.size=true) (h1:kU (de x)=true) (hl:kL cs off (de x)=some cs') (k:DO E N K all rest Q O (L.set i (.box cs'))):DO E N K all (o::rest) Q O L:=λZ OB LB hs hh=>by
 obtain⟨y,h2,h3⟩:=bR hs hp;simp only[aC]at h3;obtain⟨b,t',h3,rfl⟩:=h3;obtain⟨z,h4,h5⟩:=bR hs hv;obtain⟨q,h6,h7⟩:=hh.en i _ hi;obtain⟨b',us,h8,rfl,h9⟩:=h7;rw[h3]at h8;cases h8;have hc:=vK h5;obtain⟨us',h10,h11⟩:=vG hl h9 hc;refine bE.L2 hg hd (GN ho h2 h4 h6 ht (by rw[hc.length];exact hk) (Ay h1 hc) h10) (k Z _ _ hs ?_);exact hh.set (.refl Z) (λ_ _=>rfl) (λ_ _=>rfl) (hh.lt hi) ⟨b,us',h3,rfl,h11⟩
theorem DO.oC {t:TypeId} {p v:Operand} {i n m e kk:Nat} {rows:List (List AV)} {r r':List AV} {y:AV} {ti:TI} (j off:Nat) (hg:o.guard=none) (ho:o.op= .store t p v) (hd:o.dst=none) (hp:aO O p=some (.oe i n m)) (hv:aO O v=some (.d y)) (hi:L.e.get i=some (.row e kk rows)) (hn:n=rows.length)
  (hm:m=j*kk+off) (hr:rows[j]? =some r) (ht:aP E.T t=some ti) (hk:Nat.beq (bW y).length ti.size=true) (h1:ek (bW y)=true) (hl:ew r off (bW y)=some r') (k:DO E N K all rest Q O (L.set i (.row e kk (rows.set j r')))):DO E N K all (o::rest) Q O L:=λZ OB LB hs hh=>by
 obtain⟨z,h2,h3⟩:=bR hs hp;simp only[aC]at h3;obtain⟨a,c,t',h3,rfl⟩:=h3;obtain⟨z,h4,h5⟩:=bR hs hv;simp only[aC]at h5;subst h5;obtain⟨q,h6,h7⟩:=hh.en i _ hi;obtain⟨⟨a',c',h8,rfl⟩,h9⟩:=h7;subst hn;rw[h3]at h8;cases h8;refine bE.L2 hg hd (FQ ho j off h2 hm h4 h6 hr ht hk h1 hl) (k Z _ _ hs ?_);exact hh.set (.refl Z) (λ_ _=>rfl) (λ_ _=>rfl) (hh.lt hi) ⟨⟨a,c,by simpa using h3,by simp⟩,by simpa using h9⟩
theorem DO.lit {d n:Nat} {t:TypeId} {parts:Array (Nat×Operand)} {ty:TypeId} {pos:String} {after:Array Edge} {e k sz by' sz' by'':Nat} {z z':List Value} {td':TD} {cells:List AV}
  (ht:aP E.T t=some ⟨.slice e k,sz,by',z⟩) (hte:aP E.T e=some ⟨td',sz',by'',z'⟩) (hf:dY k (dE O) (fN n (z'.map .v)) parts.toList=some cells) (hb:Nat.ble (n*k) 16777216=true) (hk:Nat.ble 1 k=true) (hd:Nat.blt d N=true)
  (kk:DO E N K all rest Q (bK O (some d) (.os L.n n)) (L.push (.row e k (chunk n k cells)))):DO E N K all (⟨some d,.buildSlice t n parts,ty,pos,after,none⟩::rest) Q O L:=λZ OB LB hs hh=>by
 have hf':dY k (look OB) (fN n (z'.map .v)) parts.toList=some cells:=by
  have key:∀(l:List (Nat×Operand)) (cs r:List AV),dY k (dE O) cs l=some r->dY k (look OB) cs l=some r:=by
   intro l
   induction l with
   |nil=>intro cs r h;exact h
   |cons p l ih=>
    intro cs r h;obtain⟨i,p⟩:=p;simp only[dY]at h⊢;split at h
    ·rename_i y hy;have hy':ev (look OB) p=some y:=by
      cases p with
      |tmp u=>exact jF hs hy
      |const v=>exact hy
      |global g=>exact hy
      |func f=>exact hy
     simp only[hy'];split at h
     ·rename_i c1 h1 h2;exact ih _ _ h
     ·cases h
    ·cases h
  exact key _ _ _ hf
 refine bE.lit ht hte hf' hb hk hd λb=>?_;have hdom:=hh.gb L.n (bC _);have hl:Z.le (Z.aQ L.n n (some ⟨b,0,none⟩,n)):=aD.ka λy hy=>by rw[hdom.2]at hy;cases hy
 have hbn:(Z.aQ L.n n (some ⟨b,0,none⟩,n)).s L.n n=some (some ⟨b,0,none⟩,n):=by simp[aD.aQ]
 refine DO.up hl (kk _ _ _ ((hs.mono hl).put (some d) (by simp only[aC];exact⟨_,_,LB.length,hbn,rfl⟩)) ?_);refine hh.push hl (λi hi=>by funext m;simp[aD.aQ,hi]) (λ_ _=>rfl) ⟨⟨some ⟨b,0,none⟩,n,by rw[fH];exact hbn,by rw[fH]⟩,λm hm=>?_⟩;rw[fH]at hm;have:m≠n:=by omega
 simp only[aD.aQ,this,and_false,if_false];exact hdom.2 m
theorem DO.gR (t e k:Nat) (ht:O.get t=some (.d (.v (.slice none 0 0)))) (kk:DO E N K all rest Q (Tr.put 24 O t (some (.os L.n 0))) (L.push (.row e k []))):DO E N K all rest Q O L:=λZ OB LB hs hh=>by
 obtain⟨y,h1,h2⟩:=hs t _ ht;simp only[aC]at h2;subst h2;refine bE.gR t e k h1 ?_;have hdom:=hh.gb L.n (bC _);have hl:Z.le (Z.aQ L.n 0 (none,0)):=aD.ka λy hy=>by rw[hdom.2]at hy;cases hy
 have hbn:(Z.aQ L.n 0 (none,0)).s L.n 0=some (none,0):=by simp[aD.aQ]
 refine DO.up hl (kk _ _ _ ((hs.mono hl).put (some t) (by simp only[aC];exact⟨_,_,LB.length,hbn,rfl⟩)) ?_);refine hh.push hl (λi hi=>by funext m;simp[aD.aQ,hi]) (λ_ _=>rfl) ⟨⟨none,0,by simpa using hbn,by simp⟩,λm hm=>?_⟩;have:m≠0:=by simp at hm;omega
 simp only[aD.aQ,this,and_false,if_false];exact hdom.2 m
inductive ko (E:Env) (O:TS) (L:Hp) (k:Nat):Operand->List (List AV)->Prop where
 |sl {p:Operand} {rows:List (List AV)}:aO O p=some (.d (.sl k rows))->ko E O L k p rows
 |yW {p:Operand} {x:AV} {rows:List (List AV)}:aO O p=some (.d x)->(∀w A v,Rel w A x v->Rel w A (.sl k rows) v)->ko E O L k p rows
 |nil {p:Operand}:aO O p=some (.d (.v (.slice none 0 0)))->ko E O L k p []
 |row {p:Operand} {j n e:Nat} {rows:List (List AV)}:aO O p=some (.os j n)->L.e.get j=some (.row e k rows)->n=rows.length->ko E O L k p rows
 |fz {p:Operand} {j n:Nat} {rows:List (List AV)}:aO O p=some (.os j n)->L.e.get j=some (.gH k rows)->n=rows.length->ko E O L k p rows
theorem ko.ok {Z:aD} {OB:Sg} {LB:List aj} (hs:SS Z O (look OB)) (hh:HS Z L LB) {k:Nat} {p:Operand} {rows:List (List AV)} (h:ko E O L k p rows):∀F a w,St E.G N w F a OB LB->iB w (Al F LB) k (a.eval p) rows:=λF a w hst=>by
 cases h with
 |sl h=>
  obtain⟨y,h1,h2⟩:=bR hs h;simp only[aC]at h2;subst h2;exact iB.sl (a8 hst.sg h1)
 |yW h hI=>
  obtain⟨y,h1,h2⟩:=bR hs h;simp only[aC]at h2;subst h2;exact iB.sl (hI _ _ _ (a8 hst.sg h1))
 |nil h=>
  obtain⟨y,h1,h2⟩:=bR hs h;simp only[aC]at h2;subst h2;have:=a8 hst.sg h1;simp only[Rel]at this;rw[this];exact⟨none,0,0,[],rfl,rfl,by simp[bc],λ_=>rfl,λ_ h=>by cases h⟩
 |row h h3 hn=>
  obtain⟨y,h1,h2⟩:=bR hs h;simp only[aC]at h2;obtain⟨a',c,t',h4,rfl⟩:=h2;obtain⟨q,h5,h6⟩:=hh.en _ _ h3;obtain⟨⟨a2,c2,h7,rfl⟩,_⟩:=h6;subst hn;rw[h4]at h7;cases h7;have:=a8 hst.sg h1;simp only[Rel]at this;rw[this];exact iB.row (ie hst.hp h5)
 |fz h h3 hn=>
  obtain⟨y,h1,h2⟩:=bR hs h;simp only[aC]at h2;obtain⟨a',c,t',h4,rfl⟩:=h2;obtain⟨q,h5,h6⟩:=hh.en _ _ h3;obtain⟨a2,c2,h7,rfl⟩:=h6;subst hn;rw[h4]at h7;cases h7;have:=a8 hst.sg h1;simp only[Rel]at this;rw[this];exact iB.sl (oG hst.hp h5)
theorem DO.append {i d n:Nat} {s p:Operand} {t:TypeId} {ty:TypeId} {pos:String} {after:Array Edge} {e k sz by' sz' by'':Nat} {z z':List Value} {td':TD} {rows rows2:List (List AV)}
  (hb:(rows++rows2).length*by''<=140737488355328) (hs':aO O s=some (.os i n)) (hi:L.e.get i=some (.row e k rows)) (hn:n=rows.length) (hx:ko E O L k p rows2) (ht:aP E.T t=some ⟨.slice e k,sz,by',z⟩) (hte:aP E.T e=some ⟨td',sz',by'',z'⟩) (h1:fI rows2=true)
  (hk:Nat.ble 1 k=true) (hby:Nat.ble 1 by''=true) (hd:Nat.blt d N=true)
  (kk:DO E N K all rest Q (bK O (some d) (.os i (rows++rows2).length)) (L.set i (.row e k (rows++rows2)))):
  DO E N K all (⟨some d,.call {callee:= .builtin .append,args:= #[s,p],argTypes:= #[t,t]},ty,pos,after,none⟩::rest) Q O L:=λZ OB LB hs hh=>by
 obtain⟨y,h2,h3⟩:=bR hs hs';simp only[aC]at h3;obtain⟨a,c,t',h3,rfl⟩:=h3;obtain⟨q,h6,h7⟩:=hh.en i _ hi;obtain⟨⟨a',c',h8,rfl⟩,h9⟩:=h7;subst hn;rw[h3]at h8;cases h8;refine bE.za rfl hd (Gi rfl ht hte h2 h6 (hx.ok hs hh) h1 hk hby hb) ?_;rintro r L' ⟨a',c',h0,rfl,rfl⟩;have hl:Z.le (Z.aQ i (rows++rows2).length (a',c')):=aD.ka λy hy=>by
  by_cases hz:rows2=[]
  ·subst hz;simp only[iM]at hy;rw[h3]at hy;cases hy;obtain⟨rfl,rfl⟩:=h0 rfl;rfl
  ·have:rows.length<(rows++rows2).length:=by
    have:=z8.2 hz;simp;omega
   rw[h9 _ this]at hy;cases hy
 have hbn:(Z.aQ i (rows++rows2).length (a',c')).s i (rows++rows2).length=some (a',c'):=by simp[aD.aQ]
 refine DO.up hl (kk _ _ _ ((hs.mono hl).put (some d) (by simp only[aC];exact⟨_,_,i,hbn,rfl⟩)) ?_);refine hh.set hl (λj hj=>by funext m;simp[aD.aQ,hj]) (λ_ _=>rfl) (hh.lt hi) ⟨⟨a',c',hbn,rfl⟩,λm hm=>?_⟩
 have hne:m≠(rows++rows2).length:=by omega
 simp only[aD.aQ,hne,and_false,if_false];exact h9 m (by simp at hm;omega)
theorem DO.Bp {i d n:Nat} {s p:Operand} {t u:TypeId} {ty:TypeId} {pos:String} {after:Array Edge} {e k sz by' sz' by'' szu byu:Nat} {z z' zu:List Value} {td':TD} {rows:List (List AV)} {b:ByteArray}
  (hb:(rows++cQ b).length*by''<=140737488355328) (hs':aO O s=some (.os i n)) (hi:L.e.get i=some (.row e k rows)) (hn:n=rows.length) (hx:aO O p=some (.d (.v (.string b)))) (ht:aP E.T t=some ⟨.slice e k,sz,by',z⟩) (hu:aP E.T u=some ⟨.str,szu,byu,zu⟩) (hte:aP E.T e=some ⟨td',sz',by'',z'⟩)
  (hk:Nat.beq k 1=true) (hby:Nat.beq by'' 1=true) (hd:Nat.blt d N=true)
  (kk:DO E N K all rest Q (bK O (some d) (.os i (rows++cQ b).length)) (L.set i (.row e k (rows++cQ b)))):
  DO E N K all (⟨some d,.call {callee:= .builtin .append,args:= #[s,p],argTypes:= #[t,u]},ty,pos,after,none⟩::rest) Q O L:=λZ OB LB hs hh=>by
 obtain⟨y,h2,h3⟩:=bR hs hs';simp only[aC]at h3;obtain⟨a,c,t',h3,rfl⟩:=h3;obtain⟨y2,g2,g3⟩:=bR hs hx;simp only[aC]at g3;subst g3;obtain⟨q,h6,h7⟩:=hh.en i _ hi;obtain⟨⟨a',c',h8,rfl⟩,h9⟩:=h7;subst hn;rw[h3]at h8;cases h8;refine bE.za rfl hd (F3 rfl ht hu hte h2 h6 g2 hk hby hb) ?_;rintro r L' ⟨a',c',h0,rfl,rfl⟩;have hl:Z.le (Z.aQ i (rows++cQ b).length (a',c')):=aD.ka λy hy=>by
  by_cases hz:cQ b=[]
  ·rw[hz]at hy;simp only[iM]at hy;rw[h3]at hy;cases hy;obtain⟨rfl,rfl⟩:=h0 hz;rfl
  ·have:rows.length<(rows++cQ b).length:=by
    have:=z8.2 hz;simp;omega
   rw[h9 _ this]at hy;cases hy
 have hbn:(Z.aQ i (rows++cQ b).length (a',c')).s i (rows++cQ b).length=some (a',c'):=by simp[aD.aQ]
 refine DO.up hl (kk _ _ _ ((hs.mono hl).put (some d) (by simp only[aC];exact⟨_,_,i,hbn,rfl⟩)) ?_);refine hh.set hl (λj hj=>by funext m;simp[aD.aQ,hj]) (λ_ _=>rfl) (hh.lt hi) ⟨⟨a',c',hbn,rfl⟩,λm hm=>?_⟩
 have hne:m≠(rows++cQ b).length:=by omega
 simp only[aD.aQ,hne,and_false,if_false];exact h9 m (by simp at hm;omega)
theorem DO.make {d:Nat} {t:TypeId} {p q:Operand} {ty:TypeId} {pos:String} {after:Array Edge} {e k sz by' sz' by'':Nat} {z z':List Value} {td':TD} {kl kc:IntKind} {li ci:Int} (l c:Nat)
  (hb:c*by''<=140737488355328) (hl:l<=c) (hx:aO O p=some (.d (.v (.int kl li)))) (hli:li=(l:Int)) (hy:aO O q=some (.d (.v (.int kc ci)))) (hci:ci=(c:Int)) (ht:aP E.T t=some ⟨.slice e k,sz,by',z⟩) (hte:aP E.T e=some ⟨td',sz',by'',z'⟩)
  (hk:Nat.ble 1 k=true) (hby:Nat.ble 1 by''=true) (hd:Nat.blt d N=true)
  (kk:DO E N K all rest Q (bK O (some d) (.os L.n l)) (L.push (.row e k (List.replicate l (z'.map .v))))):DO E N K all (⟨some d,.makeSlice t p q,ty,pos,after,none⟩::rest) Q O L:=λZ OB LB hs hh=>by
 obtain⟨y1,h2,h3⟩:=bR hs hx;simp only[aC]at h3;subst h3;obtain⟨y1,h4,h5⟩:=bR hs hy;simp only[aC]at h5;subst h5;refine bE.make l c hb hl h2 hli h4 hci ht hte hk hby hd λb=>?_;have hdom:=hh.gb L.n (bC _);have hle:Z.le (Z.aQ L.n l (some ⟨b,0,none⟩,c)):=aD.ka λy hy=>by rw[hdom.2]at hy;cases hy
 have hbn:(Z.aQ L.n l (some ⟨b,0,none⟩,c)).s L.n l=some (some ⟨b,0,none⟩,c):=by simp[aD.aQ]
 refine DO.up hle (kk _ _ _ ((hs.mono hle).put (some d) (by simp only[aC];exact⟨_,_,LB.length,hbn,rfl⟩)) ?_);refine hh.push hle (λi hi=>by funext m;simp[aD.aQ,hi]) (λ_ _=>rfl) ⟨⟨some ⟨b,0,none⟩,c,by simpa using hbn,by simp⟩,λm hm=>?_⟩;have:m≠l:=by simp at hm;omega
 simp only[aD.aQ,this,and_false,if_false];exact hdom.2 m
end
def eqs:List (Nat×Nat)->Prop
 |[]=>True
 |p::r=>p.1=p.2/\eqs r
theorem lA:∀{l r:List (Nat×Nat)},eqs (l++r)->eqs l/\eqs r
 |[],_,h=>⟨trivial,h⟩
 |_::_,_,h=>⟨⟨h.1,(lA h.2).1⟩,(lA h.2).2⟩
def bU (e:Tr aT):Nat->List CV->Option (List AV×List (Nat×Nat)×List (Nat×aT))
 |0,_=>none
 |_+1,[]=>some ([],[],[])
 |f+1,x::r=>match bU e f r with
  |none=>none
  |some (zs,ns,ms)=>match x with
   | .d y=>some (y::zs,ns,ms)
   | .agg ys=>match bU e f ys with
    |some (us,ns',ms')=>some (.agg us::zs,ns'++ns,ms'++ms)
    |none=>none
   | .bX ys=>match bU e f ys with
    |some (us,ns',ms')=>some (.bX us::zs,ns'++ns,ms'++ms)
    |none=>none
   | .own t o=>match e.get t with
    |some (.box cs)=>match bU e f cs with
     |some (us,ns',ms')=>some (.ip (us.drop o)::zs,ns'++ns,(t,.kB us)::(ms'++ms))
     |none=>none
    |some (.kB us)=>some (.ip (us.drop o)::zs,ns,ms)
    |_=>none
   | .os t n=>match e.get t with
    |some (.row _ k rows)=>some (.sl k rows::zs,(n,rows.length)::ns,(t,.gH k rows)::ms)
    |some (.gH k rows)=>some (.sl k rows::zs,(n,rows.length)::ns,ms)
    |_=>none
   | .fn g fs cs=>match bU e f fs,bU e f cs with
    |some (us,ns1,ms1),some (vs,ns2,ms2)=>some (.fn g us vs::zs,ns1++(ns2++ns),ms1++(ms2++ms))
    |_,_=>none
   | .bd t y=>match bU e f [y]with
    |some ([u],ns',ms')=>some (.bd t u::zs,ns'++ns,ms'++ms)
    |_=>none
   | .oe _ _ _=>none
   | .om _=>none
def eQ (F:Nat->Prop) (LB:List aj) (M:List Nat) (b:Nat):Prop:=¬F b/\∀i y,nth LB i=some y->i∉M->b∉y.ids
theorem I6 {F:Nat->Prop} {LB:List aj} (M:List Nat) {b:Nat} (h:Al F LB b):eQ F LB M b:=
 ⟨h.1,λi y hy _ hb=>h.2 (eU.2 ⟨y,br (by rw[<-b7];exact hy),hb⟩)⟩
theorem wA {w:World} {F:Nat->Prop} {LB:List aj} (M:List Nat):cR w (Al F LB) w (eQ F LB M):=⟨bC _,λ_ _ h=>⟨I6 M h,rfl⟩⟩
theorem FR:∀{l:List aj} {i j:Nat} {x y:aj} {b:Nat},(ids l).Nodup->nth l i=some x->nth l j=some y->i≠j->b∈x.ids->b∉y.ids
 |[],_,_,_,_,_,_,h,_,_,_=>by simp[nth]at h
 |z::l,0,0,_,_,_,_,_,_,hne,_=>absurd rfl hne
 |z::l,0,j+1,x,y,b,hnd,hi,hj,_,hb=>λhy=>by
  rw[cy,me]at hnd;simp only[nth,ax]at hi hj;subst hi;exact hnd.2.2 b hb b (eU.2 ⟨y,br (by rw[<-b7];exact hj),hy⟩) rfl
 |z::l,i+1,0,x,y,b,hnd,hi,hj,_,hb=>λhy=>by
  rw[cy,me]at hnd;simp only[nth,ax]at hi hj;subst hj;exact hnd.2.2 b hy b (eU.2 ⟨x,br (by rw[<-b7];exact hi),hb⟩) rfl
 |z::l,i+1,j+1,x,y,b,hnd,hi,hj,hne,hb=>by
  rw[cy,me]at hnd;simp only[nth]at hi hj;exact FR hnd.2.1 hi hj (λe=>hne (by rw[e])) hb
theorem Jk {G:Gl} {w:World} {F:Nat->Prop} {LB:List aj} {M:List Nat} (hH:bh G w F LB) {i:Nat} {x:aj} {b:Nat} (hi:nth LB i=some x) (hM:i∈M) (hb:b∈x.ids):eQ F LB M b:=by
 refine⟨hH.free b (eU.2 ⟨x,br (by rw[<-b7];exact hi),hb⟩),λj y hj hjM=>?_⟩;exact FR hH.nodup hi hj (λe=>hjM (e▸hM)) hb
def pn (Z:aD) (w:World) (A:Nat->Prop):Nat×aT->Prop
 |(t,.kB us)=>∃b,Z.b t=some b/\Rel w A (.ip us) (.pointer (some ⟨b,0,none⟩))
 |(t,.gH k rows)=>∃a c,Z.s t rows.length=some (a,c)/\Rel w A (.sl k rows) (.slice a rows.length c)
 |_=>False
section
variable {Z:aD} {L:Hp} {LB:List aj} {w:World} {F:Nat->Prop} {G:Gl}
theorem Qw {M:List Nat} (hH:bh G w F LB) {i:Nat} {v:Value} {e k:Nat} {rows:List (List AV)} (hi:nth LB i=some (.row v e k rows)) (hM:i∈M):Rel w (eQ F LB M) (.sl k rows) v:=by
 obtain⟨vs,h1,h2,h3⟩:=ie hH hi;simp only[Rel];rcases h3 with⟨rfl,h0⟩|⟨g,cap,cur,rfl,_,hg,hn,hcm,hcs,htake⟩
 ·exact .inl ⟨lv h0,_,_,rfl⟩
 ·refine .inr ⟨g,0,cap,vs,rfl,⟨(kF.1 hg).1,Jk hH hi hM (by simp[aj.ids,Value.ownBlock])⟩,hn,hcm,h1.aX (wA M),λj u hj=>?_⟩;rw[<-htake,kI]at hj;split at hj
  ·rw[mO];simp[World.cell?,hg];simpa using hj
  ·cases hj
theorem gM (hh:HS Z L LB) (hH:bh G w F LB) (M:List Nat):∀(f:Nat) {xs:List CV} {zs:List AV} {ns:List (Nat×Nat)} {ms:List (Nat×aT)} {ys:List AV} {vs:List Value},bU L.e f xs=some (zs,ns,ms)->eqs ns->(∀p∈ms,p.1∈M)->
  aI Z xs ys->aG w (Al F LB) ys vs->aG w (eQ F LB M) zs vs/\∀p∈ms,pn Z w (eQ F LB M) p
 |0,_,_,_,_,_,_,h,_,_,_,_=>by simp[bU]at h
 |f+1,[],zs,ns,ms,ys,vs,h,_,_,hi,hr=>by
  simp only[bU,ax,bZ]at h;obtain⟨rfl,rfl,rfl⟩:=h;simp only[aI]at hi;subst hi;simp only[aG]at hr;subst hr;exact⟨by simp[aG],by simp⟩
 |f+1,x::r,zs,ns,ms,ys,vs,h,hn,hM,hi,hr=>by
  simp only[aI]at hi;obtain⟨y,ys,rfl,hy,hi⟩:=hi;simp only[aG]at hr;obtain⟨v,vs,rfl,hv,hr⟩:=hr;simp only[bU]at h;split at h
  ·cases h
  ·rename_i aS ns0 ms0 h0;have tail:∀{z:AV} {ms':List (Nat×aT)},eqs ns0->(∀p∈ms0,p.1∈M)->Rel w (eQ F LB M) z v->(∀p∈ms',pn Z w (eQ F LB M) p)->aG w (eQ F LB M) (z::aS) (v::vs)/\∀p∈ms'++ms0,pn Z w (eQ F LB M) p:=by
    intro z ms' hn' hM' hz hm;obtain⟨h1,h2⟩:=gM hh hH M f h0 hn' hM' hi hr;refine⟨by simp only[aG];exact⟨_,_,rfl,hz,h1⟩,λp hp=>?_⟩;rcases cD.1 hp with hp|hp
    ·exact hm p hp
    ·exact h2 p hp
   cases x with
   |d z=>
    simp only[ax,bZ]at h;obtain⟨rfl,rfl,rfl⟩:=h;simp only[aC]at hy;subst hy;simpa using tail (ms':=[]) hn hM (hv.aX (wA M)) (by simp)
   |agg ks=>
    simp only at h;split at h
    ·rename_i us ns' ms' h1;simp only[ax,bZ]at h;obtain⟨rfl,rfl,rfl⟩:=h;simp only[aC]at hy;obtain⟨ws,rfl,hy⟩:=hy;simp only[Rel]at hv;obtain⟨qs,rfl,hv⟩:=hv;obtain⟨g1,g2⟩:=lA hn;obtain⟨h2,h3⟩:=gM hh hH M f h1 g1 (λp hp=>hM p (by simp[hp])) hy hv;exact tail g2 (λp hp=>hM p (by simp[hp])) (by simp only[Rel];exact⟨qs,rfl,h2⟩) h3
    ·cases h
   |bX ks=>
    simp only at h;split at h
    ·rename_i us ns' ms' h1;simp only[ax,bZ]at h;obtain⟨rfl,rfl,rfl⟩:=h;simp only[aC]at hy;obtain⟨ws,rfl,hy⟩:=hy;simp only[Rel]at hv;obtain⟨qs,rfl,hv⟩:=hv;obtain⟨g1,g2⟩:=lA hn;obtain⟨h2,h3⟩:=gM hh hH M f h1 g1 (λp hp=>hM p (by simp[hp])) hy hv;exact tail g2 (λp hp=>hM p (by simp[hp])) (by simp only[Rel];exact⟨qs,rfl,h2⟩) h3
    ·cases h
   |own t off=>
    simp only[aC]at hy;obtain⟨b,t',hb,rfl⟩:=hy;simp only[Rel]at hv;subst hv;simp only at h;split at h
    ·rename_i cs hcs;split at h
     ·rename_i us ns' ms' h1;simp only[ax,bZ]at h;obtain⟨rfl,rfl,rfl⟩:=h;obtain⟨q,hq1,hq2⟩:=hh.en t _ hcs;obtain⟨b',ws,hb',rfl,hws⟩:=hq2;rw[hb]at hb';cases hb';obtain⟨e,qs,hheap,hqs⟩:=ie hH hq1;obtain⟨g1,g2⟩:=lA hn;have htM:t∈M:=hM (t,.kB us) (by simp);obtain⟨h2,h3⟩:=gM hh hH M f h1 g1 (λp hp=>hM p (by simp[hp])) hws hqs;have hip:Rel w (eQ F LB M) (.ip us) (.pointer (some ⟨b,0,none⟩)):=by
       simp only[Rel];exact⟨b,0,qs,rfl,⟨(kF.1 hheap).1,Jk hH hq1 htM (by simp[aj.ids])⟩,h2,λj u hj=>by rw[mO];exact p0 hheap j u hj⟩
      have:=tail (ms':=(t,.kB us)::ms') g2 (λp hp=>hM p (by simp[hp])) (hip.BR off) (λp hp=>by
       rcases cu.1 hp with rfl|hp
       ·exact⟨b,hb,hip⟩
       ·exact h3 p hp)
      simpa using this
     ·cases h
    ·rename_i us hcs;simp only[ax,bZ]at h;obtain⟨rfl,rfl,rfl⟩:=h;obtain⟨q,hq1,hq2⟩:=hh.en t _ hcs;obtain⟨b',hb',rfl⟩:=hq2;rw[hb]at hb';cases hb';have:=tail (ms':=[]) hn hM (((oG hH hq1).aX (wA M)).BR off) (by simp);simpa using this
    ·cases h
   |os t n=>
    simp only[aC]at hy;obtain⟨a,c,t',hb,rfl⟩:=hy;simp only[Rel]at hv;subst hv;simp only at h;split at h
    ·rename_i e k rows hcs;simp only[ax,bZ]at h;obtain⟨rfl,rfl,rfl⟩:=h;obtain⟨q,hq1,hq2⟩:=hh.en t _ hcs;obtain⟨⟨a',c',hb',rfl⟩,_⟩:=hq2;have hnl:n=rows.length:=hn.1;subst hnl;rw[hb]at hb';cases hb';have hsl:=Qw (M:=M) hH hq1 (hM (t,.gH k rows) (by simp));have:=tail (ms':=[(t,.gH k rows)]) hn.2 (λp hp=>hM p (by simp[hp])) hsl (λp hp=>by
      simp only[mN]at hp;subst hp;exact⟨a,c,hb,hsl⟩)
     simpa using this
    ·rename_i k rows hcs;simp only[ax,bZ]at h;obtain⟨rfl,rfl,rfl⟩:=h;obtain⟨q,hq1,hq2⟩:=hh.en t _ hcs;obtain⟨a',c',hb',rfl⟩:=hq2;have hnl:n=rows.length:=hn.1;subst hnl;rw[hb]at hb';cases hb';have:=tail (ms':=[]) hn.2 hM ((oG hH hq1).aX (wA M)) (by simp);simpa using this
    ·cases h
   |fn g fs cs=>
    simp only at h;split at h
    ·rename_i us ns1 ms1 us2 ns2 ms2 h1 h2;simp only[ax,bZ]at h;obtain⟨rfl,rfl,rfl⟩:=h;simp only[aC]at hy;obtain⟨ws,ws2,rfl,hy,hy2⟩:=hy;simp only[Rel]at hv;obtain⟨qs,qs2,rfl,hv,hv2⟩:=hv;obtain⟨g1,g2⟩:=lA hn;obtain⟨g2,g3⟩:=lA g2;obtain⟨h3,h4⟩:=gM hh hH M f h1 g1 (λp hp=>hM p (by simp[hp])) hy hv;obtain⟨h5,h6⟩:=gM hh hH M f h2 g2 (λp hp=>hM p (by simp[hp])) hy2 hv2;have:=tail (ms':=ms1++ms2) g3 (λp hp=>hM p (by simp[hp])) (z:= .fn g us us2) (by simp only[Rel];exact⟨qs,qs2,rfl,h3,h5⟩) (λp hp=>by
      rcases cD.1 hp with hp|hp
      ·exact h4 p hp
      ·exact h6 p hp)
     simpa using this
    ·cases h
   |bd t k=>
    simp only at h;split at h
    ·rename_i u ns' ms' h1;simp only[ax,bZ]at h;obtain⟨rfl,rfl,rfl⟩:=h;simp only[aC]at hy;obtain⟨z,rfl,hy⟩:=hy;simp only[Rel]at hv;obtain⟨q,rfl,hv⟩:=hv;obtain⟨g1,g2⟩:=lA hn;obtain⟨h2,h3⟩:=gM hh hH M f (ys:=[z]) (vs:=[q]) h1 g1 (λp hp=>hM p (by simp[hp])) (by simp only[aI];exact⟨_,_,rfl,hy,rfl⟩) (by simp only[aG];exact⟨_,_,rfl,hv,rfl⟩);simp only[aG]at h2;obtain⟨q',_,h4,h5,rfl⟩:=h2;cases h4;exact tail g2 (λp hp=>hM p (by simp[hp])) (by simp only[Rel];exact⟨q,rfl,h5⟩) h3
    ·cases h
   |oe t n off=>cases h
   |om t=>cases h
end
def gQ:List (Nat×aT)->Hp->Hp
 |[],L=>L
 |(t,e)::r,L=>(gQ r L).set t e
def tF (Z:aD) (t:Nat):aT->aj
 | .kB us=> .fact (.ip us) (.pointer (some ⟨(Z.b t).getD 0,0,none⟩))
 | .gH k rows=> .fact (.sl k rows) (.slice ((Z.s t rows.length).getD (none,0)).1 rows.length ((Z.s t rows.length).getD (none,0)).2)
 |_=> .gone
def ea (Z:aD):List (Nat×aT)->List aj->List aj
 |[],l=>l
 |(t,e)::r,l=>(ea Z r l).set t (tF Z t e)
theorem NA {Z:aD}:∀(ms:List (Nat×aT)) (l:List aj),(ea Z ms l).length=l.length
 |[],_=>rfl
 |(t,e)::r,l=>by simp[ea,NA r l]
theorem Gj {Z:aD} {t:Nat} {e:aT}:(tF Z t e).ids=[]:=by cases e<;>rfl
theorem F4 {x:aj} (hx:x.ids=[]):∀(l:List aj) (i:Nat),(ids (l.set i x)).Sublist (ids l)
 |[],_=>by simp
 |y::l,0=>by simp only[Fv,cy,hx,vz];exact XV _ _
 |y::l,i+1=>by simp only[sr,cy];exact XW (Fy _) (F4 hx l i)
theorem sL {Z:aD}:∀(ms:List (Nat×aT)) (l:List aj),(ids (ea Z ms l)).Sublist (ids l)
 |[],_=>Fy _
 |(t,e)::r,l=>(F4 Gj _ _).trans (sL r l)
theorem AM {Z:aD}:∀(ms:List (Nat×aT)) (l:List aj) (i:Nat) (x:aj),nth (ea Z ms l) i=some x->(nth l i=some x/\i∉ms.map (·.1))\/∃e,(i,e)∈ms/\x=tF Z i e
 |[],_,_,_,h=> .inl ⟨h,by simp⟩
 |(t,e)::r,l,i,x,h=>by
  simp only[ea]at h;by_cases hti:t=i
  ·subst hti;rw[b7]at h;have hlt:t<(ea Z r l).length:=by
    have:=(cX.1 h).1;simpa using this
   rw[ss hlt]at h;cases h;exact .inr ⟨e,by simp,rfl⟩
  ·rw[b7,pV hti,<-b7]at h;rcases AM r l i x h with⟨h1,h2⟩|⟨e',h1,h2⟩
   ·exact .inl ⟨h1,by simp only[dA,cu,not_or];exact⟨λe=>hti e.symm,h2⟩⟩
   ·exact .inr ⟨e',by simp[h1],h2⟩
section
variable {Z:aD} {L:Hp} {LB:List aj} {w:World} {F:Nat->Prop} {G:Gl}
theorem OO {ms:List (Nat×aT)} {b:Nat} (h:eQ F LB (ms.map (·.1)) b):Al F (ea Z ms LB) b:=by
 refine⟨h.1,λhb=>?_⟩;obtain⟨x,hx,hb⟩:=eU.1 hb;obtain⟨i,hi⟩:=jW hx;rw[<-b7]at hi;rcases AM ms LB i x hi with⟨h1,h2⟩|⟨e,_,rfl⟩
 ·exact h.2 i x h1 h2 hb
 ·rw[Gj]at hb;cases hb
theorem qf {ms:List (Nat×aT)}:cR w (eQ F LB (ms.map (·.1))) w (Al F (ea Z ms LB)):=⟨bC _,λ_ _ h=>⟨OO h,rfl⟩⟩
theorem wu (hH:bh G w F LB) {ms:List (Nat×aT)} (hm:∀p∈ms,pn Z w (eQ F LB (ms.map (·.1))) p):bh G w F (ea Z ms LB):=by
 refine hH.facts (sL ms LB) λx hx=>?_;obtain⟨i,hi⟩:=jW hx;rw[<-b7]at hi;rcases AM ms LB i x hi with⟨h1,_⟩|⟨e,h1,rfl⟩
 ·exact .inl (br (by rw[<-b7];exact h1))
 ·right;have h2:=hm _ h1;cases e<;>first|exact h2.elim|skip
  ·obtain⟨b,h3,h4⟩:=h2;exact⟨_,_,rfl,by simp only[h3,MY];exact h4.aX qf⟩
  ·obtain⟨a,c,h3,h4⟩:=h2;exact⟨_,_,rfl,by simp only[h3,MY];exact h4.aX qf⟩
theorem Hx:∀(ms:List (Nat×aT)) (L:Hp),(gQ ms L).n=L.n
 |[],_=>rfl
 |(t,e)::r,L=>by simp[gQ,Hp.set,Hx r L]
theorem vW (hh:HS Z L LB):∀{ms:List (Nat×aT)},(∀p∈ms,p.1<L.n/\pn Z w F p)->HS Z (gQ ms L) (ea Z ms LB)
 |[],_=>hh
 |(t,e)::r,hm=>by
  have ih:=vW (ms:=r) hh λp hp=>hm p (by simp[hp]);obtain⟨h1,h2⟩:=hm (t,e) (by simp);refine ih.set (.refl Z) (λ_ _=>rfl) (λ_ _=>rfl) (by rw[Hx];exact h1) ?_
  cases e<;>first|exact h2.elim|skip
  ·obtain⟨b,h3,_⟩:=h2;exact⟨b,h3,by simp[tF,h3]⟩
  ·obtain⟨a,c,h3,_⟩:=h2;exact⟨a,c,h3,by simp[tF,h3]⟩
theorem pn.lt (hh:HS Z L LB) {A:Nat->Prop} {p:Nat×aT} (h:pn Z w A p):p.1<L.n:=by
 obtain⟨t,e⟩:=p;cases e<;>first|exact h.elim|skip
 ·obtain⟨b,h1,_⟩:=h;rcases lr t L.n with h2|h2
  ·exact h2
  ·rw[(hh.gb t h2).1]at h1;cases h1
 ·obtain⟨a,c,h1,_⟩:=h;rcases lr t L.n with h2|h2
  ·exact h2
  ·rw[(hh.gb t h2).2]at h1;cases h1
theorem aG.one {A:Nat->Prop} {x:AV} {v:Value} (h:Rel w A x v):aG w A [x] [v]:=by simp only[aG];exact⟨_,_,rfl,h,rfl⟩
theorem aG.xP {A:Nat->Prop} {x:AV} {v:Value} (h:aG w A [x] [v]):Rel w A x v:=by
 simp only[aG]at h;obtain⟨v',r,h1,h2,h3⟩:=h;cases h1;exact h2
theorem aI.one {x:CV} {y:AV} (h:aC Z x y):aI Z [x] [y]:=by simp only[aI];exact⟨_,_,rfl,h,rfl⟩
end
section
variable {E:Env} {N K:Nat} {Q:DQ} {O:TS} {L:Hp} {o:Oper} {x:CV} {all rest:List Oper}
theorem DO.cZ {t:Nat} {z:AV} {ns:List (Nat×Nat)} {ms:List (Nat×aT)} (f:Nat) (hx:O.get t=some x) (hf:bU L.e f [x]=some ([z],ns,ms)) (hn:eqs ns) (k:DO E N K all rest Q (Tr.put 24 O t (some (.d z))) (gQ ms L)):DO E N K all rest Q O L:=λZ OB LB hs hh=>by
 obtain⟨y,h1,h2⟩:=hs t x hx;intro F w0 η0 a w hst hxt;have hv:=(hst.sg.2 t y h1).2;obtain⟨h3,h4⟩:=gM hh hst.hp (ms.map (·.1)) f hf hn (λp hp=>dk.2 ⟨p,hp,rfl⟩) (aI.one h2) (aG.one hv);have h3:=h3.xP;have hHS:HS Z (gQ ms L) (ea Z ms LB):=vW (w:=w) (F:=eQ F LB (ms.map (·.1))) hh λp hp=>⟨(h4 p hp).lt hh,h4 p hp⟩;have hHO:bh E.G w F (ea Z ms LB):=wu hst.hp h4;have hsub:∀b∈ids (ea Z ms LB),b∈ids LB:=λb hb=>(sL ms LB).subset hb;have hkeep:cR w (Al F LB) w (Al F (ea Z ms LB)):=cR.sub hsub;refine k Z ((t,z)::OB) (ea Z ms LB) (hs.put (some t) (x:= .d z) (y:=z) rfl) hHS F w0 η0 a w ⟨⟨hst.sg.1,λu q hq=>?_⟩,hHO,hst.df⟩ (hxt.trans ⟨rfl,rfl,rfl,bC _,λ_ _ _=>rfl,λb hb=> .inl (hsub b hb),.of (bC _)⟩);simp only[look]at hq;cases hb:Nat.beq t u with
 |true=>
  rw[hb]at hq;simp only[ax]at hq;subst hq;rw[<-bg hb];exact⟨(hst.sg.2 t y h1).1,h3.aX qf⟩
 |false=>
  rw[hb]at hq;exact⟨(hst.sg.2 u q hq).1,(hst.sg.2 u q hq).2.aX hkeep⟩
theorem DC.cZ {t:Nat} {z:AV} {ns:List (Nat×Nat)} {ms:List (Nat×aT)} (f:Nat) (hx:O.get t=some x) (hf:bU L.e f [x]=some ([z],ns,ms)) (hn:eqs ns) {c:Code} (k:DC E N K c Q (Tr.put 24 O t (some (.d z))) (gQ ms L)):DC E N K c Q O L:=λZ OB LB hs hh=>by
 obtain⟨y,h1,h2⟩:=hs t x hx;intro F w0 η0 a w hst hxt;have hv:=(hst.sg.2 t y h1).2;obtain⟨h3,h4⟩:=gM hh hst.hp (ms.map (·.1)) f hf hn (λp hp=>dk.2 ⟨p,hp,rfl⟩) (aI.one h2) (aG.one hv);have h3:=h3.xP;have hHS:HS Z (gQ ms L) (ea Z ms LB):=vW (w:=w) (F:=eQ F LB (ms.map (·.1))) hh λp hp=>⟨(h4 p hp).lt hh,h4 p hp⟩;have hHO:bh E.G w F (ea Z ms LB):=wu hst.hp h4;have hsub:∀b∈ids (ea Z ms LB),b∈ids LB:=λb hb=>(sL ms LB).subset hb;have hkeep:cR w (Al F LB) w (Al F (ea Z ms LB)):=cR.sub hsub;refine k Z ((t,z)::OB) (ea Z ms LB) (hs.put (some t) (x:= .d z) (y:=z) rfl) hHS F w0 η0 a w ⟨⟨hst.sg.1,λu q hq=>?_⟩,hHO,hst.df⟩ (hxt.trans ⟨rfl,rfl,rfl,bC _,λ_ _ _=>rfl,λb hb=> .inl (hsub b hb),.of (bC _)⟩);simp only[look]at hq;cases hb:Nat.beq t u with
 |true=>
  rw[hb]at hq;simp only[ax]at hq;subst hq;rw[<-bg hb];exact⟨(hst.sg.2 t y h1).1,h3.aX qf⟩
 |false=>
  rw[hb]at hq;exact⟨(hst.sg.2 u q hq).1,(hst.sg.2 u q hq).2.aX hkeep⟩
def bO (z y:AV):Prop:=∀w A v,Rel w A z v->Rel w A y v
inductive bS:List AV->List AV->Prop where
 |nil:bS [] []
 |cons {x y:AV} {xs ys:List AV}:bO x y->bS xs ys->bS (x::xs) (y::ys)
theorem bO.refl (x:AV):bO x x:=λ_ _ _ h=>h
theorem bS.refl:∀(xs:List AV),bS xs xs
 |[]=> .nil
 |x::xs=> .cons (.refl x) (bS.refl xs)
theorem bS.rel {w:World} {A:Nat->Prop}:∀{xs ys:List AV} {vs:List Value},bS xs ys->aG w A xs vs->aG w A ys vs
 |_,_,_,.nil,h=>h
 |_,_,_,.cons h t,hr=>by
  simp only[aG]at hr⊢;obtain⟨v,r,rfl,h1,h2⟩:=hr;exact⟨v,r,rfl,h _ _ _ h1,bS.rel t h2⟩
theorem bO.nil (k:Nat):bO (.v (.slice none 0 0)) (.sl k []):=λw A v h=>by
 simp only[Rel]at h⊢;subst h;exact .inl ⟨trivial,_,_,rfl⟩
theorem bO.agg {xs ys:List AV} (h:bS xs ys):bO (.agg xs) (.agg ys):=λw A v hr=>by
 simp only[Rel]at hr⊢;obtain⟨vs,rfl,h1⟩:=hr;exact⟨vs,rfl,h.rel h1⟩
theorem bO.bX {xs ys:List AV} (h:bS xs ys):bO (.bX xs) (.bX ys):=λw A v hr=>by
 simp only[Rel]at hr⊢;obtain⟨vs,rfl,h1⟩:=hr;exact⟨vs,rfl,h.rel h1⟩
theorem bO.ip {xs ys:List AV} (h:bS xs ys):bO (.ip xs) (.ip ys):=λw A v hr=>by
 simp only[Rel]at hr⊢;obtain⟨b,o,vs,e1,e2,e3,e4⟩:=hr;exact⟨b,o,vs,e1,e2,h.rel e3,e4⟩
theorem bO.fn {f:FuncId} {fs fs' cs cs':List AV} (h:bS fs fs') (g:bS cs cs'):bO (.fn f fs cs) (.fn f fs' cs'):=λw A v hr=>by
 simp only[Rel]at hr⊢;obtain⟨us,vs,e,h1,h2⟩:=hr;exact⟨us,vs,e,h.rel h1,g.rel h2⟩
inductive cU:List (List AV)->List (List AV)->Prop where
 |nil:cU [] []
 |cons {x y:List AV} {xs ys:List (List AV)}:bS x y->cU xs ys->cU (x::xs) (y::ys)
theorem bS.length {xs ys:List AV} (h:bS xs ys):ys.length=xs.length:=by induction h with|nil=>rfl|cons _ _ ih=>simp[ih]
theorem cU.length {xs ys:List (List AV)} (h:cU xs ys):ys.length=xs.length:=by induction h with|nil=>rfl|cons _ _ ih=>simp[ih]
theorem cU.refl:∀(xs:List (List AV)),cU xs xs
 |[]=> .nil
 |x::xs=> .cons (.refl x) (cU.refl xs)
theorem cU.rel {w:World} {A:Nat->Prop} {k:Nat}:∀{xs ys:List (List AV)} {vs:List Value},cU xs ys->bc w A k xs vs->bc w A k ys vs
 |_,_,_,.nil,h=>h
 |_,_,_,.cons h t,hr=>by
  simp only[bc]at hr⊢;obtain⟨v1,v2,rfl,h0,h1,h2⟩:=hr;exact⟨v1,v2,rfl,by rw[h.length];exact h0,h.rel h1,cU.rel t h2⟩
theorem bO.sl {k:Nat} {xs ys:List (List AV)} (h:cU xs ys):bO (.sl k xs) (.sl k ys):=λw A v hr=>by
 simp only[Rel]at hr⊢;rcases hr with⟨rfl,h1⟩|⟨b,o,cap,vs,e1,e2,e3,e4,e5,e6⟩
 ·cases h;exact .inl ⟨rfl,h1⟩
 ·exact .inr ⟨b,o,cap,vs,by rw[h.length];exact e1,e2,by rw[h.length];exact e3,e4,h.rel e5,e6⟩
theorem cU.append {xs ys xs' ys':List (List AV)} (h:cU xs ys) (g:cU xs' ys'):cU (xs++xs') (ys++ys'):=by
 induction h with
 |nil=>exact g
 |cons h _ ih=>exact .cons h ih
def cE:AV->Bool
 | .v _=>true
 | .agg xs=>go xs
 | .bX xs=>go xs
 | .bd _ x=>cE x
 |_=>false
where go:List AV->Bool
 |[]=>true
 |x::r=>match cE x with
  |true=>go r
  |false=>false
mutual
theorem vL {w:World} {A A':Nat->Prop}:∀{x:AV} {v:Value},cE x=true->Rel w A x v->Rel w A' x v
 | .v _,_,_,h=>by simp only[Rel]at h⊢;exact h
 | .agg xs,_,hf,h=>by simp only[Rel]at h⊢;obtain⟨vs,e,h1⟩:=h;exact⟨vs,e,Am (by simpa[cE]using hf) h1⟩
 | .bX xs,_,hf,h=>by simp only[Rel]at h⊢;obtain⟨vs,e,h1⟩:=h;exact⟨vs,e,Am (by simpa[cE]using hf) h1⟩
 | .bd t x,_,hf,h=>by simp only[Rel]at h⊢;obtain⟨u,e,h1⟩:=h;exact⟨u,e,vL (by simpa[cE]using hf) h1⟩
 | .sl _ _,_,hf,_=>by simp[cE]at hf
 | .ip _,_,hf,_=>by simp[cE]at hf
 | .own _ _ _,_,hf,_=>by simp[cE]at hf
 | .os _ _ _ _,_,hf,_=>by simp[cE]at hf
 | .oe _ _ _,_,hf,_=>by simp[cE]at hf
 | .om _ _,_,hf,_=>by simp[cE]at hf
 | .fn _ _ _,_,hf,_=>by simp[cE]at hf
theorem Am {w:World} {A A':Nat->Prop}:∀{xs:List AV} {vs:List Value},cE.go xs=true->aG w A xs vs->aG w A' xs vs
 |[],_,_,h=>by simp only[aG]at h⊢;exact h
 |x::r,_,hf,h=>by
  simp only[cE.go]at hf;split at hf
  ·rename_i hx;simp only[aG]at h⊢;obtain⟨v,r',e,h1,h2⟩:=h;exact⟨v,r',e,vL hx h1,Am hf h2⟩
  ·cases hf
end
def dm (O:TS) (f:Operand) (args:List Operand):Option (FuncId×List CV):=
 match aO O f,po O args with
 |some (.d (.v (.func (.func g) fa cs))),some xs=>some (g,(fa.toList.map .v).map .d++xs++(cs.toList.map .v).map .d)
 |some (.d (.fn g fs cs)),some xs=>some (g,fs.map .d++xs++cs.map .d)
 |some (.fn g fs cs),some xs=>some (g,fs++xs++cs)
 |_,_=>none
theorem ou {Z:aD} {s:Sl} (hs:SS Z O s) {f:Operand} {args:List Operand} {g:FuncId} {cs:List CV} (h:dm O f args=some (g,cs)):∃ys,callee s f args=some (g,ys)/\aI Z cs ys:=by
 unfold dm at h;split at h
 ·rename_i g' fa qs xs h1 h2;simp only[ax,bZ]at h;obtain⟨rfl,rfl⟩:=h;obtain⟨y,h3,h4⟩:=bR hs h1;simp only[aC]at h4;subst h4;obtain⟨ys,h5,h6⟩:=qh hs h2;exact⟨_,by simp only[callee,h3,h5],((gv _).append h6).append (gv _)⟩
 ·rename_i g' fs qs xs h1 h2;simp only[ax,bZ]at h;obtain⟨rfl,rfl⟩:=h;obtain⟨y,h3,h4⟩:=bR hs h1;simp only[aC]at h4;subst h4;obtain⟨ys,h5,h6⟩:=qh hs h2;exact⟨_,by simp only[callee,h3,h5],((gv _).append h6).append (gv _)⟩
 ·rename_i g' fs qs xs h1 h2;simp only[ax,bZ]at h;obtain⟨rfl,rfl⟩:=h;obtain⟨y,h3,h4⟩:=bR hs h1;simp only[aC]at h4;obtain⟨us,vs,rfl,h4,h4'⟩:=h4;obtain⟨ys,h5,h6⟩:=qh hs h2;exact⟨_,by simp only[callee,h3,h5],(h4.append h6).append h4'⟩
 ·cases h
theorem AL {Z:aD} {LB:List aj} {w:World} {F:Nat->Prop} {g:FuncId} {cs:List CV} {ys xs' xs:List AV} {vs:List Value} {ns:List (Nat×Nat)} {ms:List (Nat×aT)} {res:AR} (fl:Nat) (h:Pure E.toCx g xs res)
  (hf:bU L.e fl cs=some (xs',ns,ms)) (hn:eqs ns) (hi:bS xs' xs) (hl:ms=[]\/(match res with| .ret x=>cE x| .aJ x=>cE x)=true) (hh:HS Z L LB) (hH:bh E.G w F LB) (hcs:aI Z cs ys) (hr:aG w (Al F LB) ys vs):
  Calls E.P g vs.toArray w λe w'=>AR.rel w' (Al F LB) res e/\gg w w':=by
 obtain⟨h3,h4⟩:=gM hh hH (ms.map (·.1)) fl hf hn (λp hp=>dk.2 ⟨p,hp,rfl⟩) hcs hr;have hHO:bh E.G w F (ea Z ms LB):=wu hH h4;have hx:=hi.rel h3;have hx':aG w (Al F (ea Z ms LB)) xs vs:=hx.aX qf;refine(h.run hHO hx').mono ?_;rintro e w' ⟨hv,_,hext,hsame⟩;refine⟨?_,⟨hext.os,hext.drawn⟩,hext.tape,hext.output,hext.size,hsame⟩;rcases hl with rfl|hl
 ·exact hv
 ·cases res with
  |ret x=>obtain⟨v,rfl,hv⟩:=hv;exact⟨v,rfl,vL hl hv⟩
  |aJ x=>obtain⟨v,rfl,hv⟩:=hv;exact⟨v,rfl,vL hl hv⟩
theorem aR.pure {f:Operand} {args:List Operand} {g:FuncId} {cs:List CV} {xs' xs:List AV} {ns:List (Nat×Nat)} {ms:List (Nat×aT)} {res:AV} {tys:Array TypeId} (fl:Nat) (ho:o.op= .call {callee:= .value f,args:=args.toArray,argTypes:=tys})
  (h:Pure E.toCx g xs (.ret res)) (hc:dm O f args=some (g,cs)) (hf:bU L.e fl cs=some (xs',ns,ms)) (hn:eqs ns) (hi:bS xs' xs) (hl:ms=[]\/cE res=true):aR E N o O L (.d res):=λZ s LB hs hh=>by
 obtain⟨ys,hcal,hcs⟩:=ou hs hc;refine⟨res,rfl,λF w a hN _ hH hopd K' Q' k=>?_⟩;have hmem:∀p,p=f\/p∈args->p∈o.op.operands.toList:=by
  rintro p hp;rw[ho];rcases hp with rfl|hp
  ·simp[Op.operands,Call.operands]
  ·simp[Op.operands,Call.operands,hp]
 have hc':callee (look (cV s (tmpsOf o))) f args=some (g,ys):=by
  unfold callee at hcal⊢;rw[eV (hmem f (.inl rfl)),qk λp hp=>eV (hmem p (.inr hp))];exact hcal
 have hsl:eZ w (Al F LB) N a (look (cV s (tmpsOf o))):=⟨hN,λt y hy=>by obtain⟨h1,h2⟩:=jz hy;exact hopd t h1 y h2⟩;obtain⟨vs,h1,h2⟩:=sG (P:=E.P) hsl hc' (tys:=tys) (dst:=o.dst) (ty:=o.type) (pos:=o.pos) (after:=o.after) (gd:=o.guard) h.1;have ho':o=⟨o.dst,.call {callee:= .value f,args:=args.toArray,argTypes:=tys},o.type,o.pos,o.after,o.guard⟩:=by rw[<-ho]
 rw[<-ho']at h2;unfold Oper.wp;rw[h2 w,Oper.upon_enter];refine(AL fl h hf hn hi hl hh hH hcs h1).mono ?_;rintro e w' ⟨⟨v,rfl,hv⟩,hcls⟩;exact k v w' hv hcls
theorem DO.qA {dst:Option Nat} {f:Operand} {args:List Operand} {g:FuncId} {cs:List CV} {xs' xs:List AV} {ns:List (Nat×Nat)} {ms:List (Nat×aT)} {res:AV} {tys:Array TypeId} {ty:TypeId} {pos:String} {after:Array Edge} (fl:Nat)
  (h:Pure E.toCx g xs (.aJ res)) (hc:dm O f args=some (g,cs)) (hf:bU L.e fl cs=some (xs',ns,ms)) (hn:eqs ns) (hi:bS xs' xs) (hl:ms=[]\/cE res=true)
  (k:Q (.aJ (.d res)) .lf L):DO E N K all (⟨dst,.call {callee:= .value f,args:=args.toArray,argTypes:=tys},ty,pos,after,none⟩::rest) Q O L:=λZ OB LB hs hh=>by
 obtain⟨ys,hcal,hcs⟩:=ou hs hc;intro F w0 η0 a w hst hxt;unfold wpList;rw[ck (by simp[Region.wanted])];refine .inl ?_;obtain⟨vs,h1,h2⟩:=sG (P:=E.P) hst.sg hcal (tys:=tys) (dst:=dst) (ty:=ty) (pos:=pos) (after:=after) (gd:=none) h.1;unfold Oper.wp;rw[h2 w,Oper.upon_enter];refine(AL fl h hf hn hi hl hh hst.hp hcs h1).mono ?_;rintro e w' ⟨⟨v,rfl,hv⟩,hcls⟩;refine⟨.aJ res,[],LB,⟨Z,.aJ (.d res),.lf,L,.refl K Z,⟨res,rfl,rfl⟩,λt x hx=>by simp[Tr.jE]at hx,hh,k⟩,⟨v,rfl,hv⟩,⟨⟨hst.sg.1,λt x hx=>by simp[AE.sl,look]at hx⟩,hst.hp.later hcls.2.2.2,hst.df⟩,hxt.trans hcls.ext⟩
inductive DR where
 |ret (x:CV)
 |aJ (x:CV)
def DR.inst (Z:aD):DR->AR->Prop
 | .ret x,r=>∃y,r= .ret y/\aC Z x y
 | .aJ x,r=>∃y,r= .aJ y/\aC Z x y
def Kq (K:Nat) (Z:aD) (Q:DR->Hp->Prop):AR->List aj->Prop:=λr LB=>∃Z' d L,aD.gf K Z Z'/\DR.inst Z' d r/\HS Z' L LB/\Q d L
def eK (E:Env) (g:FuncId) (args:List CV) (L:Hp) (Q:DR->Hp->Prop):Prop:=∀Z ys LB,aI Z args ys->HS Z L LB->kX E.toCx g ys LB (Kq L.n Z Q)
theorem HS.gf {Z Z':aD} {LB:List aj} (hh:HS Z L LB) (h:aD.gf L.n Z Z'):Z.le Z':=by
 refine⟨λt x hx=>?_,λt n x hx=>?_⟩
 ·rcases lr t L.n with h1|h1
  ·exact(h t h1).1 x hx
  ·rw[(hh.gb t h1).1]at hx;cases hx
 ·rcases lr t L.n with h1|h1
  ·exact(h t h1).2 n x hx
  ·rw[(hh.gb t h1).2]at hx;cases hx
theorem DO.call {dst:Option Nat} {f:Operand} {args:List Operand} {g:FuncId} {cs:List CV} {Q':DR->Hp->Prop} {tys:Array TypeId} {ty:TypeId} {pos:String} {after:Array Edge}
  (h:eK E g cs L Q') (hc:dm O f args=some (g,cs)) (hd:b8 N dst=true) (k1:∀x L',Q' (.ret x) L'->DO E N K all rest Q (bK O dst x) L') (k2:∀x L',Q' (.aJ x) L'->Q (.aJ x) .lf L'):
  DO E N K all (⟨dst,.call {callee:= .value f,args:=args.toArray,argTypes:=tys},ty,pos,after,none⟩::rest) Q O L:=λZ OB LB hs hh=>by
 obtain⟨ys,h1,h2⟩:=ou hs hc;refine bE.TM (h Z ys LB h2 hh) h1 hd ?_ ?_
 ·rintro y LB' ⟨Z',r,L',h3,h4,h5,h6⟩;have hl:=hh.gf h3;cases r with
  |ret x=>
   obtain⟨y',e,h4⟩:=h4;cases e;exact DO.up hl (k1 x L' h6 Z' _ LB' ((hs.mono hl).put dst h4) h5)
  |aJ x=>obtain⟨y',e,_⟩:=h4;cases e
 ·rintro y LB' ⟨Z',r,L',h3,h4,h5,h6⟩;have hl:=hh.gf h3;cases r with
  |ret x=>obtain⟨y',e,_⟩:=h4;cases e
  |aJ x=>
   obtain⟨y',e,h4⟩:=h4;cases e;exact⟨Z',.aJ x,.lf,L',hl.toK K,⟨y,rfl,h4⟩,λt x hx=>by simp[Tr.jE]at hx,h5,k2 x L' h6⟩
def gx:Nat->List CV->TS
 |_,[]=> .lf
 |n,x::xs=>Tr.put 24 (gx (n+1) xs) n (some x)
theorem GO {Z:aD}:∀{xs:List CV} {ys:List AV} (n:Nat),aI Z xs ys->SS Z (gx n xs) (look (pq n ys))
 |[],ys,n,_=>λt x hx=>by simp[gx,Tr.jE]at hx
 |x::xs,ys,n,h=>by
  simp only[aI]at h;obtain⟨y,r,rfl,h1,h2⟩:=h;have:=GO (n+1) h2;exact this.put (some n) h1
def CZ (T:bD) (O:TS) (L:Hp):ResultVar->Option CV
 | .tmp t=>O.get t
 | .cell a t=>match O.get a,aP T t with
  |some (.own i 0),some ⟨d,k,_,_⟩=>match L.e.get i with
   |some (.box cs)=>match d.agg with
    |true=>match Nat.ble k cs.length with
     |true=>some (rj (cs.take k))
     |false=>none
    |false=>nth cs 0
   |_=>none
  |some (.d (.ip cs)),some ⟨d,k,_,_⟩=>match d.agg,fits cs k with
   |true,true=>some (.d (.agg (cs.take k)))
   |_,_=>none
  |_,_=>none
def dG (T:bD) (O:TS) (L:Hp):List ResultVar->Option (List CV)
 |[]=>some []
 |r::rs=>match CZ T O L r,dG T O L rs with
  |some x,some xs=>some (x::xs)
  |_,_=>none
def ez:List CV->CV
 |[x]=>x
 |xs=>C0 xs
theorem PB {Z:aD} {OB:Sg} {LB:List aj} {T:bD} (hs:SS Z O (look OB)) (hh:HS Z L LB) {r:ResultVar} (h:CZ T O L r=some x):∃y,nJ T OB LB r y/\aC Z x y:=by
 cases r with
 |tmp t=>obtain⟨y,h1,h2⟩:=hs t x h;exact⟨y,.tmp h1,h2⟩
 |cell a t=>
  simp only[CZ]at h;split at h
  ·rename_i i d k b z ha ht;split at h
   ·rename_i cs hcs;obtain⟨y,h1,h2⟩:=hs a _ ha;simp only[aC]at h2;obtain⟨bk,t',h2,rfl⟩:=h2;obtain⟨q,h3,h4⟩:=hh.en i _ hcs;obtain⟨bk',us,h5,rfl,h6⟩:=h4;rw[h2]at h5;cases h5;split at h
    ·rename_i hd;split at h
     ·rename_i hle;simp only[ax]at h;subst h;exact⟨_,.Kr h1 h3 ht hd (Az (by rw[h6.length];exact dj hle)),vT (h6.take k)⟩
     ·cases h
    ·rename_i hd;obtain⟨y,h7,h8⟩:=h6.nth h;cases us with
     |nil=>simp[nth]at h7
     |cons u us=>
      simp only[nth,ax]at h7;subst h7;exact⟨_,.Jl h1 h3 ht hd,h8⟩
   ·cases h
  ·rename_i cs d k b z ha ht;split at h
   ·rename_i hd hf;simp only[ax]at h;subst h;obtain⟨y,h1,h2⟩:=hs a _ ha;simp only[aC]at h2;subst h2;exact⟨_,.Ks h1 ht hd hf,rfl⟩
   ·cases h
  ·cases h
theorem Ik {Z:aD} {OB:Sg} {LB:List aj} {T:bD} (hs:SS Z O (look OB)) (hh:HS Z L LB):∀{rs:List ResultVar} {xs:List CV},dG T O L rs=some xs->∃ys,ry T OB LB rs ys/\aI Z xs ys
 |[],xs,h=>by simp only[dG,ax]at h;subst h;exact⟨[],.nil,by simp[aI]⟩
 |r::rs,xs,h=>by
  simp only[dG]at h;split at h
  ·rename_i x xs' h1 h2;simp only[ax]at h;subst h;obtain⟨y,h3,h4⟩:=PB hs hh h1;obtain⟨ys,h5,h6⟩:=Ik hs hh h2;exact⟨y::ys,.cons h3 h5,by simp only[aI];exact⟨_,_,rfl,h4,h6⟩⟩
  ·cases h
theorem N9 {Z:aD} {xs:List CV} {ys:List AV} (h:aI Z xs ys):aC Z (ez xs) (ua ys):=by
 match xs,ys,h with
 |[],ys,h=>exact Gk (xs:=[]) h|>λz=>by simp only[aI]at h;subst h;exact z
 |[x],ys,h=>simp only[aI]at h;obtain⟨y,r,rfl,h1,rfl⟩:=h;exact h1
 |x::x'::r,ys,h=>
  have h0:=h;simp only[aI]at h0;obtain⟨y,r,rfl,h1,y',r',rfl,h2,h3⟩:=h0;exact Gk h
def RD (T:bD) (rs:List ResultVar) (Q:DR->Hp->Prop):DQ:=λe O L=>match e with
 | .norm=>∃xs,dG T O L rs=some xs/\Q (.ret (ez xs)) L
 | .ret=>∃xs,dG T O L rs=some xs/\Q (.ret (ez xs)) L
 | .exit _=>False
 | .aJ x=>Q (.aJ x) L
theorem eK.enter {f:FuncId} {fn:Func} {c:Code} {args:List CV} {Q:DR->Hp->Prop} (hf:E.P.funcs[f]? =some fn) (hb:fn.body=some c) (hname:(fn.name== "runtime.NumGoroutine")=false)
  (rs:List ResultVar) (hrs:fn.results=rs.toArray) (nt:Nat) (hnt:fn.ntmps=nt) (hn:Nat.ble args.length nt=true) (h:DC E nt L.n c (RD E.T rs Q) (gx 0 args) L):eK E f args L Q:=λZ ys LB hi hh=>by
 refine kX.enter (E:=E) hf hb hname rs hrs nt hnt (by rw[hi.length];exact hn) (bH.mono (h Z (pq 0 ys) LB (GO 0 hi) hh) ?_);rintro e OB' LB' ⟨Z',d,O',L',h1,h2,h3,h4,h5⟩;have main:(∃xs,dG E.T O' L' rs=some xs/\Q (.ret (ez xs)) L')->RQ E.T rs (Kq L.n Z Q) OB' LB':=by
  rintro ⟨xs,h6,h7⟩;obtain⟨zs,h8,h9⟩:=Ik h3 h4 h6;exact⟨zs,h8,Z',.ret (ez xs),L',h1,⟨_,rfl,N9 h9⟩,h4,h7⟩
 cases d with
 |norm=>simp only[DE.inst]at h2;subst h2;exact main h5
 |ret=>simp only[DE.inst]at h2;subst h2;exact main h5
 |exit i=>exact h5.elim
 |aJ x=>obtain⟨y,rfl,h2⟩:=h2;exact⟨Z',.aJ x,L',h1,⟨y,rfl,h2⟩,h4,h5⟩
def Hp.nil:Hp:=⟨.lf,0⟩
theorem HS.nil (Z:aD) (h:∀t,Z.b t=none/\∀n,Z.s t n=none):HS Z Hp.nil []:=⟨λi x hx=>by simp[Hp.nil,Tr.jE]at hx,rfl,λt _=>h t⟩
def Ends (f:Nat) (res:AR):DR->Hp->Prop
 | .ret x,L=>∃z ns ms,bU L.e f [x]=some ([z],ns,ms)/\eqs ns/\∃y,res= .ret y/\bO z y
 | .aJ x,L=>∃z ns ms,bU L.e f [x]=some ([z],ns,ms)/\eqs ns/\∃y,res= .aJ y/\bO z y
theorem Pure.LZ {g:FuncId} {args:List AV} {res:AR} (f:Nat) (h:eK E g (args.map .d) Hp.nil (Ends f res)):Pure E.toCx g args res:=by
 have h0:=h ⟨λ_=>none,λ_ _=>none⟩ args [] (gv args) (HS.nil _ λ_=>⟨rfl,λ_=>rfl⟩);refine⟨h0.1,λF w vs hH hr=>(h0.2 F w vs hH hr).mono ?_⟩;rintro e w' ⟨r,LB,⟨Z',d,L,h1,h2,h3,h4⟩,hv,hh,hx⟩;have hA:∀b,eQ F LB (List.range LB.length) b->Al F [] b:=λb hb=>⟨hb.1,by simp[ids]⟩;have hk:∀M:List Nat,cR w' (eQ F LB M) w' (Al F []):=λM=>⟨bC _,λb _ hb=>⟨⟨hb.1,by simp[ids]⟩,rfl⟩⟩;have fin:∀{x:CV} {y:AV} {v:Value},(∃z ns ms,bU L.e f [x]=some ([z],ns,ms)/\eqs ns/\bO z y)->(∃u,aC Z' x u/\Rel w' (Al F LB) u v)->Rel w' (Al F []) y v:=by
  rintro x y v ⟨z,ns,ms,g1,g2,g3⟩ ⟨u,g4,g5⟩;obtain⟨g6,_⟩:=gM h3 hh (ms.map (·.1)) f g1 g2 (λp hp=>dk.2 ⟨p,hp,rfl⟩) (aI.one g4) (aG.one g5);exact g3 _ _ _ (g6.xP.aX (hk _))
 have hres:AR.rel w' (Al F []) res e:=by
  cases d with
  |ret x=>
   obtain⟨u,rfl,h5⟩:=h2;obtain⟨z,ns,ms,g1,g2,y,rfl,g3⟩:=h4;obtain⟨v,rfl,hv⟩:=hv;exact⟨v,rfl,fin ⟨z,ns,ms,g1,g2,g3⟩ ⟨u,h5,hv⟩⟩
  |aJ x=>
   obtain⟨u,rfl,h5⟩:=h2;obtain⟨z,ns,ms,g1,g2,y,rfl,g3⟩:=h4;obtain⟨v,rfl,hv⟩:=hv;exact⟨v,rfl,fin ⟨z,ns,ms,g1,g2,g3⟩ ⟨u,h5,hv⟩⟩
 exact⟨res,[],⟨rfl,rfl⟩,hres,hh.none,⟨hx.os,hx.tape,hx.output,hx.size,hx.block,by simp[ids],hx.drawn⟩⟩
end
def ph (P:Program) (O:TS) (L:Hp):Op->Option (CV×List (Nat×Nat))
 | .binOp .eql t x y _=>match P.underlying t,aO O x,aO O y with
  |some (.slice _),some (.os i (n+1)),some (.d (.v (.slice none 0 0)))=>match L.e.get i with
   |some (.row _ _ rows)=>some (.d (.v (.bool false)),[(n+1,rows.length)])
   |some (.gH _ rows)=>some (.d (.v (.bool false)),[(n+1,rows.length)])
   |_=>none
  |_,_,_=>none
 | .binOp .neq t x y _=>match P.underlying t,aO O x,aO O y with
  |some (.slice _),some (.os i (n+1)),some (.d (.v (.slice none 0 0)))=>match L.e.get i with
   |some (.row _ _ rows)=>some (.d (.v (.bool true)),[(n+1,rows.length)])
   |some (.gH _ rows)=>some (.d (.v (.bool true)),[(n+1,rows.length)])
   |_=>none
  |_,_,_=>none
 |_=>none
section
variable {E:Env} {N:Nat} {O:TS} {L:Hp} {o:Oper}
theorem wS {Z:aD} {s:Sl} {LB:List aj} (hs:SS Z O s) (hh:HS Z L LB) {x:Operand} {i n:Nat} (hx:aO O x=some (.os i (n+1))) {rows:List (List AV)} (hn:n+1=rows.length) (hi:(∃e k,L.e.get i=some (.row e k rows))\/∃k,L.e.get i=some (.gH k rows)):
  ∃t' a c,ev s x=some (.os t' a (n+1) c)/\∀{G:Gl} {w:World} {F:Nat->Prop},bh G w F LB->a.isNone=false:=by
 obtain⟨y,h1,h2⟩:=bR hs hx;simp only[aC]at h2;obtain⟨a,c,t',h3,rfl⟩:=h2;refine⟨t',a,c,h1,λhH=>?_⟩;rcases hi with⟨e,k,hi⟩|⟨k,hi⟩
 ·obtain⟨q,h4,h5⟩:=hh.en i _ hi;obtain⟨⟨a',c',h6,rfl⟩,_⟩:=h5;rw[<-hn,h3]at h6;cases h6;obtain⟨vs,_,h7⟩:=ie hH h4;obtain⟨_,h8|⟨g,cap,cur,h9,_⟩⟩:=h7
  ·omega
  ·cases h9;rfl
 ·obtain⟨q,h4,h5⟩:=hh.en i _ hi;obtain⟨a',c',h6,rfl⟩:=h5;rw[<-hn,h3]at h6;cases h6;have:=oG hH h4;simp only[Rel]at this;rcases this with⟨rfl,_⟩|⟨b,o,cap,vs,h1,_⟩
  ·simp at hn
  ·cases h1;rfl
theorem vX {s:Sl} {LB:List aj} {t e:TypeId} {x y:Operand} {yt:TypeId} {t':Nat} {a:Option Addr} {n c:Nat} (neg:Bool) (ho:o.op= .binOp (if neg then .neq else .eql) t x y yt) (hu:E.P.underlying t=some (.slice e)) (hx:ev s x=some (.os t' a n c)) (hy:ev s y=some (.v (.slice none 0 0)))
  (ha:∀{G:Gl} {w:World} {F:Nat->Prop},bh G w F LB->a.isNone=false):bB E.toCx N o s LB (.v (.bool neg)):=by
 refine bB.mI λF act w hst=>?_;have h1:=a8 hst.sg (show ev (look (cV s (tmpsOf o))) x=some (.os t' a n c)by rw[eV (by rw[ho];cases neg<;>simp[Op.operands])];exact hx);have h2:=a8 hst.sg (show ev (look (cV s (tmpsOf o))) y=some (.v (.slice none 0 0))by rw[eV (by rw[ho];cases neg<;>simp[Op.operands])];exact hy);simp only[Rel]at h1 h2;have h0:=ha hst.hp;refine⟨_,eX _,λw' _=>?_⟩;have h3:binOp .eql t (.slice a n c) (.slice none 0 0)=(do pure (.bool (<-Op.equal t (.slice a n c) (.slice none 0 0))):Sem Value):=rfl;have h4:binOp .neq t (.slice a n c) (.slice none 0 0)=(do pure (.bool (!(<-Op.equal t (.slice a n c) (.slice none 0 0)))):Sem Value):=rfl;cases neg
 ·simp[execOp,ho,h1,h2,eqGuard,h3,vY hu,h0]
 ·simp[execOp,ho,h1,h2,eqGuard,h4,vY hu,h0]
theorem aR.ph {x:CV} {ns:List (Nat×Nat)} (h:ph E.P O L o.op=some (x,ns)) (hn:eqs ns):aR E N o O L x:=λZ s LB hs hh=>by
 unfold Bw.ph at h;split at h
 ·rename_i t x y yt ho;split at h
  ·rename_i e i n hu hx hy;have hyy:ev s y=some (.v (.slice none 0 0)):=by
    obtain⟨z,g1,g2⟩:=bR hs hy;simp only[aC]at g2;subst g2;exact g1
   split at h
   ·rename_i e' k rows hi;simp only[ax,bZ]at h;obtain⟨rfl,rfl⟩:=h;obtain⟨t',a,c,h1,h2⟩:=wS hs hh hx hn.1 (.inl ⟨_,_,hi⟩);exact⟨_,rfl,vX false (by simpa using ho) hu h1 hyy h2⟩
   ·rename_i k rows hi;simp only[ax,bZ]at h;obtain⟨rfl,rfl⟩:=h;obtain⟨t',a,c,h1,h2⟩:=wS hs hh hx hn.1 (.inr ⟨_,hi⟩);exact⟨_,rfl,vX false (by simpa using ho) hu h1 hyy h2⟩
   ·cases h
  ·cases h
 ·rename_i t x y yt ho;split at h
  ·rename_i e i n hu hx hy;have hyy:ev s y=some (.v (.slice none 0 0)):=by
    obtain⟨z,g1,g2⟩:=bR hs hy;simp only[aC]at g2;subst g2;exact g1
   split at h
   ·rename_i e' k rows hi;simp only[ax,bZ]at h;obtain⟨rfl,rfl⟩:=h;obtain⟨t',a,c,h1,h2⟩:=wS hs hh hx hn.1 (.inl ⟨_,_,hi⟩);exact⟨_,rfl,vX true (by simpa using ho) hu h1 hyy h2⟩
   ·rename_i k rows hi;simp only[ax,bZ]at h;obtain⟨rfl,rfl⟩:=h;obtain⟨t',a,c,h1,h2⟩:=wS hs hh hx hn.1 (.inr ⟨_,hi⟩);exact⟨_,rfl,vX true (by simpa using ho) hu h1 hyy h2⟩
   ·cases h
  ·cases h
 ·cases h
