/- The abstract machine, third part: operations on own memory; handing own memory on; calls. -/
import Derived.Test.YtnocmolegijmkaaGreatKD1
set_option linter.all false
noncomputable section
namespace Go.Bw
open Go
theorem Oper.VL {P:Program} {o:Oper} {a:Act} {w:World} {K K':Act->World->Prop} {Q Q':Exit->Act->World->Prop} (h:∀a w,K a w->K' a w) (hq:∀e a w,Q e a w->Q' e a w)
  (hh:o.wp P a w K Q):o.wp P a w K' Q':=by
 unfold Oper.wp at*
 generalize (execOp a.eval o).run P w=r at*
 cases r with
 |ok n w'=>
  cases n<;>simp only[Oper.upon]at hh⊢<;>
   first
    |exact h _ _ hh
    |exact Calls.mono hh (λe w'' he=>by cases e<;>first|exact h _ _ he|exact hq _ _ _ he|exact(let⟨a,w,hz⟩:=he;⟨a,w,hq _ _ _ hz⟩))
    |exact Rows.mono hh (λ_ _ he=>h _ _ he)
 |halt x w'=>cases x<;>simp only[Oper.upon]at hh⊢<;>first|exact hh|exact hq _ _ _ hh
theorem D0 {P:Program} {ops:Array Oper} {Q Q':Exit->Act->World->Prop} (hq:∀e a w,Q e a w->Q' e a w):∀{l:List Oper} {a:Act} {w:World},wpList P ops Q l a w->wpList P ops Q' l a w
 |[],_,_,h=>hq _ _ _ h
 |o::rest,a,w,h=>by
  unfold wpList at h⊢;split
  ·rename_i hw;rw[cj hw]at h;exact h.imp (Oper.VL (λ_ _ hh=>D0 hq hh) hq) λ⟨h1,a,w,h2⟩=>⟨h1,a,w,hq _ _ _ h2⟩
  ·rename_i hw;rw[bK hw]at h;exact D0 hq h
theorem bS.mono {C:Cx} {N:Nat} {ops:Array Oper} {rest:List Oper} {Q Q':AQ} {O:Sg} {L:List au} (h:bS C N ops rest Q O L) (hq:∀e O L,Q e O L->Q' e O L):bS C N ops rest Q' O L:=λF w0 η0 a w hs hx=>
 D0 (λ_ _ _ ⟨e0,O',L',h1,h2⟩=>⟨e0,O',L',hq _ _ _ h1,h2⟩) (h F w0 η0 a w hs hx)
theorem DO.up {E:Env} {N K:Nat} {all rest:List Oper} {Q:DQ} {OB:Sg} {LB:List au} {Z Z':aH} (hl:Z.le Z') (h:bS E.toCx N all.toArray rest (lift K Z' Q) OB LB):bS E.toCx N all.toArray rest (lift K Z Q) OB LB:=
 h.mono λ_ _ _ h=>qE (hl.toK K) (λ_ _ _ h=>h) h
def Hp.push (L:Hp) (x:bl):Hp:=⟨Tr.put 24 L.e L.n (some x),L.n+1⟩
def Hp.set (L:Hp) (i:Nat) (x:bl):Hp:=⟨Tr.put 24 L.e i (some x),L.n⟩
def aH.iG (Z:aH) (t b:Nat):aH:=⟨λu=>if u=t then some b else Z.b u,Z.s⟩
def aH.a8 (Z:aH) (t n:Nat) (x:Option Addr×Nat):aH:=⟨Z.b,λu m=>if u=t/\m=n then some x else Z.s u m⟩
theorem aH.E2 {Z:aH} {t b:Nat} (h:Z.b t=none):Z.le (Z.iG t b):=⟨λu x hx=>by
 have:u≠t:=λe=>by subst e;rw[h]at hx;cases hx
 simp[aH.iG,this,hx],λ_ _ _ h=>h⟩
theorem aH.lr {Z:aH} {t n:Nat} {x:Option Addr×Nat} (h:∀y,Z.s t n=some y->y=x):Z.le (Z.a8 t n x):=⟨λ_ _ h=>h,λu m y hy=>by
 by_cases hu:u=t/\m=n
 ·obtain⟨rfl,rfl⟩:=hu;simp[aH.a8,h y hy]
 ·simp[aH.a8,hu,hy]⟩
theorem Ti {D:Type} {l r:List D} {i:Nat} {x:D} (h:nth l i=some x):nth (l++r) i=some x:=by
 rw[cw]at h⊢;rw[sC (cy.1 h).1];exact h
theorem HS.lt {Z:aH} {L:Hp} {LB:List au} (hh:HS Z L LB) {i:Nat} {x:bl} (h:L.e.get i=some x):i<L.n:=by
 obtain⟨y,h1,_⟩:=hh.en i x h;rw[cw]at h1;rw[<-hh.len];exact(cy.1 h1).1
theorem HS.push {Z Z':aH} {L:Hp} {LB:List au} (hh:HS Z L LB) (hl:Z.le Z') (hs:∀i,i≠L.n->Z'.s i=Z.s i) (hb:∀i,i≠L.n->Z'.b i=Z.b i) {x:bl} {y:au} (hx:mo Z' L.n x y):HS Z' (L.push x) (LB++[y]):=by
 refine⟨λi z hz=>?_,by simp[Hp.push,hh.len],λt ht=>?_⟩
 ·rcases Tr.fb 24 L.e L.n i _ z hz with⟨rfl,h1⟩|⟨hne,h1⟩
  ·cases h1;exact⟨y,by rw[cw,<-hh.len];simp,hx⟩
  ·obtain⟨q,h2,h3⟩:=hh.en i z h1;exact⟨q,Ti h2,h3.mono hl (hs i hne)⟩
 ·have:t≠L.n:=by simp[Hp.push]at ht;omega
  rw[hb t this,hs t this];exact hh.gV t (by simp[Hp.push]at ht;omega)
theorem HS.set {Z Z':aH} {L:Hp} {LB:List au} (hh:HS Z L LB) (hl:Z.le Z') {i:Nat} (hs:∀j,j≠i->Z'.s j=Z.s j) (hb:∀j,j≠i->Z'.b j=Z.b j) (hi:i<L.n) {x:bl} {y:au} (hx:mo Z' i x y):HS Z' (L.set i x) (LB.set i y):=by
 refine⟨λj z hz=>?_,by simp[Hp.set,hh.len],λt ht=>?_⟩
 ·rcases Tr.fb 24 L.e i j _ z hz with⟨rfl,h1⟩|⟨hne,h1⟩
  ·cases h1;exact⟨y,by rw[cw];simp[hh.len,hi],hx⟩
  ·obtain⟨q,h2,h3⟩:=hh.en j z h1;exact⟨q,by rw[cw]at h2⊢;rw[ky (jK hne)];exact h2,h3.mono hl (hs j hne)⟩
 ·have:t≠i:=by simp[Hp.set]at ht;omega
  rw[hb t this,hs t this];exact hh.gV t ht
section
variable {E:Env} {N K:Nat} {Q:DQ} {O:TS} {L:Hp} {o:Oper} {x:CV} {all rest:List Oper}
theorem DO.vh {cells:List CV} {d:Nat} (hg:o.guard=none) (hd:o.dst=some d) (hdN:Nat.blt d N=true) (h:∀Z s LB,SS Z O s->HS Z L LB->∃cs,aN Z cells cs/\fF E.toCx N o s LB cs)
  (k:DO E N K all rest Q (bY O (some d) (.own L.n 0)) (L.push (.box cells))):DO E N K all (o::rest) Q O L:=λZ OB LB hs hh=>by
 obtain⟨cs,h1,h2⟩:=h Z _ LB hs hh;refine bS.vh hg hd hdN h2 λb=>?_;have hdom:=hh.gV L.n (bU _);have hl:Z.le (Z.iG L.n b):=aH.E2 hdom.1;have hbn:(Z.iG L.n b).b L.n=some b:=by simp[aH.iG]
 refine DO.up hl (k _ _ _ ((hs.mono hl).put (some d) (by simp only[aG];exact⟨b,LB.length,hbn,rfl⟩)) ?_);exact hh.push hl (λ_ _=>rfl) (λi hi=>by simp[aH.iG,hi]) ⟨b,cs,hbn,rfl,h1.mono hl⟩
theorem Bo {t:TypeId} {p:Operand} (ho:o.op= .box t p) (hp:aV O p=some x):∀Z s LB,SS Z O s->HS Z L LB->∃cs,aN Z (dG x) cs/\fF E.toCx N o s LB cs:=λZ s LB hs _=>by
 obtain⟨y,h1,h2⟩:=b9 hs hp;exact⟨_,Ay h2,fF.box ho h1⟩
theorem AJ {t:TypeId} {td:TD} {sz by':Nat} {z:List Value} (ho:o.op= .alloc t) (ht:aY E.T t=some ⟨td,sz,by',z⟩):∀Z s LB,SS Z O s->HS Z L LB->∃cs,aN Z ((z.map .v).map .d) cs/\fF E.toCx N o s LB cs:=λ_ _ _ _ _=>
 ⟨_,ir _,fF.alloc ho ht⟩
def mq:List CV->Bool
 |[]=>true
 | .d y::r=>match eV [y]with
  |true=>mq r
  |false=>false
 | .agg _::_=>false
 | .bZ _::_=>false
 |_::r=>mq r
theorem Ue {y:AV} {r:List AV} (h:eV [y]=true) (hr:eV r=true):eV (y::r)=true:=by
 cases y<;>simp_all [eV]
theorem Eb {Z:aH}:∀{xs:List CV} {ys:List AV},mq xs=true->aN Z xs ys->eV ys=true
 |[],ys,_,h=>by simp only[aN]at h;subst h;rfl
 |x::r,ys,ho,h=>by
  simp only[aN]at h;obtain⟨y,r',rfl,h1,h2⟩:=h;have key:mq r=true->eV [y]=true->eV (y::r')=true:=λh3 h4=>Ue h4 (Eb h3 h2);cases x with
  |d z=>
   simp only[aG]at h1;subst h1;simp only[mq]at ho;split at ho
   ·rename_i h3;exact key ho h3
   ·cases ho
  |agg xs=>cases ho
  |bZ xs=>cases ho
  |own t n=>simp only[aG]at h1;obtain⟨b,t',_,rfl⟩:=h1;exact key ho rfl
  |os t n=>simp only[aG]at h1;obtain⟨a,c,t',_,rfl⟩:=h1;exact key ho rfl
  |oe t n m=>simp only[aG]at h1;obtain⟨a,c,t',_,rfl⟩:=h1;exact key ho rfl
  |om t=>simp only[aG]at h1;obtain⟨b,t',_,rfl⟩:=h1;exact key ho rfl
  |fn f fs cs=>simp only[aG]at h1;obtain⟨us,vs,rfl,_⟩:=h1;exact key ho rfl
  |bA t z=>simp only[aG]at h1;obtain⟨u,rfl,_⟩:=h1;exact key ho rfl
theorem DO.store {t:TypeId} {p v:Operand} {i off:Nat} {cs cs':List CV} {ti:TI} (hg:o.guard=none) (ho:o.op= .store t p v) (hd:o.dst=none) (hp:aV O p=some (.own i off)) (hv:aV O v=some x) (hi:L.e.get i=some (.box cs)) (ht:aY E.T t=some ti)
  (hk:Nat.beq (dG x).length ti.size=true) (h1:mq (dG x)=true) (hl:l5 cs off (dG x)=some cs') (k:DO E N K all rest Q O (L.set i (.box cs'))):DO E N K all (o::rest) Q O L:=λZ OB LB hs hh=>by
 obtain⟨y,h2,h3⟩:=b9 hs hp;simp only[aG]at h3;obtain⟨b,t',h3,rfl⟩:=h3;obtain⟨z,h4,h5⟩:=b9 hs hv;obtain⟨q,h6,h7⟩:=hh.en i _ hi;obtain⟨b',us,h8,rfl,h9⟩:=h7;rw[h3]at h8;cases h8;have hc:=Ay h5;obtain⟨us',h10,h11⟩:=Au hl h9 hc;refine bS.Rz hg hd (La ho h2 h4 h6 ht (by rw[hc.length];exact hk) (Eb h1 hc) h10) (k Z _ _ hs ?_);exact hh.set (.refl Z) (λ_ _=>rfl) (λ_ _=>rfl) (hh.lt hi) ⟨b,us',h3,rfl,h11⟩
theorem DO.qJ {t:TypeId} {p v:Operand} {i n m e kk:Nat} {rows:List (List AV)} {r r':List AV} {y:AV} {ti:TI} (j off:Nat) (hg:o.guard=none) (ho:o.op= .store t p v) (hd:o.dst=none) (hp:aV O p=some (.oe i n m)) (hv:aV O v=some (.d y)) (hi:L.e.get i=some (.row e kk rows)) (hn:n=rows.length)
  (hm:m=j*kk+off) (hr:rows[j]? =some r) (ht:aY E.T t=some ti) (hk:Nat.beq (cg y).length ti.size=true) (h1:eV (cg y)=true) (hl:fc r off (cg y)=some r') (k:DO E N K all rest Q O (L.set i (.row e kk (rows.set j r')))):DO E N K all (o::rest) Q O L:=λZ OB LB hs hh=>by
 obtain⟨z,h2,h3⟩:=b9 hs hp;simp only[aG]at h3;obtain⟨a,c,t',h3,rfl⟩:=h3;obtain⟨z,h4,h5⟩:=b9 hs hv;simp only[aG]at h5;subst h5;obtain⟨q,h6,h7⟩:=hh.en i _ hi;obtain⟨⟨a',c',h8,rfl⟩,h9⟩:=h7;subst hn;rw[h3]at h8;cases h8;refine bS.Rz hg hd (Kg ho j off h2 hm h4 h6 hr ht hk h1 hl) (k Z _ _ hs ?_);exact hh.set (.refl Z) (λ_ _=>rfl) (λ_ _=>rfl) (hh.lt hi) ⟨⟨a,c,by simpa using h3,by simp⟩,by simpa using h9⟩
theorem DO.lit {d n:Nat} {t:TypeId} {parts:Array (Nat×Operand)} {ty:TypeId} {pos:String} {after:Array Edge} {e k sz by' sz' by'':Nat} {z z':List Value} {td':TD} {cells:List AV}
  (ht:aY E.T t=some ⟨.slice e k,sz,by',z⟩) (hte:aY E.T e=some ⟨td',sz',by'',z'⟩) (hf:eK k (ee O) (gK n (z'.map .v)) parts.toList=some cells) (hb:Nat.ble (n*k) 16777216=true) (hk:Nat.ble 1 k=true) (hd:Nat.blt d N=true)
  (kk:DO E N K all rest Q (bY O (some d) (.os L.n n)) (L.push (.row e k (chunk n k cells)))):DO E N K all (⟨some d,.buildSlice t n parts,ty,pos,after,none⟩::rest) Q O L:=λZ OB LB hs hh=>by
 have hf':eK k (look OB) (gK n (z'.map .v)) parts.toList=some cells:=by
  have key:∀(l:List (Nat×Operand)) (cs r:List AV),eK k (ee O) cs l=some r->eK k (look OB) cs l=some r:=by
   intro l
   induction l with
   |nil=>intro cs r h;exact h
   |cons p l ih=>
    intro cs r h;obtain⟨i,p⟩:=p;simp only[eK]at h⊢;split at h
    ·rename_i y hy;have hy':ev (look OB) p=some y:=by
      cases p with
      |tmp u=>exact kL hs hy
      |const v=>exact hy
      |global g=>exact hy
      |func f=>exact hy
     simp only[hy'];split at h
     ·rename_i c1 h1 h2;exact ih _ _ h
     ·cases h
    ·cases h
  exact key _ _ _ hf
 refine bS.lit ht hte hf' hb hk hd λb=>?_;have hdom:=hh.gV L.n (bU _);have hl:Z.le (Z.a8 L.n n (some ⟨b,0,none⟩,n)):=aH.lr λy hy=>by rw[hdom.2]at hy;cases hy
 have hbn:(Z.a8 L.n n (some ⟨b,0,none⟩,n)).s L.n n=some (some ⟨b,0,none⟩,n):=by simp[aH.a8]
 refine DO.up hl (kk _ _ _ ((hs.mono hl).put (some d) (by simp only[aG];exact⟨_,_,LB.length,hbn,rfl⟩)) ?_);refine hh.push hl (λi hi=>by funext m;simp[aH.a8,hi]) (λ_ _=>rfl) ⟨⟨some ⟨b,0,none⟩,n,by rw[gA];exact hbn,by rw[gA]⟩,λm hm=>?_⟩;rw[gA]at hm;have:m≠n:=by omega
 simp only[aH.a8,this,and_false,if_false];exact hdom.2 m
theorem DO.iS (t e k:Nat) (ht:O.get t=some (.d (.v (.slice none 0 0)))) (kk:DO E N K all rest Q (Tr.put 24 O t (some (.os L.n 0))) (L.push (.row e k []))):DO E N K all rest Q O L:=λZ OB LB hs hh=>by
 obtain⟨y,h1,h2⟩:=hs t _ ht;simp only[aG]at h2;subst h2;refine bS.iS t e k h1 ?_;have hdom:=hh.gV L.n (bU _);have hl:Z.le (Z.a8 L.n 0 (none,0)):=aH.lr λy hy=>by rw[hdom.2]at hy;cases hy
 have hbn:(Z.a8 L.n 0 (none,0)).s L.n 0=some (none,0):=by simp[aH.a8]
 refine DO.up hl (kk _ _ _ ((hs.mono hl).put (some t) (by simp only[aG];exact⟨_,_,LB.length,hbn,rfl⟩)) ?_);refine hh.push hl (λi hi=>by funext m;simp[aH.a8,hi]) (λ_ _=>rfl) ⟨⟨none,0,by simpa using hbn,by simp⟩,λm hm=>?_⟩;have:m≠0:=by simp at hm;omega
 simp only[aH.a8,this,and_false,if_false];exact hdom.2 m
inductive lF (E:Env) (O:TS) (L:Hp) (k:Nat):Operand->List (List AV)->Prop where
 |sl {p:Operand} {rows:List (List AV)}:aV O p=some (.d (.sl k rows))->lF E O L k p rows
 |CP {p:Operand} {x:AV} {rows:List (List AV)}:aV O p=some (.d x)->(∀w A v,Rel w A x v->Rel w A (.sl k rows) v)->lF E O L k p rows
 |nil {p:Operand}:aV O p=some (.d (.v (.slice none 0 0)))->lF E O L k p []
 |row {p:Operand} {j n e:Nat} {rows:List (List AV)}:aV O p=some (.os j n)->L.e.get j=some (.row e k rows)->n=rows.length->lF E O L k p rows
 |fz {p:Operand} {j n:Nat} {rows:List (List AV)}:aV O p=some (.os j n)->L.e.get j=some (.iL k rows)->n=rows.length->lF E O L k p rows
theorem lF.ok {Z:aH} {OB:Sg} {LB:List au} (hs:SS Z O (look OB)) (hh:HS Z L LB) {k:Nat} {p:Operand} {rows:List (List AV)} (h:lF E O L k p rows):∀F a w,St E.G N w F a OB LB->jq w (Al F LB) k (a.eval p) rows:=λF a w hst=>by
 cases h with
 |sl h=>
  obtain⟨y,h1,h2⟩:=b9 hs h;simp only[aG]at h2;subst h2;exact jq.sl (bq hst.sg h1)
 |CP h hI=>
  obtain⟨y,h1,h2⟩:=b9 hs h;simp only[aG]at h2;subst h2;exact jq.sl (hI _ _ _ (bq hst.sg h1))
 |nil h=>
  obtain⟨y,h1,h2⟩:=b9 hs h;simp only[aG]at h2;subst h2;have:=bq hst.sg h1;simp only[Rel]at this;rw[this];exact⟨none,0,0,[],rfl,rfl,by simp[bz],λ_=>rfl,λ_ h=>by cases h⟩
 |row h h3 hn=>
  obtain⟨y,h1,h2⟩:=b9 hs h;simp only[aG]at h2;obtain⟨a',c,t',h4,rfl⟩:=h2;obtain⟨q,h5,h6⟩:=hh.en _ _ h3;obtain⟨⟨a2,c2,h7,rfl⟩,_⟩:=h6;subst hn;rw[h4]at h7;cases h7;have:=bq hst.sg h1;simp only[Rel]at this;rw[this];exact jq.row (ji hst.hp h5)
 |fz h h3 hn=>
  obtain⟨y,h1,h2⟩:=b9 hs h;simp only[aG]at h2;obtain⟨a',c,t',h4,rfl⟩:=h2;obtain⟨q,h5,h6⟩:=hh.en _ _ h3;obtain⟨a2,c2,h7,rfl⟩:=h6;subst hn;rw[h4]at h7;cases h7;have:=bq hst.sg h1;simp only[Rel]at this;rw[this];exact jq.sl (qP hst.hp h5)
theorem DO.append {i d n:Nat} {s p:Operand} {t:TypeId} {ty:TypeId} {pos:String} {after:Array Edge} {e k sz by' sz' by'':Nat} {z z':List Value} {td':TD} {rows rows2:List (List AV)}
  (hb:(rows++rows2).length*by''<=140737488355328) (hs':aV O s=some (.os i n)) (hi:L.e.get i=some (.row e k rows)) (hn:n=rows.length) (hx:lF E O L k p rows2) (ht:aY E.T t=some ⟨.slice e k,sz,by',z⟩) (hte:aY E.T e=some ⟨td',sz',by'',z'⟩) (h1:gC rows2=true)
  (hk:Nat.ble 1 k=true) (hby:Nat.ble 1 by''=true) (hd:Nat.blt d N=true)
  (kk:DO E N K all rest Q (bY O (some d) (.os i (rows++rows2).length)) (L.set i (.row e k (rows++rows2)))):
  DO E N K all (⟨some d,.call {callee:= .builtin .append,args:= #[s,p],argTypes:= #[t,t]},ty,pos,after,none⟩::rest) Q O L:=λZ OB LB hs hh=>by
 obtain⟨y,h2,h3⟩:=b9 hs hs';simp only[aG]at h3;obtain⟨a,c,t',h3,rfl⟩:=h3;obtain⟨q,h6,h7⟩:=hh.en i _ hi;obtain⟨⟨a',c',h8,rfl⟩,h9⟩:=h7;subst hn;rw[h3]at h8;cases h8;refine bS.CT rfl hd (KI rfl ht hte h2 h6 (hx.ok hs hh) h1 hk hby hb) ?_;rintro r L' ⟨a',c',h0,rfl,rfl⟩;have hl:Z.le (Z.a8 i (rows++rows2).length (a',c')):=aH.lr λy hy=>by
  by_cases hz:rows2=[]
  ·subst hz;simp only[jd]at hy;rw[h3]at hy;cases hy;obtain⟨rfl,rfl⟩:=h0 rfl;rfl
  ·have:rows.length<(rows++rows2).length:=by
    have:=Ak.2 hz;simp;omega
   rw[h9 _ this]at hy;cases hy
 have hbn:(Z.a8 i (rows++rows2).length (a',c')).s i (rows++rows2).length=some (a',c'):=by simp[aH.a8]
 refine DO.up hl (kk _ _ _ ((hs.mono hl).put (some d) (by simp only[aG];exact⟨_,_,i,hbn,rfl⟩)) ?_);refine hh.set hl (λj hj=>by funext m;simp[aH.a8,hj]) (λ_ _=>rfl) (hh.lt hi) ⟨⟨a',c',hbn,rfl⟩,λm hm=>?_⟩
 have hne:m≠(rows++rows2).length:=by omega
 simp only[aH.a8,hne,and_false,if_false];exact h9 m (by simp at hm;omega)
theorem DO.E0 {i d n:Nat} {s p:Operand} {t u:TypeId} {ty:TypeId} {pos:String} {after:Array Edge} {e k sz by' sz' by'' szu byu:Nat} {z z' zu:List Value} {td':TD} {rows:List (List AV)} {b:ByteArray}
  (hb:(rows++dk b).length*by''<=140737488355328) (hs':aV O s=some (.os i n)) (hi:L.e.get i=some (.row e k rows)) (hn:n=rows.length) (hx:aV O p=some (.d (.v (.string b)))) (ht:aY E.T t=some ⟨.slice e k,sz,by',z⟩) (hu:aY E.T u=some ⟨.str,szu,byu,zu⟩) (hte:aY E.T e=some ⟨td',sz',by'',z'⟩)
  (hk:Nat.beq k 1=true) (hby:Nat.beq by'' 1=true) (hd:Nat.blt d N=true)
  (kk:DO E N K all rest Q (bY O (some d) (.os i (rows++dk b).length)) (L.set i (.row e k (rows++dk b)))):
  DO E N K all (⟨some d,.call {callee:= .builtin .append,args:= #[s,p],argTypes:= #[t,u]},ty,pos,after,none⟩::rest) Q O L:=λZ OB LB hs hh=>by
 obtain⟨y,h2,h3⟩:=b9 hs hs';simp only[aG]at h3;obtain⟨a,c,t',h3,rfl⟩:=h3;obtain⟨y2,g2,g3⟩:=b9 hs hx;simp only[aG]at g3;subst g3;obtain⟨q,h6,h7⟩:=hh.en i _ hi;obtain⟨⟨a',c',h8,rfl⟩,h9⟩:=h7;subst hn;rw[h3]at h8;cases h8;refine bS.CT rfl hd (Kq rfl ht hu hte h2 h6 g2 hk hby hb) ?_;rintro r L' ⟨a',c',h0,rfl,rfl⟩;have hl:Z.le (Z.a8 i (rows++dk b).length (a',c')):=aH.lr λy hy=>by
  by_cases hz:dk b=[]
  ·rw[hz]at hy;simp only[jd]at hy;rw[h3]at hy;cases hy;obtain⟨rfl,rfl⟩:=h0 hz;rfl
  ·have:rows.length<(rows++dk b).length:=by
    have:=Ak.2 hz;simp;omega
   rw[h9 _ this]at hy;cases hy
 have hbn:(Z.a8 i (rows++dk b).length (a',c')).s i (rows++dk b).length=some (a',c'):=by simp[aH.a8]
 refine DO.up hl (kk _ _ _ ((hs.mono hl).put (some d) (by simp only[aG];exact⟨_,_,i,hbn,rfl⟩)) ?_);refine hh.set hl (λj hj=>by funext m;simp[aH.a8,hj]) (λ_ _=>rfl) (hh.lt hi) ⟨⟨a',c',hbn,rfl⟩,λm hm=>?_⟩
 have hne:m≠(rows++dk b).length:=by omega
 simp only[aH.a8,hne,and_false,if_false];exact h9 m (by simp at hm;omega)
theorem DO.make {d:Nat} {t:TypeId} {p q:Operand} {ty:TypeId} {pos:String} {after:Array Edge} {e k sz by' sz' by'':Nat} {z z':List Value} {td':TD} {kl kc:IntKind} {li ci:Int} (l c:Nat)
  (hb:c*by''<=140737488355328) (hl:l<=c) (hx:aV O p=some (.d (.v (.int kl li)))) (hli:li=(l:Int)) (hy:aV O q=some (.d (.v (.int kc ci)))) (hci:ci=(c:Int)) (ht:aY E.T t=some ⟨.slice e k,sz,by',z⟩) (hte:aY E.T e=some ⟨td',sz',by'',z'⟩)
  (hk:Nat.ble 1 k=true) (hby:Nat.ble 1 by''=true) (hd:Nat.blt d N=true)
  (kk:DO E N K all rest Q (bY O (some d) (.os L.n l)) (L.push (.row e k (List.replicate l (z'.map .v))))):DO E N K all (⟨some d,.makeSlice t p q,ty,pos,after,none⟩::rest) Q O L:=λZ OB LB hs hh=>by
 obtain⟨y1,h2,h3⟩:=b9 hs hx;simp only[aG]at h3;subst h3;obtain⟨y1,h4,h5⟩:=b9 hs hy;simp only[aG]at h5;subst h5;refine bS.make l c hb hl h2 hli h4 hci ht hte hk hby hd λb=>?_;have hdom:=hh.gV L.n (bU _);have hle:Z.le (Z.a8 L.n l (some ⟨b,0,none⟩,c)):=aH.lr λy hy=>by rw[hdom.2]at hy;cases hy
 have hbn:(Z.a8 L.n l (some ⟨b,0,none⟩,c)).s L.n l=some (some ⟨b,0,none⟩,c):=by simp[aH.a8]
 refine DO.up hle (kk _ _ _ ((hs.mono hle).put (some d) (by simp only[aG];exact⟨_,_,LB.length,hbn,rfl⟩)) ?_);refine hh.push hle (λi hi=>by funext m;simp[aH.a8,hi]) (λ_ _=>rfl) ⟨⟨some ⟨b,0,none⟩,c,by simpa using hbn,by simp⟩,λm hm=>?_⟩;have:m≠l:=by simp at hm;omega
 simp only[aH.a8,this,and_false,if_false];exact hdom.2 m
end
def eqs:List (Nat×Nat)->Prop
 |[]=>True
 |p::r=>p.1=p.2/\eqs r
theorem mS:∀{l r:List (Nat×Nat)},eqs (l++r)->eqs l/\eqs r
 |[],_,h=>⟨trivial,h⟩
 |_::_,_,h=>⟨⟨h.1,(mS h.2).1⟩,(mS h.2).2⟩
def cd (e:Tr bl):Nat->List CV->Option (List AV×List (Nat×Nat)×List (Nat×bl))
 |0,_=>none
 |_+1,[]=>some ([],[],[])
 |f+1,x::r=>match cd e f r with
  |none=>none
  |some (zs,ns,ms)=>match x with
   | .d y=>some (y::zs,ns,ms)
   | .agg ys=>match cd e f ys with
    |some (us,ns',ms')=>some (.agg us::zs,ns'++ns,ms'++ms)
    |none=>none
   | .bZ ys=>match cd e f ys with
    |some (us,ns',ms')=>some (.bZ us::zs,ns'++ns,ms'++ms)
    |none=>none
   | .own t o=>match e.get t with
    |some (.box cs)=>match cd e f cs with
     |some (us,ns',ms')=>some (.ip (us.drop o)::zs,ns'++ns,(t,.lO us)::(ms'++ms))
     |none=>none
    |some (.lO us)=>some (.ip (us.drop o)::zs,ns,ms)
    |_=>none
   | .os t n=>match e.get t with
    |some (.row _ k rows)=>some (.sl k rows::zs,(n,rows.length)::ns,(t,.iL k rows)::ms)
    |some (.iL k rows)=>some (.sl k rows::zs,(n,rows.length)::ns,ms)
    |_=>none
   | .fn g fs cs=>match cd e f fs,cd e f cs with
    |some (us,ns1,ms1),some (vs,ns2,ms2)=>some (.fn g us vs::zs,ns1++(ns2++ns),ms1++(ms2++ms))
    |_,_=>none
   | .bA t y=>match cd e f [y]with
    |some ([u],ns',ms')=>some (.bA t u::zs,ns'++ns,ms'++ms)
    |_=>none
   | .oe _ _ _=>none
   | .om _=>none
def fE (F:Nat->Prop) (LB:List au) (M:List Nat) (b:Nat):Prop:=¬F b/\∀i y,nth LB i=some y->i∉M->b∉y.ids
theorem NX {F:Nat->Prop} {LB:List au} (M:List Nat) {b:Nat} (h:Al F LB b):fE F LB M b:=
 ⟨h.1,λi y hy _ hb=>h.2 (eH.2 ⟨y,bh (by rw[<-cw];exact hy),hb⟩)⟩
theorem A6 {w:World} {F:Nat->Prop} {LB:List au} (M:List Nat):dm w (Al F LB) w (fE F LB M):=⟨bU _,λ_ _ h=>⟨NX M h,rfl⟩⟩
theorem Kh:∀{l:List au} {i j:Nat} {x y:au} {b:Nat},(ids l).Nodup->nth l i=some x->nth l j=some y->i≠j->b∈x.ids->b∉y.ids
 |[],_,_,_,_,_,_,h,_,_,_=>by simp[nth]at h
 |z::l,0,0,_,_,_,_,_,_,hne,_=>absurd rfl hne
 |z::l,0,j+1,x,y,b,hnd,hi,hj,_,hb=>λhy=>by
  rw[cJ,nV]at hnd;simp only[nth,aE]at hi hj;subst hi;exact hnd.2.2 b hb b (eH.2 ⟨y,bh (by rw[<-cw];exact hj),hy⟩) rfl
 |z::l,i+1,0,x,y,b,hnd,hi,hj,_,hb=>λhy=>by
  rw[cJ,nV]at hnd;simp only[nth,aE]at hi hj;subst hj;exact hnd.2.2 b hy b (eH.2 ⟨x,bh (by rw[<-cw];exact hi),hb⟩) rfl
 |z::l,i+1,j+1,x,y,b,hnd,hi,hj,hne,hb=>by
  rw[cJ,nV]at hnd;simp only[nth]at hi hj;exact Kh hnd.2.1 hi hj (λe=>hne (by rw[e])) hb
theorem Oc {G:Gl} {w:World} {F:Nat->Prop} {LB:List au} {M:List Nat} (hH:bI G w F LB) {i:Nat} {x:au} {b:Nat} (hi:nth LB i=some x) (hM:i∈M) (hb:b∈x.ids):fE F LB M b:=by
 refine⟨hH.free b (eH.2 ⟨x,bh (by rw[<-cw];exact hi),hb⟩),λj y hj hjM=>?_⟩;exact Kh hH.nodup hi hj (λe=>hjM (e▸hM)) hb
def rN (Z:aH) (w:World) (A:Nat->Prop):Nat×bl->Prop
 |(t,.lO us)=>∃b,Z.b t=some b/\Rel w A (.ip us) (.pointer (some ⟨b,0,none⟩))
 |(t,.iL k rows)=>∃a c,Z.s t rows.length=some (a,c)/\Rel w A (.sl k rows) (.slice a rows.length c)
 |_=>False
section
variable {Z:aH} {L:Hp} {LB:List au} {w:World} {F:Nat->Prop} {G:Gl}
theorem WI {M:List Nat} (hH:bI G w F LB) {i:Nat} {v:Value} {e k:Nat} {rows:List (List AV)} (hi:nth LB i=some (.row v e k rows)) (hM:i∈M):Rel w (fE F LB M) (.sl k rows) v:=by
 obtain⟨vs,h1,h2,h3⟩:=ji hH hi;simp only[Rel];rcases h3 with⟨rfl,h0⟩|⟨g,cap,cur,rfl,_,hg,hn,hcm,hcs,htake⟩
 ·exact .inl ⟨mP h0,_,_,rfl⟩
 ·refine .inr ⟨g,0,cap,vs,rfl,⟨(lS.1 hg).1,Oc hH hi hM (by simp[au.ids,Value.ownBlock])⟩,hn,hcm,h1.bo (A6 M),λj u hj=>?_⟩;rw[<-htake,lV]at hj;split at hj
  ·rw[oZ];simp[World.cell?,hg];simpa using hj
  ·cases hj
theorem iQ (hh:HS Z L LB) (hH:bI G w F LB) (M:List Nat):∀(f:Nat) {xs:List CV} {zs:List AV} {ns:List (Nat×Nat)} {ms:List (Nat×bl)} {ys:List AV} {vs:List Value},cd L.e f xs=some (zs,ns,ms)->eqs ns->(∀p∈ms,p.1∈M)->
  aN Z xs ys->aJ w (Al F LB) ys vs->aJ w (fE F LB M) zs vs/\∀p∈ms,rN Z w (fE F LB M) p
 |0,_,_,_,_,_,_,h,_,_,_,_=>by simp[cd]at h
 |f+1,[],zs,ns,ms,ys,vs,h,_,_,hi,hr=>by
  simp only[cd,aE,ck]at h;obtain⟨rfl,rfl,rfl⟩:=h;simp only[aN]at hi;subst hi;simp only[aJ]at hr;subst hr;exact⟨by simp[aJ],by simp⟩
 |f+1,x::r,zs,ns,ms,ys,vs,h,hn,hM,hi,hr=>by
  simp only[aN]at hi;obtain⟨y,ys,rfl,hy,hi⟩:=hi;simp only[aJ]at hr;obtain⟨v,vs,rfl,hv,hr⟩:=hr;simp only[cd]at h;split at h
  ·cases h
  ·rename_i aD ns0 ms0 h0;have tail:∀{z:AV} {ms':List (Nat×bl)},eqs ns0->(∀p∈ms0,p.1∈M)->Rel w (fE F LB M) z v->(∀p∈ms',rN Z w (fE F LB M) p)->aJ w (fE F LB M) (z::aD) (v::vs)/\∀p∈ms'++ms0,rN Z w (fE F LB M) p:=by
    intro z ms' hn' hM' hz hm;obtain⟨h1,h2⟩:=iQ hh hH M f h0 hn' hM' hi hr;refine⟨by simp only[aJ];exact⟨_,_,rfl,hz,h1⟩,λp hp=>?_⟩;rcases cL.1 hp with hp|hp
    ·exact hm p hp
    ·exact h2 p hp
   cases x with
   |d z=>
    simp only[aE,ck]at h;obtain⟨rfl,rfl,rfl⟩:=h;simp only[aG]at hy;subst hy;simpa using tail (ms':=[]) hn hM (hv.bo (A6 M)) (by simp)
   |agg ks=>
    simp only at h;split at h
    ·rename_i us ns' ms' h1;simp only[aE,ck]at h;obtain⟨rfl,rfl,rfl⟩:=h;simp only[aG]at hy;obtain⟨ws,rfl,hy⟩:=hy;simp only[Rel]at hv;obtain⟨qs,rfl,hv⟩:=hv;obtain⟨g1,g2⟩:=mS hn;obtain⟨h2,h3⟩:=iQ hh hH M f h1 g1 (λp hp=>hM p (by simp[hp])) hy hv;exact tail g2 (λp hp=>hM p (by simp[hp])) (by simp only[Rel];exact⟨qs,rfl,h2⟩) h3
    ·cases h
   |bZ ks=>
    simp only at h;split at h
    ·rename_i us ns' ms' h1;simp only[aE,ck]at h;obtain⟨rfl,rfl,rfl⟩:=h;simp only[aG]at hy;obtain⟨ws,rfl,hy⟩:=hy;simp only[Rel]at hv;obtain⟨qs,rfl,hv⟩:=hv;obtain⟨g1,g2⟩:=mS hn;obtain⟨h2,h3⟩:=iQ hh hH M f h1 g1 (λp hp=>hM p (by simp[hp])) hy hv;exact tail g2 (λp hp=>hM p (by simp[hp])) (by simp only[Rel];exact⟨qs,rfl,h2⟩) h3
    ·cases h
   |own t off=>
    simp only[aG]at hy;obtain⟨b,t',hb,rfl⟩:=hy;simp only[Rel]at hv;subst hv;simp only at h;split at h
    ·rename_i cs hcs;split at h
     ·rename_i us ns' ms' h1;simp only[aE,ck]at h;obtain⟨rfl,rfl,rfl⟩:=h;obtain⟨q,hq1,hq2⟩:=hh.en t _ hcs;obtain⟨b',ws,hb',rfl,hws⟩:=hq2;rw[hb]at hb';cases hb';obtain⟨e,qs,hheap,hqs⟩:=ji hH hq1;obtain⟨g1,g2⟩:=mS hn;have htM:t∈M:=hM (t,.lO us) (by simp);obtain⟨h2,h3⟩:=iQ hh hH M f h1 g1 (λp hp=>hM p (by simp[hp])) hws hqs;have hip:Rel w (fE F LB M) (.ip us) (.pointer (some ⟨b,0,none⟩)):=by
       simp only[Rel];exact⟨b,0,qs,rfl,⟨(lS.1 hheap).1,Oc hH hq1 htM (by simp[au.ids])⟩,h2,λj u hj=>by rw[oZ];exact sG hheap j u hj⟩
      have:=tail (ms':=(t,.lO us)::ms') g2 (λp hp=>hM p (by simp[hp])) (hip.Fq off) (λp hp=>by
       rcases cu.1 hp with rfl|hp
       ·exact⟨b,hb,hip⟩
       ·exact h3 p hp)
      simpa using this
     ·cases h
    ·rename_i us hcs;simp only[aE,ck]at h;obtain⟨rfl,rfl,rfl⟩:=h;obtain⟨q,hq1,hq2⟩:=hh.en t _ hcs;obtain⟨b',hb',rfl⟩:=hq2;rw[hb]at hb';cases hb';have:=tail (ms':=[]) hn hM (((qP hH hq1).bo (A6 M)).Fq off) (by simp);simpa using this
    ·cases h
   |os t n=>
    simp only[aG]at hy;obtain⟨a,c,t',hb,rfl⟩:=hy;simp only[Rel]at hv;subst hv;simp only at h;split at h
    ·rename_i e k rows hcs;simp only[aE,ck]at h;obtain⟨rfl,rfl,rfl⟩:=h;obtain⟨q,hq1,hq2⟩:=hh.en t _ hcs;obtain⟨⟨a',c',hb',rfl⟩,_⟩:=hq2;have hnl:n=rows.length:=hn.1;subst hnl;rw[hb]at hb';cases hb';have hsl:=WI (M:=M) hH hq1 (hM (t,.iL k rows) (by simp));have:=tail (ms':=[(t,.iL k rows)]) hn.2 (λp hp=>hM p (by simp[hp])) hsl (λp hp=>by
      simp only[oX]at hp;subst hp;exact⟨a,c,hb,hsl⟩)
     simpa using this
    ·rename_i k rows hcs;simp only[aE,ck]at h;obtain⟨rfl,rfl,rfl⟩:=h;obtain⟨q,hq1,hq2⟩:=hh.en t _ hcs;obtain⟨a',c',hb',rfl⟩:=hq2;have hnl:n=rows.length:=hn.1;subst hnl;rw[hb]at hb';cases hb';have:=tail (ms':=[]) hn.2 hM ((qP hH hq1).bo (A6 M)) (by simp);simpa using this
    ·cases h
   |fn g fs cs=>
    simp only at h;split at h
    ·rename_i us ns1 ms1 us2 ns2 ms2 h1 h2;simp only[aE,ck]at h;obtain⟨rfl,rfl,rfl⟩:=h;simp only[aG]at hy;obtain⟨ws,ws2,rfl,hy,hy2⟩:=hy;simp only[Rel]at hv;obtain⟨qs,qs2,rfl,hv,hv2⟩:=hv;obtain⟨g1,g2⟩:=mS hn;obtain⟨g2,g3⟩:=mS g2;obtain⟨h3,h4⟩:=iQ hh hH M f h1 g1 (λp hp=>hM p (by simp[hp])) hy hv;obtain⟨h5,h6⟩:=iQ hh hH M f h2 g2 (λp hp=>hM p (by simp[hp])) hy2 hv2;have:=tail (ms':=ms1++ms2) g3 (λp hp=>hM p (by simp[hp])) (z:= .fn g us us2) (by simp only[Rel];exact⟨qs,qs2,rfl,h3,h5⟩) (λp hp=>by
      rcases cL.1 hp with hp|hp
      ·exact h4 p hp
      ·exact h6 p hp)
     simpa using this
    ·cases h
   |bA t k=>
    simp only at h;split at h
    ·rename_i u ns' ms' h1;simp only[aE,ck]at h;obtain⟨rfl,rfl,rfl⟩:=h;simp only[aG]at hy;obtain⟨z,rfl,hy⟩:=hy;simp only[Rel]at hv;obtain⟨q,rfl,hv⟩:=hv;obtain⟨g1,g2⟩:=mS hn;obtain⟨h2,h3⟩:=iQ hh hH M f (ys:=[z]) (vs:=[q]) h1 g1 (λp hp=>hM p (by simp[hp])) (by simp only[aN];exact⟨_,_,rfl,hy,rfl⟩) (by simp only[aJ];exact⟨_,_,rfl,hv,rfl⟩);simp only[aJ]at h2;obtain⟨q',_,h4,h5,rfl⟩:=h2;cases h4;exact tail g2 (λp hp=>hM p (by simp[hp])) (by simp only[Rel];exact⟨q,rfl,h5⟩) h3
    ·cases h
   |oe t n off=>cases h
   |om t=>cases h
end
def iR:List (Nat×bl)->Hp->Hp
 |[],L=>L
 |(t,e)::r,L=>(iR r L).set t e
def w5 (Z:aH) (t:Nat):bl->au
 | .lO us=> .fact (.ip us) (.pointer (some ⟨(Z.b t).getD 0,0,none⟩))
 | .iL k rows=> .fact (.sl k rows) (.slice ((Z.s t rows.length).getD (none,0)).1 rows.length ((Z.s t rows.length).getD (none,0)).2)
 |_=> .gone
def eM (Z:aH):List (Nat×bl)->List au->List au
 |[],l=>l
 |(t,e)::r,l=>(eM Z r l).set t (w5 Z t e)
theorem Tt {Z:aH}:∀(ms:List (Nat×bl)) (l:List au),(eM Z ms l).length=l.length
 |[],_=>rfl
 |(t,e)::r,l=>by simp[eM,Tt r l]
theorem KJ {Z:aH} {t:Nat} {e:bl}:(w5 Z t e).ids=[]:=by cases e<;>rfl
theorem Kr {x:au} (hx:x.ids=[]):∀(l:List au) (i:Nat),(ids (l.set i x)).Sublist (ids l)
 |[],_=>by simp
 |y::l,0=>by simp only[JT,cJ,hx,Am];exact ace _ _
 |y::l,i+1=>by simp only[vI,cJ];exact acf (JX _) (Kr hx l i)
theorem v7 {Z:aH}:∀(ms:List (Nat×bl)) (l:List au),(ids (eM Z ms l)).Sublist (ids l)
 |[],_=>JX _
 |(t,e)::r,l=>(Kr KJ _ _).trans (v7 r l)
theorem Ep {Z:aH}:∀(ms:List (Nat×bl)) (l:List au) (i:Nat) (x:au),nth (eM Z ms l) i=some x->(nth l i=some x/\i∉ms.map (·.1))\/∃e,(i,e)∈ms/\x=w5 Z i e
 |[],_,_,_,h=> .inl ⟨h,by simp⟩
 |(t,e)::r,l,i,x,h=>by
  simp only[eM]at h;by_cases hti:t=i
  ·subst hti;rw[cw]at h;have hlt:t<(eM Z r l).length:=by
    have:=(cy.1 h).1;simpa using this
   rw[mQ hlt]at h;cases h;exact .inr ⟨e,by simp,rfl⟩
  ·rw[cw,ky hti,<-cw]at h;rcases Ep r l i x h with⟨h1,h2⟩|⟨e',h1,h2⟩
   ·exact .inl ⟨h1,by simp only[dY,cu,not_or];exact⟨λe=>hti e.symm,h2⟩⟩
   ·exact .inr ⟨e',by simp[h1],h2⟩
section
variable {Z:aH} {L:Hp} {LB:List au} {w:World} {F:Nat->Prop} {G:Gl}
theorem UX {ms:List (Nat×bl)} {b:Nat} (h:fE F LB (ms.map (·.1)) b):Al F (eM Z ms LB) b:=by
 refine⟨h.1,λhb=>?_⟩;obtain⟨x,hx,hb⟩:=eH.1 hb;obtain⟨i,hi⟩:=fR hx;rw[<-cw]at hi;rcases Ep ms LB i x hi with⟨h1,h2⟩|⟨e,_,rfl⟩
 ·exact h.2 i x h1 h2 hb
 ·rw[KJ]at hb;cases hb
theorem sQ {ms:List (Nat×bl)}:dm w (fE F LB (ms.map (·.1))) w (Al F (eM Z ms LB)):=⟨bU _,λ_ _ h=>⟨UX h,rfl⟩⟩
theorem A5 (hH:bI G w F LB) {ms:List (Nat×bl)} (hm:∀p∈ms,rN Z w (fE F LB (ms.map (·.1))) p):bI G w F (eM Z ms LB):=by
 refine hH.facts (v7 ms LB) λx hx=>?_;obtain⟨i,hi⟩:=fR hx;rw[<-cw]at hi;rcases Ep ms LB i x hi with⟨h1,_⟩|⟨e,h1,rfl⟩
 ·exact .inl (bh (by rw[<-cw];exact h1))
 ·right;have h2:=hm _ h1;cases e<;>first|exact h2.elim|skip
  ·obtain⟨b,h3,h4⟩:=h2;exact⟨_,_,rfl,by simp only[h3,S2];exact h4.bo sQ⟩
  ·obtain⟨a,c,h3,h4⟩:=h2;exact⟨_,_,rfl,by simp only[h3,S2];exact h4.bo sQ⟩
theorem L2:∀(ms:List (Nat×bl)) (L:Hp),(iR ms L).n=L.n
 |[],_=>rfl
 |(t,e)::r,L=>by simp[iR,Hp.set,L2 r L]
theorem AO (hh:HS Z L LB):∀{ms:List (Nat×bl)},(∀p∈ms,p.1<L.n/\rN Z w F p)->HS Z (iR ms L) (eM Z ms LB)
 |[],_=>hh
 |(t,e)::r,hm=>by
  have ih:=AO (ms:=r) hh λp hp=>hm p (by simp[hp]);obtain⟨h1,h2⟩:=hm (t,e) (by simp);refine ih.set (.refl Z) (λ_ _=>rfl) (λ_ _=>rfl) (by rw[L2];exact h1) ?_
  cases e<;>first|exact h2.elim|skip
  ·obtain⟨b,h3,_⟩:=h2;exact⟨b,h3,by simp[w5,h3]⟩
  ·obtain⟨a,c,h3,_⟩:=h2;exact⟨a,c,h3,by simp[w5,h3]⟩
theorem rN.lt (hh:HS Z L LB) {A:Nat->Prop} {p:Nat×bl} (h:rN Z w A p):p.1<L.n:=by
 obtain⟨t,e⟩:=p;cases e<;>first|exact h.elim|skip
 ·obtain⟨b,h1,_⟩:=h;rcases mN t L.n with h2|h2
  ·exact h2
  ·rw[(hh.gV t h2).1]at h1;cases h1
 ·obtain⟨a,c,h1,_⟩:=h;rcases mN t L.n with h2|h2
  ·exact h2
  ·rw[(hh.gV t h2).2]at h1;cases h1
theorem aJ.one {A:Nat->Prop} {x:AV} {v:Value} (h:Rel w A x v):aJ w A [x] [v]:=by simp only[aJ];exact⟨_,_,rfl,h,rfl⟩
theorem aJ.Cj {A:Nat->Prop} {x:AV} {v:Value} (h:aJ w A [x] [v]):Rel w A x v:=by
 simp only[aJ]at h;obtain⟨v',r,h1,h2,h3⟩:=h;cases h1;exact h2
theorem aN.one {x:CV} {y:AV} (h:aG Z x y):aN Z [x] [y]:=by simp only[aN];exact⟨_,_,rfl,h,rfl⟩
end
section
variable {E:Env} {N K:Nat} {Q:DQ} {O:TS} {L:Hp} {o:Oper} {x:CV} {all rest:List Oper}
theorem DO.cH {t:Nat} {z:AV} {ns:List (Nat×Nat)} {ms:List (Nat×bl)} (f:Nat) (hx:O.get t=some x) (hf:cd L.e f [x]=some ([z],ns,ms)) (hn:eqs ns) (k:DO E N K all rest Q (Tr.put 24 O t (some (.d z))) (iR ms L)):DO E N K all rest Q O L:=λZ OB LB hs hh=>by
 obtain⟨y,h1,h2⟩:=hs t x hx;intro F w0 η0 a w hst hxt;have hv:=(hst.sg.2 t y h1).2;obtain⟨h3,h4⟩:=iQ hh hst.hp (ms.map (·.1)) f hf hn (λp hp=>dB.2 ⟨p,hp,rfl⟩) (aN.one h2) (aJ.one hv);have h3:=h3.Cj;have hHS:HS Z (iR ms L) (eM Z ms LB):=AO (w:=w) (F:=fE F LB (ms.map (·.1))) hh λp hp=>⟨(h4 p hp).lt hh,h4 p hp⟩;have hHO:bI E.G w F (eM Z ms LB):=A5 hst.hp h4;have hsub:∀b∈ids (eM Z ms LB),b∈ids LB:=λb hb=>(v7 ms LB).subset hb;have hkeep:dm w (Al F LB) w (Al F (eM Z ms LB)):=dm.sub hsub;refine k Z ((t,z)::OB) (eM Z ms LB) (hs.put (some t) (x:= .d z) (y:=z) rfl) hHS F w0 η0 a w ⟨⟨hst.sg.1,λu q hq=>?_⟩,hHO,hst.df⟩ (hxt.trans ⟨rfl,rfl,rfl,bU _,λ_ _ _=>rfl,λb hb=> .inl (hsub b hb),.of (bU _)⟩);simp only[look]at hq;cases hb:Nat.beq t u with
 |true=>
  rw[hb]at hq;simp only[aE]at hq;subst hq;rw[<-bC hb];exact⟨(hst.sg.2 t y h1).1,h3.bo sQ⟩
 |false=>
  rw[hb]at hq;exact⟨(hst.sg.2 u q hq).1,(hst.sg.2 u q hq).2.bo hkeep⟩
theorem DC.cH {t:Nat} {z:AV} {ns:List (Nat×Nat)} {ms:List (Nat×bl)} (f:Nat) (hx:O.get t=some x) (hf:cd L.e f [x]=some ([z],ns,ms)) (hn:eqs ns) {c:Code} (k:DC E N K c Q (Tr.put 24 O t (some (.d z))) (iR ms L)):DC E N K c Q O L:=λZ OB LB hs hh=>by
 obtain⟨y,h1,h2⟩:=hs t x hx;intro F w0 η0 a w hst hxt;have hv:=(hst.sg.2 t y h1).2;obtain⟨h3,h4⟩:=iQ hh hst.hp (ms.map (·.1)) f hf hn (λp hp=>dB.2 ⟨p,hp,rfl⟩) (aN.one h2) (aJ.one hv);have h3:=h3.Cj;have hHS:HS Z (iR ms L) (eM Z ms LB):=AO (w:=w) (F:=fE F LB (ms.map (·.1))) hh λp hp=>⟨(h4 p hp).lt hh,h4 p hp⟩;have hHO:bI E.G w F (eM Z ms LB):=A5 hst.hp h4;have hsub:∀b∈ids (eM Z ms LB),b∈ids LB:=λb hb=>(v7 ms LB).subset hb;have hkeep:dm w (Al F LB) w (Al F (eM Z ms LB)):=dm.sub hsub;refine k Z ((t,z)::OB) (eM Z ms LB) (hs.put (some t) (x:= .d z) (y:=z) rfl) hHS F w0 η0 a w ⟨⟨hst.sg.1,λu q hq=>?_⟩,hHO,hst.df⟩ (hxt.trans ⟨rfl,rfl,rfl,bU _,λ_ _ _=>rfl,λb hb=> .inl (hsub b hb),.of (bU _)⟩);simp only[look]at hq;cases hb:Nat.beq t u with
 |true=>
  rw[hb]at hq;simp only[aE]at hq;subst hq;rw[<-bC hb];exact⟨(hst.sg.2 t y h1).1,h3.bo sQ⟩
 |false=>
  rw[hb]at hq;exact⟨(hst.sg.2 u q hq).1,(hst.sg.2 u q hq).2.bo hkeep⟩
def bX (z y:AV):Prop:=∀w A v,Rel w A z v->Rel w A y v
inductive b7:List AV->List AV->Prop where
 |nil:b7 [] []
 |cons {x y:AV} {xs ys:List AV}:bX x y->b7 xs ys->b7 (x::xs) (y::ys)
theorem bX.refl (x:AV):bX x x:=λ_ _ _ h=>h
theorem b7.refl:∀(xs:List AV),b7 xs xs
 |[]=> .nil
 |x::xs=> .cons (.refl x) (b7.refl xs)
theorem b7.rel {w:World} {A:Nat->Prop}:∀{xs ys:List AV} {vs:List Value},b7 xs ys->aJ w A xs vs->aJ w A ys vs
 |_,_,_,.nil,h=>h
 |_,_,_,.cons h t,hr=>by
  simp only[aJ]at hr⊢;obtain⟨v,r,rfl,h1,h2⟩:=hr;exact⟨v,r,rfl,h _ _ _ h1,b7.rel t h2⟩
theorem bX.nil (k:Nat):bX (.v (.slice none 0 0)) (.sl k []):=λw A v h=>by
 simp only[Rel]at h⊢;subst h;exact .inl ⟨trivial,_,_,rfl⟩
theorem bX.agg {xs ys:List AV} (h:b7 xs ys):bX (.agg xs) (.agg ys):=λw A v hr=>by
 simp only[Rel]at hr⊢;obtain⟨vs,rfl,h1⟩:=hr;exact⟨vs,rfl,h.rel h1⟩
theorem bX.bZ {xs ys:List AV} (h:b7 xs ys):bX (.bZ xs) (.bZ ys):=λw A v hr=>by
 simp only[Rel]at hr⊢;obtain⟨vs,rfl,h1⟩:=hr;exact⟨vs,rfl,h.rel h1⟩
theorem bX.ip {xs ys:List AV} (h:b7 xs ys):bX (.ip xs) (.ip ys):=λw A v hr=>by
 simp only[Rel]at hr⊢;obtain⟨b,o,vs,e1,e2,e3,e4⟩:=hr;exact⟨b,o,vs,e1,e2,h.rel e3,e4⟩
theorem bX.fn {f:FuncId} {fs fs' cs cs':List AV} (h:b7 fs fs') (g:b7 cs cs'):bX (.fn f fs cs) (.fn f fs' cs'):=λw A v hr=>by
 simp only[Rel]at hr⊢;obtain⟨us,vs,e,h1,h2⟩:=hr;exact⟨us,vs,e,h.rel h1,g.rel h2⟩
inductive dp:List (List AV)->List (List AV)->Prop where
 |nil:dp [] []
 |cons {x y:List AV} {xs ys:List (List AV)}:b7 x y->dp xs ys->dp (x::xs) (y::ys)
theorem b7.length {xs ys:List AV} (h:b7 xs ys):ys.length=xs.length:=by induction h with|nil=>rfl|cons _ _ ih=>simp[ih]
theorem dp.length {xs ys:List (List AV)} (h:dp xs ys):ys.length=xs.length:=by induction h with|nil=>rfl|cons _ _ ih=>simp[ih]
theorem dp.refl:∀(xs:List (List AV)),dp xs xs
 |[]=> .nil
 |x::xs=> .cons (.refl x) (dp.refl xs)
theorem dp.rel {w:World} {A:Nat->Prop} {k:Nat}:∀{xs ys:List (List AV)} {vs:List Value},dp xs ys->bz w A k xs vs->bz w A k ys vs
 |_,_,_,.nil,h=>h
 |_,_,_,.cons h t,hr=>by
  simp only[bz]at hr⊢;obtain⟨v1,v2,rfl,h0,h1,h2⟩:=hr;exact⟨v1,v2,rfl,by rw[h.length];exact h0,h.rel h1,dp.rel t h2⟩
theorem bX.sl {k:Nat} {xs ys:List (List AV)} (h:dp xs ys):bX (.sl k xs) (.sl k ys):=λw A v hr=>by
 simp only[Rel]at hr⊢;rcases hr with⟨rfl,h1⟩|⟨b,o,cap,vs,e1,e2,e3,e4,e5,e6⟩
 ·cases h;exact .inl ⟨rfl,h1⟩
 ·exact .inr ⟨b,o,cap,vs,by rw[h.length];exact e1,e2,by rw[h.length];exact e3,e4,h.rel e5,e6⟩
theorem dp.append {xs ys xs' ys':List (List AV)} (h:dp xs ys) (g:dp xs' ys'):dp (xs++xs') (ys++ys'):=by
 induction h with
 |nil=>exact g
 |cons h _ ih=>exact .cons h ih
def cR:AV->Bool
 | .v _=>true
 | .agg xs=>go xs
 | .bZ xs=>go xs
 | .bA _ x=>cR x
 |_=>false
where go:List AV->Bool
 |[]=>true
 |x::r=>match cR x with
  |true=>go r
  |false=>false
mutual
theorem Az {w:World} {A A':Nat->Prop}:∀{x:AV} {v:Value},cR x=true->Rel w A x v->Rel w A' x v
 | .v _,_,_,h=>by simp only[Rel]at h⊢;exact h
 | .agg xs,_,hf,h=>by simp only[Rel]at h⊢;obtain⟨vs,e,h1⟩:=h;exact⟨vs,e,DZ (by simpa[cR]using hf) h1⟩
 | .bZ xs,_,hf,h=>by simp only[Rel]at h⊢;obtain⟨vs,e,h1⟩:=h;exact⟨vs,e,DZ (by simpa[cR]using hf) h1⟩
 | .bA t x,_,hf,h=>by simp only[Rel]at h⊢;obtain⟨u,e,h1⟩:=h;exact⟨u,e,Az (by simpa[cR]using hf) h1⟩
 | .sl _ _,_,hf,_=>by simp[cR]at hf
 | .ip _,_,hf,_=>by simp[cR]at hf
 | .own _ _ _,_,hf,_=>by simp[cR]at hf
 | .os _ _ _ _,_,hf,_=>by simp[cR]at hf
 | .oe _ _ _,_,hf,_=>by simp[cR]at hf
 | .om _ _,_,hf,_=>by simp[cR]at hf
 | .fn _ _ _,_,hf,_=>by simp[cR]at hf
theorem DZ {w:World} {A A':Nat->Prop}:∀{xs:List AV} {vs:List Value},cR.go xs=true->aJ w A xs vs->aJ w A' xs vs
 |[],_,_,h=>by simp only[aJ]at h⊢;exact h
 |x::r,_,hf,h=>by
  simp only[cR.go]at hf;split at hf
  ·rename_i hx;simp only[aJ]at h⊢;obtain⟨v,r',e,h1,h2⟩:=h;exact⟨v,r',e,Az hx h1,DZ hf h2⟩
  ·cases hf
end
def dE (O:TS) (f:Operand) (args:List Operand):Option (FuncId×List CV):=
 match aV O f,rO O args with
 |some (.d (.v (.func (.func g) fa cs))),some xs=>some (g,(fa.toList.map .v).map .d++xs++(cs.toList.map .v).map .d)
 |some (.d (.fn g fs cs)),some xs=>some (g,fs.map .d++xs++cs.map .d)
 |some (.fn g fs cs),some xs=>some (g,fs++xs++cs)
 |_,_=>none
theorem qy {Z:aH} {s:Sl} (hs:SS Z O s) {f:Operand} {args:List Operand} {g:FuncId} {cs:List CV} (h:dE O f args=some (g,cs)):∃ys,callee s f args=some (g,ys)/\aN Z cs ys:=by
 unfold dE at h;split at h
 ·rename_i g' fa qs xs h1 h2;simp only[aE,ck]at h;obtain⟨rfl,rfl⟩:=h;obtain⟨y,h3,h4⟩:=b9 hs h1;simp only[aG]at h4;subst h4;obtain⟨ys,h5,h6⟩:=sT hs h2;exact⟨_,by simp only[callee,h3,h5],((ir _).append h6).append (ir _)⟩
 ·rename_i g' fs qs xs h1 h2;simp only[aE,ck]at h;obtain⟨rfl,rfl⟩:=h;obtain⟨y,h3,h4⟩:=b9 hs h1;simp only[aG]at h4;subst h4;obtain⟨ys,h5,h6⟩:=sT hs h2;exact⟨_,by simp only[callee,h3,h5],((ir _).append h6).append (ir _)⟩
 ·rename_i g' fs qs xs h1 h2;simp only[aE,ck]at h;obtain⟨rfl,rfl⟩:=h;obtain⟨y,h3,h4⟩:=b9 hs h1;simp only[aG]at h4;obtain⟨us,vs,rfl,h4,h4'⟩:=h4;obtain⟨ys,h5,h6⟩:=sT hs h2;exact⟨_,by simp only[callee,h3,h5],(h4.append h6).append h4'⟩
 ·cases h
theorem Eo {Z:aH} {LB:List au} {w:World} {F:Nat->Prop} {g:FuncId} {cs:List CV} {ys xs' xs:List AV} {vs:List Value} {ns:List (Nat×Nat)} {ms:List (Nat×bl)} {res:AR} (fl:Nat) (h:Pure E.toCx g xs res)
  (hf:cd L.e fl cs=some (xs',ns,ms)) (hn:eqs ns) (hi:b7 xs' xs) (hl:ms=[]\/(match res with| .ret x=>cR x| .aM x=>cR x)=true) (hh:HS Z L LB) (hH:bI E.G w F LB) (hcs:aN Z cs ys) (hr:aJ w (Al F LB) ys vs):
  Calls E.P g vs.toArray w λe w'=>AR.rel w' (Al F LB) res e/\gX w w':=by
 obtain⟨h3,h4⟩:=iQ hh hH (ms.map (·.1)) fl hf hn (λp hp=>dB.2 ⟨p,hp,rfl⟩) hcs hr;have hHO:bI E.G w F (eM Z ms LB):=A5 hH h4;have hx:=hi.rel h3;have hx':aJ w (Al F (eM Z ms LB)) xs vs:=hx.bo sQ;refine(h.run hHO hx').mono ?_;rintro e w' ⟨hv,_,hext,hsame⟩;refine⟨?_,⟨hext.os,hext.drawn⟩,hext.tape,hext.output,hext.size,hsame⟩;rcases hl with rfl|hl
 ·exact hv
 ·cases res with
  |ret x=>obtain⟨v,rfl,hv⟩:=hv;exact⟨v,rfl,Az hl hv⟩
  |aM x=>obtain⟨v,rfl,hv⟩:=hv;exact⟨v,rfl,Az hl hv⟩
theorem ba.pure {f:Operand} {args:List Operand} {g:FuncId} {cs:List CV} {xs' xs:List AV} {ns:List (Nat×Nat)} {ms:List (Nat×bl)} {res:AV} {tys:Array TypeId} (fl:Nat) (ho:o.op= .call {callee:= .value f,args:=args.toArray,argTypes:=tys})
  (h:Pure E.toCx g xs (.ret res)) (hc:dE O f args=some (g,cs)) (hf:cd L.e fl cs=some (xs',ns,ms)) (hn:eqs ns) (hi:b7 xs' xs) (hl:ms=[]\/cR res=true):ba E N o O L (.d res):=λZ s LB hs hh=>by
 obtain⟨ys,hcal,hcs⟩:=qy hs hc;refine⟨res,rfl,λF w a hN _ hH hopd K' Q' k=>?_⟩;have hmem:∀p,p=f\/p∈args->p∈o.op.operands.toList:=by
  rintro p hp;rw[ho];rcases hp with rfl|hp
  ·simp[Op.operands,Call.operands]
  ·simp[Op.operands,Call.operands,hp]
 have hc':callee (look (dv s (tmpsOf o))) f args=some (g,ys):=by
  unfold callee at hcal⊢;rw[fH (hmem f (.inl rfl)),sU λp hp=>fH (hmem p (.inr hp))];exact hcal
 have hsl:fN w (Al F LB) N a (look (dv s (tmpsOf o))):=⟨hN,λt y hy=>by obtain⟨h1,h2⟩:=kE hy;exact hopd t h1 y h2⟩;obtain⟨vs,h1,h2⟩:=vW (P:=E.P) hsl hc' (tys:=tys) (dst:=o.dst) (ty:=o.type) (pos:=o.pos) (after:=o.after) (gd:=o.guard) h.1;have ho':o=⟨o.dst,.call {callee:= .value f,args:=args.toArray,argTypes:=tys},o.type,o.pos,o.after,o.guard⟩:=by rw[<-ho]
 rw[<-ho']at h2;unfold Oper.wp;rw[h2 w,Oper.upon_enter];refine(Eo fl h hf hn hi hl hh hH hcs h1).mono ?_;rintro e w' ⟨⟨v,rfl,hv⟩,hcls⟩;exact k v w' hv hcls
theorem DO.tm {dst:Option Nat} {f:Operand} {args:List Operand} {g:FuncId} {cs:List CV} {xs' xs:List AV} {ns:List (Nat×Nat)} {ms:List (Nat×bl)} {res:AV} {tys:Array TypeId} {ty:TypeId} {pos:String} {after:Array Edge} (fl:Nat)
  (h:Pure E.toCx g xs (.aM res)) (hc:dE O f args=some (g,cs)) (hf:cd L.e fl cs=some (xs',ns,ms)) (hn:eqs ns) (hi:b7 xs' xs) (hl:ms=[]\/cR res=true)
  (k:Q (.aM (.d res)) .lf L):DO E N K all (⟨dst,.call {callee:= .value f,args:=args.toArray,argTypes:=tys},ty,pos,after,none⟩::rest) Q O L:=λZ OB LB hs hh=>by
 obtain⟨ys,hcal,hcs⟩:=qy hs hc;intro F w0 η0 a w hst hxt;unfold wpList;rw[cj (by simp[Region.wanted])];refine .inl ?_;obtain⟨vs,h1,h2⟩:=vW (P:=E.P) hst.sg hcal (tys:=tys) (dst:=dst) (ty:=ty) (pos:=pos) (after:=after) (gd:=none) h.1;unfold Oper.wp;rw[h2 w,Oper.upon_enter];refine(Eo fl h hf hn hi hl hh hst.hp hcs h1).mono ?_;rintro e w' ⟨⟨v,rfl,hv⟩,hcls⟩;refine⟨.aM res,[],LB,⟨Z,.aM (.d res),.lf,L,.refl K Z,⟨res,rfl,rfl⟩,λt x hx=>by simp[Tr.kK]at hx,hh,k⟩,⟨v,rfl,hv⟩,⟨⟨hst.sg.1,λt x hx=>by simp[AE.sl,look]at hx⟩,hst.hp.later hcls.2.2.2,hst.df⟩,hxt.trans hcls.ext⟩
inductive DR where
 |ret (x:CV)
 |aM (x:CV)
def DR.inst (Z:aH):DR->AR->Prop
 | .ret x,r=>∃y,r= .ret y/\aG Z x y
 | .aM x,r=>∃y,r= .aM y/\aG Z x y
def Py (K:Nat) (Z:aH) (Q:DR->Hp->Prop):AR->List au->Prop:=λr LB=>∃Z' d L,aH.gW K Z Z'/\DR.inst Z' d r/\HS Z' L LB/\Q d L
def fA (E:Env) (g:FuncId) (args:List CV) (L:Hp) (Q:DR->Hp->Prop):Prop:=∀Z ys LB,aN Z args ys->HS Z L LB->mv E.toCx g ys LB (Py L.n Z Q)
theorem HS.gW {Z Z':aH} {LB:List au} (hh:HS Z L LB) (h:aH.gW L.n Z Z'):Z.le Z':=by
 refine⟨λt x hx=>?_,λt n x hx=>?_⟩
 ·rcases mN t L.n with h1|h1
  ·exact(h t h1).1 x hx
  ·rw[(hh.gV t h1).1]at hx;cases hx
 ·rcases mN t L.n with h1|h1
  ·exact(h t h1).2 n x hx
  ·rw[(hh.gV t h1).2]at hx;cases hx
theorem DO.call {dst:Option Nat} {f:Operand} {args:List Operand} {g:FuncId} {cs:List CV} {Q':DR->Hp->Prop} {tys:Array TypeId} {ty:TypeId} {pos:String} {after:Array Edge}
  (h:fA E g cs L Q') (hc:dE O f args=some (g,cs)) (hd:cx N dst=true) (k1:∀x L',Q' (.ret x) L'->DO E N K all rest Q (bY O dst x) L') (k2:∀x L',Q' (.aM x) L'->Q (.aM x) .lf L'):
  DO E N K all (⟨dst,.call {callee:= .value f,args:=args.toArray,argTypes:=tys},ty,pos,after,none⟩::rest) Q O L:=λZ OB LB hs hh=>by
 obtain⟨ys,h1,h2⟩:=qy hs hc;refine bS.ZE (h Z ys LB h2 hh) h1 hd ?_ ?_
 ·rintro y LB' ⟨Z',r,L',h3,h4,h5,h6⟩;have hl:=hh.gW h3;cases r with
  |ret x=>
   obtain⟨y',e,h4⟩:=h4;cases e;exact DO.up hl (k1 x L' h6 Z' _ LB' ((hs.mono hl).put dst h4) h5)
  |aM x=>obtain⟨y',e,_⟩:=h4;cases e
 ·rintro y LB' ⟨Z',r,L',h3,h4,h5,h6⟩;have hl:=hh.gW h3;cases r with
  |ret x=>obtain⟨y',e,_⟩:=h4;cases e
  |aM x=>
   obtain⟨y',e,h4⟩:=h4;cases e;exact⟨Z',.aM x,.lf,L',hl.toK K,⟨y,rfl,h4⟩,λt x hx=>by simp[Tr.kK]at hx,h5,k2 x L' h6⟩
def iz:Nat->List CV->TS
 |_,[]=> .lf
 |n,x::xs=>Tr.put 24 (iz (n+1) xs) n (some x)
theorem Lb {Z:aH}:∀{xs:List CV} {ys:List AV} (n:Nat),aN Z xs ys->SS Z (iz n xs) (look (rP n ys))
 |[],ys,n,_=>λt x hx=>by simp[iz,Tr.kK]at hx
 |x::xs,ys,n,h=>by
  simp only[aN]at h;obtain⟨y,r,rfl,h1,h2⟩:=h;have:=Lb (n+1) h2;exact this.put (some n) h1
def GF (T:bQ) (O:TS) (L:Hp):ResultVar->Option CV
 | .tmp t=>O.get t
 | .cell a t=>match O.get a,aY T t with
  |some (.own i 0),some ⟨d,k,_,_⟩=>match L.e.get i with
   |some (.box cs)=>match d.agg with
    |true=>match Nat.ble k cs.length with
     |true=>some (uE (cs.take k))
     |false=>none
    |false=>nth cs 0
   |_=>none
  |some (.d (.ip cs)),some ⟨d,k,_,_⟩=>match d.agg,fits cs k with
   |true,true=>some (.d (.agg (cs.take k)))
   |_,_=>none
  |_,_=>none
def ei (T:bQ) (O:TS) (L:Hp):List ResultVar->Option (List CV)
 |[]=>some []
 |r::rs=>match GF T O L r,ei T O L rs with
  |some x,some xs=>some (x::xs)
  |_,_=>none
def fe:List CV->CV
 |[x]=>x
 |xs=>GG xs
theorem VK {Z:aH} {OB:Sg} {LB:List au} {T:bQ} (hs:SS Z O (look OB)) (hh:HS Z L LB) {r:ResultVar} (h:GF T O L r=some x):∃y,pW T OB LB r y/\aG Z x y:=by
 cases r with
 |tmp t=>obtain⟨y,h1,h2⟩:=hs t x h;exact⟨y,.tmp h1,h2⟩
 |cell a t=>
  simp only[GF]at h;split at h
  ·rename_i i d k b z ha ht;split at h
   ·rename_i cs hcs;obtain⟨y,h1,h2⟩:=hs a _ ha;simp only[aG]at h2;obtain⟨bk,t',h2,rfl⟩:=h2;obtain⟨q,h3,h4⟩:=hh.en i _ hcs;obtain⟨bk',us,h5,rfl,h6⟩:=h4;rw[h2]at h5;cases h5;split at h
    ·rename_i hd;split at h
     ·rename_i hle;simp only[aE]at h;subst h;exact⟨_,.Pz h1 h3 ht hd (Ec (by rw[h6.length];exact dJ hle)),AK (h6.take k)⟩
     ·cases h
    ·rename_i hd;obtain⟨y,h7,h8⟩:=h6.nth h;cases us with
     |nil=>simp[nth]at h7
     |cons u us=>
      simp only[nth,aE]at h7;subst h7;exact⟨_,.Od h1 h3 ht hd,h8⟩
   ·cases h
  ·rename_i cs d k b z ha ht;split at h
   ·rename_i hd hf;simp only[aE]at h;subst h;obtain⟨y,h1,h2⟩:=hs a _ ha;simp only[aG]at h2;subst h2;exact⟨_,.PA h1 ht hd hf,rfl⟩
   ·cases h
  ·cases h
theorem MK {Z:aH} {OB:Sg} {LB:List au} {T:bQ} (hs:SS Z O (look OB)) (hh:HS Z L LB):∀{rs:List ResultVar} {xs:List CV},ei T O L rs=some xs->∃ys,uO T OB LB rs ys/\aN Z xs ys
 |[],xs,h=>by simp only[ei,aE]at h;subst h;exact⟨[],.nil,by simp[aN]⟩
 |r::rs,xs,h=>by
  simp only[ei]at h;split at h
  ·rename_i x xs' h1 h2;simp only[aE]at h;subst h;obtain⟨y,h3,h4⟩:=VK hs hh h1;obtain⟨ys,h5,h6⟩:=MK hs hh h2;exact⟨y::ys,.cons h3 h5,by simp only[aN];exact⟨_,_,rfl,h4,h6⟩⟩
  ·cases h
theorem Ud {Z:aH} {xs:List CV} {ys:List AV} (h:aN Z xs ys):aG Z (fe xs) (xu ys):=by
 match xs,ys,h with
 |[],ys,h=>exact KK (xs:=[]) h|>λz=>by simp only[aN]at h;subst h;exact z
 |[x],ys,h=>simp only[aN]at h;obtain⟨y,r,rfl,h1,rfl⟩:=h;exact h1
 |x::x'::r,ys,h=>
  have h0:=h;simp only[aN]at h0;obtain⟨y,r,rfl,h1,y',r',rfl,h2,h3⟩:=h0;exact KK h
def RD (T:bQ) (rs:List ResultVar) (Q:DR->Hp->Prop):DQ:=λe O L=>match e with
 | .norm=>∃xs,ei T O L rs=some xs/\Q (.ret (fe xs)) L
 | .ret=>∃xs,ei T O L rs=some xs/\Q (.ret (fe xs)) L
 | .exit _=>False
 | .aM x=>Q (.aM x) L
theorem fA.enter {f:FuncId} {fn:Func} {c:Code} {args:List CV} {Q:DR->Hp->Prop} (hf:E.P.funcs[f]? =some fn) (hb:fn.body=some c) (hname:(fn.name== "runtime.NumGoroutine")=false)
  (rs:List ResultVar) (hrs:fn.results=rs.toArray) (nt:Nat) (hnt:fn.ntmps=nt) (hn:Nat.ble args.length nt=true) (h:DC E nt L.n c (RD E.T rs Q) (iz 0 args) L):fA E f args L Q:=λZ ys LB hi hh=>by
 refine mv.enter (E:=E) hf hb hname rs hrs nt hnt (by rw[hi.length];exact hn) (bV.mono (h Z (rP 0 ys) LB (Lb 0 hi) hh) ?_);rintro e OB' LB' ⟨Z',d,O',L',h1,h2,h3,h4,h5⟩;have main:(∃xs,ei E.T O' L' rs=some xs/\Q (.ret (fe xs)) L')->RQ E.T rs (Py L.n Z Q) OB' LB':=by
  rintro ⟨xs,h6,h7⟩;obtain⟨zs,h8,h9⟩:=MK h3 h4 h6;exact⟨zs,h8,Z',.ret (fe xs),L',h1,⟨_,rfl,Ud h9⟩,h4,h7⟩
 cases d with
 |norm=>simp only[DE.inst]at h2;subst h2;exact main h5
 |ret=>simp only[DE.inst]at h2;subst h2;exact main h5
 |exit i=>exact h5.elim
 |aM x=>obtain⟨y,rfl,h2⟩:=h2;exact⟨Z',.aM x,L',h1,⟨y,rfl,h2⟩,h4,h5⟩
def Hp.nil:Hp:=⟨.lf,0⟩
theorem HS.nil (Z:aH) (h:∀t,Z.b t=none/\∀n,Z.s t n=none):HS Z Hp.nil []:=⟨λi x hx=>by simp[Hp.nil,Tr.kK]at hx,rfl,λt _=>h t⟩
def Ends (f:Nat) (res:AR):DR->Hp->Prop
 | .ret x,L=>∃z ns ms,cd L.e f [x]=some ([z],ns,ms)/\eqs ns/\∃y,res= .ret y/\bX z y
 | .aM x,L=>∃z ns ms,cd L.e f [x]=some ([z],ns,ms)/\eqs ns/\∃y,res= .aM y/\bX z y
theorem Pure.Rw {g:FuncId} {args:List AV} {res:AR} (f:Nat) (h:fA E g (args.map .d) Hp.nil (Ends f res)):Pure E.toCx g args res:=by
 have h0:=h ⟨λ_=>none,λ_ _=>none⟩ args [] (ir args) (HS.nil _ λ_=>⟨rfl,λ_=>rfl⟩);refine⟨h0.1,λF w vs hH hr=>(h0.2 F w vs hH hr).mono ?_⟩;rintro e w' ⟨r,LB,⟨Z',d,L,h1,h2,h3,h4⟩,hv,hh,hx⟩;have hA:∀b,fE F LB (List.range LB.length) b->Al F [] b:=λb hb=>⟨hb.1,by simp[ids]⟩;have hk:∀M:List Nat,dm w' (fE F LB M) w' (Al F []):=λM=>⟨bU _,λb _ hb=>⟨⟨hb.1,by simp[ids]⟩,rfl⟩⟩;have fin:∀{x:CV} {y:AV} {v:Value},(∃z ns ms,cd L.e f [x]=some ([z],ns,ms)/\eqs ns/\bX z y)->(∃u,aG Z' x u/\Rel w' (Al F LB) u v)->Rel w' (Al F []) y v:=by
  rintro x y v ⟨z,ns,ms,g1,g2,g3⟩ ⟨u,g4,g5⟩;obtain⟨g6,_⟩:=iQ h3 hh (ms.map (·.1)) f g1 g2 (λp hp=>dB.2 ⟨p,hp,rfl⟩) (aN.one g4) (aJ.one g5);exact g3 _ _ _ (g6.Cj.bo (hk _))
 have hres:AR.rel w' (Al F []) res e:=by
  cases d with
  |ret x=>
   obtain⟨u,rfl,h5⟩:=h2;obtain⟨z,ns,ms,g1,g2,y,rfl,g3⟩:=h4;obtain⟨v,rfl,hv⟩:=hv;exact⟨v,rfl,fin ⟨z,ns,ms,g1,g2,g3⟩ ⟨u,h5,hv⟩⟩
  |aM x=>
   obtain⟨u,rfl,h5⟩:=h2;obtain⟨z,ns,ms,g1,g2,y,rfl,g3⟩:=h4;obtain⟨v,rfl,hv⟩:=hv;exact⟨v,rfl,fin ⟨z,ns,ms,g1,g2,g3⟩ ⟨u,h5,hv⟩⟩
 exact⟨res,[],⟨rfl,rfl⟩,hres,hh.none,⟨hx.os,hx.tape,hx.output,hx.size,hx.block,by simp[ids],hx.drawn⟩⟩
end
def rK (P:Program) (O:TS) (L:Hp):Op->Option (CV×List (Nat×Nat))
 | .binOp .eql t x y _=>match P.underlying t,aV O x,aV O y with
  |some (.slice _),some (.os i (n+1)),some (.d (.v (.slice none 0 0)))=>match L.e.get i with
   |some (.row _ _ rows)=>some (.d (.v (.bool false)),[(n+1,rows.length)])
   |some (.iL _ rows)=>some (.d (.v (.bool false)),[(n+1,rows.length)])
   |_=>none
  |_,_,_=>none
 | .binOp .neq t x y _=>match P.underlying t,aV O x,aV O y with
  |some (.slice _),some (.os i (n+1)),some (.d (.v (.slice none 0 0)))=>match L.e.get i with
   |some (.row _ _ rows)=>some (.d (.v (.bool true)),[(n+1,rows.length)])
   |some (.iL _ rows)=>some (.d (.v (.bool true)),[(n+1,rows.length)])
   |_=>none
  |_,_,_=>none
 |_=>none
section
variable {E:Env} {N:Nat} {O:TS} {L:Hp} {o:Oper}
theorem Bp {Z:aH} {s:Sl} {LB:List au} (hs:SS Z O s) (hh:HS Z L LB) {x:Operand} {i n:Nat} (hx:aV O x=some (.os i (n+1))) {rows:List (List AV)} (hn:n+1=rows.length) (hi:(∃e k,L.e.get i=some (.row e k rows))\/∃k,L.e.get i=some (.iL k rows)):
  ∃t' a c,ev s x=some (.os t' a (n+1) c)/\∀{G:Gl} {w:World} {F:Nat->Prop},bI G w F LB->a.isNone=false:=by
 obtain⟨y,h1,h2⟩:=b9 hs hx;simp only[aG]at h2;obtain⟨a,c,t',h3,rfl⟩:=h2;refine⟨t',a,c,h1,λhH=>?_⟩;rcases hi with⟨e,k,hi⟩|⟨k,hi⟩
 ·obtain⟨q,h4,h5⟩:=hh.en i _ hi;obtain⟨⟨a',c',h6,rfl⟩,_⟩:=h5;rw[<-hn,h3]at h6;cases h6;obtain⟨vs,_,h7⟩:=ji hH h4;obtain⟨_,h8|⟨g,cap,cur,h9,_⟩⟩:=h7
  ·omega
  ·cases h9;rfl
 ·obtain⟨q,h4,h5⟩:=hh.en i _ hi;obtain⟨a',c',h6,rfl⟩:=h5;rw[<-hn,h3]at h6;cases h6;have:=qP hH h4;simp only[Rel]at this;rcases this with⟨rfl,_⟩|⟨b,o,cap,vs,h1,_⟩
  ·simp at hn
  ·cases h1;rfl
theorem AS {s:Sl} {LB:List au} {t e:TypeId} {x y:Operand} {yt:TypeId} {t':Nat} {a:Option Addr} {n c:Nat} (neg:Bool) (ho:o.op= .binOp (if neg then .neq else .eql) t x y yt) (hu:E.P.underlying t=some (.slice e)) (hx:ev s x=some (.os t' a n c)) (hy:ev s y=some (.v (.slice none 0 0)))
  (ha:∀{G:Gl} {w:World} {F:Nat->Prop},bI G w F LB->a.isNone=false):bP E.toCx N o s LB (.v (.bool neg)):=by
 refine bP.oQ λF act w hst=>?_;have h1:=bq hst.sg (show ev (look (dv s (tmpsOf o))) x=some (.os t' a n c)by rw[fH (by rw[ho];cases neg<;>simp[Op.operands])];exact hx);have h2:=bq hst.sg (show ev (look (dv s (tmpsOf o))) y=some (.v (.slice none 0 0))by rw[fH (by rw[ho];cases neg<;>simp[Op.operands])];exact hy);simp only[Rel]at h1 h2;have h0:=ha hst.hp;refine⟨_,fL _,λw' _=>?_⟩;have h3:binOp .eql t (.slice a n c) (.slice none 0 0)=(do pure (.bool (<-Op.equal t (.slice a n c) (.slice none 0 0))):Sem Value):=rfl;have h4:binOp .neq t (.slice a n c) (.slice none 0 0)=(do pure (.bool (!(<-Op.equal t (.slice a n c) (.slice none 0 0)))):Sem Value):=rfl;cases neg
 ·simp[execOp,ho,h1,h2,eqGuard,h3,AT hu,h0]
 ·simp[execOp,ho,h1,h2,eqGuard,h4,AT hu,h0]
theorem ba.rK {x:CV} {ns:List (Nat×Nat)} (h:rK E.P O L o.op=some (x,ns)) (hn:eqs ns):ba E N o O L x:=λZ s LB hs hh=>by
 unfold Bw.rK at h;split at h
 ·rename_i t x y yt ho;split at h
  ·rename_i e i n hu hx hy;have hyy:ev s y=some (.v (.slice none 0 0)):=by
    obtain⟨z,g1,g2⟩:=b9 hs hy;simp only[aG]at g2;subst g2;exact g1
   split at h
   ·rename_i e' k rows hi;simp only[aE,ck]at h;obtain⟨rfl,rfl⟩:=h;obtain⟨t',a,c,h1,h2⟩:=Bp hs hh hx hn.1 (.inl ⟨_,_,hi⟩);exact⟨_,rfl,AS false (by simpa using ho) hu h1 hyy h2⟩
   ·rename_i k rows hi;simp only[aE,ck]at h;obtain⟨rfl,rfl⟩:=h;obtain⟨t',a,c,h1,h2⟩:=Bp hs hh hx hn.1 (.inr ⟨_,hi⟩);exact⟨_,rfl,AS false (by simpa using ho) hu h1 hyy h2⟩
   ·cases h
  ·cases h
 ·rename_i t x y yt ho;split at h
  ·rename_i e i n hu hx hy;have hyy:ev s y=some (.v (.slice none 0 0)):=by
    obtain⟨z,g1,g2⟩:=b9 hs hy;simp only[aG]at g2;subst g2;exact g1
   split at h
   ·rename_i e' k rows hi;simp only[aE,ck]at h;obtain⟨rfl,rfl⟩:=h;obtain⟨t',a,c,h1,h2⟩:=Bp hs hh hx hn.1 (.inl ⟨_,_,hi⟩);exact⟨_,rfl,AS true (by simpa using ho) hu h1 hyy h2⟩
   ·rename_i k rows hi;simp only[aE,ck]at h;obtain⟨rfl,rfl⟩:=h;obtain⟨t',a,c,h1,h2⟩:=Bp hs hh hx hn.1 (.inr ⟨_,hi⟩);exact⟨_,rfl,AS true (by simpa using ho) hu h1 hyy h2⟩
   ·cases h
  ·cases h
 ·cases h
