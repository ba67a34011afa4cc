/- Derivatives are not larger. -/
import Derived.Test.YtnocmolegijmkaaGreatKDa
import Derived.Test.YtnocmolegijmkaaGreatKKi
import Derived.Test.YtnocmolegijmkaaGreatKUn
set_option linter.all false
section
namespace Go.Proofs.YtnocmolegijmkaaGreat
open Go Go.Bw
variable {q:ab->ab->Bool}
theorem afy {e:ab} {ks:List ab} (h:b8 ks<=b8 e.Kids):bI (ki e ks)<=bI e:=by
 unfold ki;split
 ·simp only[b8]at h;rw[gU e];split
  ·omega
  ·split
   ·omega
   ·rw[gU];simp only[fP,b8];omega
 ·exact bX _
theorem Fu {e:ab}:bI (ga e)<=bI e:=by rw[gU,gU e];simp[ga,b8]
theorem afz {e:ab} {ks:List ab} (h:b8 ks<=b8 e.Kids) (hc:∀c x y c' a b,e.Kids=[c,x,y]->ks=[c',a,b]->bI a<=bI x/\bI b<=bI y):bI (kh e e.Kids ks)<=bI e:=by
 rw[gU e];unfold kh;split
 ·rename_i c x y c' a b e1;have:=hc _ _ _ _ _ _ e1 rfl;split
  ·have:= @Fu e;rw[gU e]at this;exact this
  ·rw[gU];simp only[fP,b8,e1];omega
 ·rw[gU e];omega
theorem afA {e:ab} {ks:List ab} (h:b8 ks<=b8 e.Kids):bI (kF e ks)<=bI e:=by
 unfold kF;split
 ·exact Fu
 ·rw[gU,gU e];simp only[fP];omega
theorem afB {e:ab} {ks:List ab} (h:b8 ks<=b8 e.Kids):bI (kG e ks)<=bI e:=by
 unfold kG;split
 ·exact Fu
 ·rw[gU,gU e];simp only[fP];omega
theorem R7 {p:ab}:∀{ks:List ab},(∀k∈ks,bI (bU q p k)<=bI k)->b8 (cx q p ks)<=b8 ks
 |[],_=>by rw[cx];exact bX _
 |k::ks,h=>by
  have:=R7 (p:=p) (ks:=ks) λx hx=>h x (by simp[hx]);have:=h k (by simp);rw[cx,b8,b8];omega
theorem R8 {p:ab}:∀{ks:List ab} {i:Nat},(∀k∈ks,∀p,bI (bU q p k)<=bI k)->b8 (dM q p i ks)<=b8 ks
 |[],_,_=>by rw[dM];exact bX _
 |k::ks,i,h=>by
  have:=R8 (p:=p) (ks:=ks) (i:=i+1) λx hx=>h x (by simp[hx]);have:=h k (by simp) (iV p i);rw[dM,b8,b8];omega
theorem Jq {p:ab}:∀{ks:List ab} {o:Option ab},(∀k∈ks,∀p,bI (bU q p k)<=bI k)->b8 (dB q p o ks)<=b8 (o.toList++ks)
 |[],_,_=>by rw[dB];exact mG _
 |k::ks,none,h=>by
  have:=Jq (p:=p) (ks:=ks) (o:=some k) λx hx=>h x (by simp[hx]);rw[dB];exact this
 |x::ks,some k,h=>by
  have h1:=Jq (p:=p) (ks:=ks) (o:=none) λx hx=>h x (by simp[hx]);have h2:=h x (by simp) (dj p k);have h1:b8 (dB q p none ks)<=b8 ks:=h1;rw[dB];show _<=b8 (k::x::ks);simp only[b8];split
  ·omega
  ·simp only[b8];omega
theorem JH:∀e p:ab,bI (bU q p e)<=bI e:=by
 refine ab.ind λe ih=>λp=>?_;have hL:=R7 (q:=q) (p:=p) (ks:=e.Kids) λk hk=>ih k hk p;rw[gI];split
 ·exact Fu
 split
 ·exact afy hL
 split
 ·refine afz hL λc x y c' a b h1 h2=>?_;rw[h1,cx,cx,cx,cx]at h2;cases h2;exact⟨ih x (by rw[h1];simp) p,ih y (by rw[h1];simp) p⟩
 split
 ·exact afA (R8 λk hk=>ih k hk)
 split
 ·exact afB (Jq λk hk=>ih k hk)
 ·exact bX _
end Go.Proofs.YtnocmolegijmkaaGreat
end

section
namespace Go.Proofs.YtnocmolegijmkaaGreat
open Go Go.Bw
theorem Rw:∀l:List ab,fK l=l.map nx
 |[]=>rfl
 |k::l=>by rw[fK,Rw l];rfl
theorem aiu {β:Type} {f g:ab->Option β} {i:Int}:∀{l m:List ab},fK l=fK m->(∀op t n tx a b ks ks',fK ks=fK ks'->nx ⟨op,t,n,tx,a,ks⟩=nx ⟨op,t,n,tx,b,ks'⟩->f ⟨op,t,n,tx,a,ks⟩=g ⟨op,t,n,tx,b,ks'⟩)->(aj l i).bind f=(aj m i).bind g:=by
 intro l m h k;have hl:l.length=m.length:=by have:=congrArg List.length h;rw[rE,rE]at this;exact this
 cases hx:aj l i with
 |none=>
  cases hy:aj m i with
  |none=>rfl
  |some y=>
   obtain⟨h0,h1⟩:=IP hy;have:=(cr.1 h1).1;obtain⟨x,h2⟩:=bo (l:=l) (i:=i.toNat) (by omega);have:aj l i=some x:=by rw[h0];exact h2
   rw[this]at hx;cases hx
 |some x=>
  obtain⟨h0,h1⟩:=IP hx;have:=(cr.1 h1).1;obtain⟨y,h2⟩:=bo (l:=m) (i:=i.toNat) (by omega);have hy:aj m i=some y:=by rw[h0];exact h2
  rw[hy];have e:nx x=nx y:=by
   have:=congrArg (λl=>l[i.toNat]?) h;simp only[Rw,iL,h1,h2,Hz,aE]at this;exact this
  obtain⟨op,t,n,tx,a,ks⟩:=x;obtain⟨op',t',n',tx',b,ks'⟩:=y;have e':=e;simp only[nx,ab.mk.injEq,true_and]at e;obtain⟨rfl,rfl,rfl,rfl,e⟩:=e;exact k op t n tx a b ks ks' e e'
structure Nk (F:cG) (n:Nat):Prop where
 ev:∀{x y},nx x=nx y->f86 (Gf n) F x=f86 (Gf n) F y
 leaf:∀{x y},nx x=nx y->f131 (Gf n) F x=f131 (Gf n) F y
 op:∀{x y},nx x=nx y->f132 (Gf n) F x=f132 (Gf n) F y
 qX:∀{i x y},nx x=nx y->f179 (Gf n) i F x=f179 (Gf n) i F y
 part:∀{x y},nx x=nx y->f133 (Gf n) F x=f133 (Gf n) F y
 Y1:∀{x y},nx x=nx y->f134 (Gf n) F x=f134 (Gf n) F y
 wL:∀{x y},nx x=nx y->∀{i s},jw (Gf n) F x i s=jw (Gf n) F y i s
 WC:∀{x y},nx x=nx y->∀{i s},jV (Gf n) F x i s=jV (Gf n) F y i s
 WD:∀{x y},nx x=nx y->∀{i s},nR (Gf n) F x i s=nR (Gf n) F y i s
 WE:∀{i x y},nx x=nx y->f182 (Gf n) i F x=f182 (Gf n) i F y
 set:∀{x y},nx x=nx y->f183 (Gf n) F x=f183 (Gf n) F y
 WG:∀{x y},nx x=nx y->∀{s i},kT (Gf n) F x s i=kT (Gf n) F y s i
 Y2:∀{x y},nx x=nx y->f135 (Gf n) F x=f135 (Gf n) F y
theorem mA {F:cG} {N:Nat} {op:Int} {t:aQ} {n:Int} {tx:List UInt8} {a b:Int} {ks ks':List ab} {p:Prop} (ih:Nk F N) (hk:fK ks=fK ks') (hl:ks.length=ks'.length) (h:nx ⟨op,t,n,tx,a,ks⟩=nx ⟨op,t,n,tx,b,ks'⟩) (k:Nk F N->fK ks=fK ks'->ks.length=ks'.length->nx ⟨op,t,n,tx,a,ks⟩=nx ⟨op,t,n,tx,b,ks'⟩->p:=by
 intro ih hk hl h
 try simp only[ab.aH,hl]
 repeat' (first|with_reducible rfl|exact ih.ev (by assumption)|exact ih.leaf h|exact ih.op h|exact ih.qX h|exact ih.part h|exact ih.Y1 h|exact ih.wL h|exact ih.WC h|exact ih.WD h|exact ih.WE h|exact ih.set h|exact ih.WG h|exact ih.Y2 h|with_reducible refine aiv ?_ ?_|with_reducible refine aiu hk λ_ _ _ _ _ _ _ _ _ _=>?_|with_reducible refine agV ?_ λ_=>?_)):p:=k ih hk hl h
theorem lG {D:Type} {f g:ab->D} {x y:ab} (h:nx x=nx y) (k:∀op t n tx a b ks ks',fK ks=fK ks'->ks.length=ks'.length->nx ⟨op,t,n,tx,a,ks⟩=nx ⟨op,t,n,tx,b,ks'⟩->f ⟨op,t,n,tx,a,ks⟩=g ⟨op,t,n,tx,b,ks'⟩):f x=g y:=by
 obtain⟨op,t,n,tx,a,ks⟩:=x;obtain⟨op',t',n',tx',b,ks'⟩:=y;have e:=h;simp only[nx,ab.mk.injEq,true_and]at e;obtain⟨rfl,rfl,rfl,rfl,e⟩:=e;exact k op t n tx a b ks ks' e (by have:=congrArg List.length e;rw[rE,rE]at this;exact this) h
theorem Y3 {F:cG}:∀n,Nk F n
 |0=>by constructor<;>intros<;>rfl
 |N+1=>by
  have ih:=Y3 (F:=F) N;constructor
  ·intro x y h;refine lG h λop t n tx a b ks ks' hk hl h=>?_;show jL (Gf N) F _=jL (Gf N) F _;exact mA ih hk hl h
  ·intro x y h;refine lG h λop t n tx a b ks ks' hk hl h=>?_;rfl
  ·intro x y h;refine lG h λop t n tx a b ks ks' hk hl h=>?_;show gv (Gf N) F _=gv (Gf N) F _;exact mA ih hk hl h
  ·intro i x y h;refine lG h λop t n tx a b ks ks' hk hl h=>?_;show qJ (Gf N) i F _=qJ (Gf N) i F _;exact mA ih hk hl h
  ·intro x y h;refine lG h λop t n tx a b ks ks' hk hl h=>?_;show nh (Gf N) F _=nh (Gf N) F _;exact mA ih hk hl h
  ·intro x y h;refine lG h λop t n tx a b ks ks' hk hl h=>?_;show kb (Gf N) F _=kb (Gf N) F _;exact mA ih hk hl h
  ·intro x y h i s;refine lG (f:=λx=>jw (Gf (N+1)) F x i s) (g:=λx=>jw (Gf (N+1)) F x i s) h λop t n tx a b ks ks' hk hl h=>?_;show mN (Gf N) F _ i s=mN (Gf N) F _ i s;unfold mN;exact mA ih hk hl h
  ·intro x y h i s;refine lG (f:=λx=>jV (Gf (N+1)) F x i s) (g:=λx=>jV (Gf (N+1)) F x i s) h λop t n tx a b ks ks' hk hl h=>?_;show mO (Gf N) F _ i s=mO (Gf N) F _ i s;unfold mO;exact mA ih hk hl h
  ·intro x y h i s;refine lG (f:=λx=>nR (Gf (N+1)) F x i s) (g:=λx=>nR (Gf (N+1)) F x i s) h λop t n tx a b ks ks' hk hl h=>?_;show nS (Gf N) F _ i s=nS (Gf N) F _ i s;unfold nS;exact mA ih hk hl h
  ·intro i x y h;refine lG h λop t n tx a b ks ks' hk hl h=>?_;show qK (Gf N) i F _=qK (Gf N) i F _;exact mA ih hk hl h
  ·intro x y h;refine lG h λop t n tx a b ks ks' hk hl h=>?_;show qM (Gf N) F _=qM (Gf N) F _;exact mA ih hk hl h
  ·intro x y h s i;refine lG (f:=λx=>kT (Gf (N+1)) F x s i) (g:=λx=>kT (Gf (N+1)) F x s i) h λop t n tx a b ks ks' hk hl h=>?_;show oS (Gf N) F _ s i=oS (Gf N) F _ s i;unfold oS;exact mA ih hk hl h
  ·intro x y h;refine lG h λop t n tx a b ks ks' hk hl h=>?_;show pf (Gf N) F _=pf (Gf N) F _;exact mA ih hk hl h
theorem ae7 {F:cG} {x y:ab} (h:nx x=nx y):(f86 Pf) F x=(f86 Pf) F y:=
 PF.uniq (f:=λn=>f86 (Gf n) F x) (PF.ap (PF.ap (PF.K.k _ Xf.1) F) x) (by rw[funext λn=>(Y3 n).ev h];exact PF.ap (PF.ap (PF.K.k _ Xf.1) F) y)
noncomputable def F1 (t:ag) (a b:Option bZ) (s:af):Option af:=
 a.bind λy=>b.bind λz=>((f184 Pf) t y.d.Name).bind λu=>bif !u then some s else(aj t.ai 0).bind λp=>((f151 Pf) p z.v).bind λv=>bif v then some s else((f43 Pf) t s ⟨0,[y.d.Name],[z.v],[]⟩).bind λj=>some j.1
noncomputable def foldM (t:ag):List (Option bZ×Option bZ)->af->Option bZ
 |[],s=>some ⟨⟨0,0,[],[]⟩,s⟩
 |q::qs,s=>(F1 t q.1 q.2 s).bind λs'=>foldM t qs s'
theorem wL {fr:cG} {x k:ab} {i:Int} (h:aj x.Kids i=some k):(f182 Pf) i fr x=(f86 Pf) fr k:=by
 rw[WJ,qK,h,au];exact tA _
theorem qX {fr:cG} {x k:ab} {i:Int} (h:aj x.Kids i=some k):(f179 Pf) i fr x=(f86 Pf) fr k:=by
 rw[WI,qJ,h,au];exact tA _
theorem Q1 {fr:cG} {x:ab} (h:21<=x.Op) (h':x.Op<=28):(f86 Pf) fr x=(f134 Pf) fr x:=by
 have e1:(x.Op==35)=false:=by simp;omega
 have e2:(x.Op==36)=false:=by simp;omega
 rw[ny,jL,dH (by omega),aC,dH (by omega),aC,dH (by omega),aC,e1,aC,e2,aC,dT h',aB];exact tA _
theorem Ru {fr:cG} {x:ab} (h:7<=x.Op) (h':x.Op<=18):(f86 Pf) fr x=(f132 Pf) fr x:=by
 rw[ny,jL,dH (by omega),aC,dT h',aB];exact tA _
theorem R6 {fr:cG} {w:aQ} {a:Int}:∀(m:Nat) (kids:List (ab×ab)) (j:Nat) (s:af),kids.length=j+m->kids.length<=1000000->(jw Pf) fr ⟨24,w,0,[],a,kids.flatMap λq=>[q.1,q.2]⟩ (2*(j:Int)) s=foldM w.aD ((kids.drop j).map λq=>((f86 Pf) fr q.1,(f86 Pf) fr q.2)) s
 |0,kids,j,s,hj,hl=>by
  have hK:(kids.flatMap λq=>[q.1,q.2]).length=2*kids.length:=zf;have hlt:decide (2*j<(kids.flatMap λq=>[q.1,q.2]).length)=false:=by rw[hK];simp;omega
  rw[show(2*(j:Int))=((2*j:Nat):Int)by omega,E4,mN,ab.aH,a7,hlt,aC,OQ (by omega)];rfl
 |m+1,kids,j,s,hj,hl=>by
  have hK:(kids.flatMap λq=>[q.1,q.2]).length=2*kids.length:=zf;obtain⟨e,he⟩:=bo (l:=kids) (i:=j) (by omega);have fg:=uk (f:=λq:ab×ab=>q.1) (g:=λq:ab×ab=>q.2) he;have hlt:decide (2*j<(kids.flatMap λq=>[q.1,q.2]).length)=true:=by rw[hK];simp;omega
  have z2:IntKind.i64.wrap (((2*j:Nat):Int)+1)=((2*j+1:Nat):Int):=bW _ (by omega);have z3:IntKind.i64.wrap (((2*j:Nat):Int)+2)=2*((j+1:Nat):Int):=by rw[wrap64 (by omega) (by omega)];omega
  have ih:=λs=>R6 (fr:=fr) (w:=w) (a:=a) m kids (j+1) s (by omega) hl;have hd:kids.drop j=e::kids.drop (j+1):=by
   rw[List.drop_eq_getElem_cons (by omega)];congr 1;rw[OD (by omega)]at he;exact pC he
  rw[show(2*(j:Int))=((2*j:Nat):Int)by omega,E4,mN,ab.aH,a7,hlt,aB,z2,z3,hd,dp,foldM,F1];rw[wL (x:=⟨24,w,0,[],a,kids.flatMap λq=>[q.1,q.2]⟩) (bf fg.1),wL (x:=⟨24,w,0,[],a,kids.flatMap λq=>[q.1,q.2]⟩) (bf fg.2)];simp only[ih];cases (f86 Pf) fr e.1 with
  |none=>rfl
  |some y=>
   cases (f86 Pf) fr e.2 with
   |none=>rfl
   |some z=>
    simp only[au];cases (f184 Pf) w.aD y.d.Name with
    |none=>rfl
    |some u=>
     simp only[au];cases u with
     |false=>rfl
     |true=>
      simp only[fL,aC];cases aj w.aD.ai 0 with
      |none=>rfl
      |some p=>
       simp only[au];cases (f151 Pf) p z.v with
       |none=>rfl
       |some v=>
        simp only[au];cases v with
        |true=>rfl
        |false=>
         simp only[aC];cases (f43 Pf) w.aD s ⟨0,[y.d.Name],[z.v],[]⟩with
         |none=>rfl
         |some j=>rfl
theorem Rv {fr:cG} {w:aQ} {a:Int} {kids:List (ab×ab)} (hl:kids.length<=1000000):(f86 Pf) fr ⟨24,w,0,[],a,kids.flatMap λq=>[q.1,q.2]⟩=foldM w.aD (kids.map λq=>((f86 Pf) fr q.1,(f86 Pf) fr q.2)) ⟨0,[],[],[]⟩:=by
 rw[Q1 (by show(21:Int)<=24;decide) (by show(24:Int)<=28;decide),oA,kb];simp only[Int.reduceBEq,aB,aC];exact R6 kids.length kids 0 _ (by omega) hl
theorem SN {fr:cG} {w:aQ} {a:Int} {ks:List ab} {vs:List af} (hl:vs.length=ks.length) (hb:ks.length<=1000000) (h:∀(i:Nat) k v,ks[i]? =some k->vs[i]? =some v->(f86 Pf) fr k=some ⟨⟨0,0,[],[]⟩,v⟩):(f86 Pf) fr ⟨25,w,0,[],a,ks⟩=some ⟨⟨0,0,[],[]⟩,⟨0,[],vs,[]⟩⟩:=by
 rw[Q1 (by show(21:Int)<=25;decide) (by show(25:Int)<=28;decide),oA,kb];simp only[Int.reduceBEq,aB,aC];refine ae.of (eo (L:=λi s=>(jV Pf) fr ⟨25,w,0,[],a,ks⟩ i s) (P:=(·=⟨⟨0,0,[],[]⟩,⟨0,[],vs,[]⟩⟩)) (len:=ks.length) (λi s=>s=vs.take i) (λi s hi hI k=>?_) (λs hI=>?_) 0 [] (by omega) rfl)
 ·show ae ((jV Pf) fr ⟨25,w,0,[],a,ks⟩ i s) _;obtain⟨x,hx⟩:=bo hi;obtain⟨v,hv⟩:=bo (l:=vs) (i:=i) (by omega);have:decide (i<ks.length)=true:=by simpa using hi
  have hsl:s.length<=i:=by rw[hI];simp;omega
  rw[E5,mO,ab.aH,a7,this,aB,wL (x:=⟨25,w,0,[],a,ks⟩) (bf hx),h i x v hx hv,au,Hn (by simp;omega),aB,bW i (by omega)];exact k _ (by rw[hI,<-Ho hv])
 ·show ae ((jV Pf) fr ⟨25,w,0,[],a,ks⟩ ks.length s) _;have:decide (ks.length<ks.length)=false:=by simp
  rw[E5,mO,ab.aH,a7,this,aC];exact ae.ret (by rw[hI,<-hl,eV])
section
variable {B:Nat} (hB:B<=1048576) {c:cI} (hc:CE B c) {st:af} {args:List bD} (hst:VE c.l st) (bst:BV 1048576 st) (hargs:∀(i:Nat) p,c.params[i]? =some p->∃d,args[i]? =some d/\DV p.a6 d/\d.Names.length<=1048576)
include hB
theorem Rt {fr:cG} {x:ab} (h:x.Op=6) (hw:bx B x.aO) (hs:x.aO.a6=0):(f86 Pf) fr x=some ⟨⟨0,0,[],[]⟩,bot x.aO.aD⟩:=by
 have hl:=hw.dz hs;rw[ny,jL,dT (by omega),aB,qI,mr,h];simp only[Int.reduceBEq,aB,aC];rw[yA hB hl.2 hl.1];rfl
