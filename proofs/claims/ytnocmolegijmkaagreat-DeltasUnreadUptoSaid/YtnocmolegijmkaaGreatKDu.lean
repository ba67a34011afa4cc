/- Without the state in it, the derivative of an expression evaluates to what the expression does. -/
import Derived.Test.YtnocmolegijmkaaGreatKUn
import Derived.Test.YtnocmolegijmkaaGreatKDa
import Derived.Test.YtnocmolegijmkaaGreatKG10
import Derived.Test.YtnocmolegijmkaaGreatKGk
set_option linter.all false
namespace Go.Proofs.YtnocmolegijmkaaGreat
open Go Go.Bw
theorem fH.op {x:ab} (h:fH x):x.Op≠5:=by cases h;assumption
theorem fH.bM {x k:ab} (h:fH x) (hk:k∈x.Kids):fH k:=by cases h with|mk _ h=>exact h k hk
theorem T0:∀l:List ab,kg l=l.map nx
 |[]=>rfl
 |k::l=>by rw[kg,T0 l];rfl
theorem V1:∀e:ab,fH (nx e)↔fH e:=by
 refine ab.ind λe ih=>?_;have h1:(nx e).Op=e.Op:=by cases e;rfl
 have h2:(nx e).Kids=e.Kids.map nx:=by cases e;rw[nx,T0]
 constructor
 ·intro h;exact .mk (h1▸h.op) λk hk=>(ih k hk).1 (h.bM (by rw[h2];exact dy.2 ⟨k,hk,rfl⟩))
 ·intro h;refine .mk (h1▸h.op) λk hk=>?_;rw[h2]at hk;obtain⟨j,hj,rfl⟩:=dy.1 hk;exact(ih j hj).2 (h.bM hj)
theorem zc {p e:ab} (h:fH e) (hp:¬fH p):¬b5 p e=true:=λg=>by
 have g:=qY.1 g;exact hp ((V1 p).1 (g▸(V1 e).2 h))
theorem afe {p:ab} {i:Nat} (h:¬fH p):¬fH (lv p i):=λg=>h (g.bM (by simp[lv]))
theorem agm {p k:ab} (h:¬fH p):¬fH (eL p k):=λg=>h (g.bM (by simp[eL]))
noncomputable def An (t:ai) (a b:Option bP) (s:ah):Option ah:=
 a.bind λy=>b.bind λz=>((f184 Pf) t y.d.Name).bind λu=>bif !u then some s else(aq t.ak 0).bind λp=>((f151 Pf) p z.v).bind λv=>bif v then some s else((f43 Pf) t s ⟨0,[y.d.Name],[z.v],[]⟩).bind λj=>some j.1
noncomputable def foldM (t:ai):List (Option bP×Option bP)->ah->Option bP
 |[],s=>some ⟨⟨0,0,[],[]⟩,s⟩
 |q::qs,s=>(An t q.1 q.2 s).bind λs'=>foldM t qs s'
theorem vX {fr:cL} {x k:ab} {i:Int} (h:aq x.Kids i=some k):(f182 Pf) i fr x=(f86 Pf) fr k:=by
 rw[XT,vY,h,ax];exact Dx _
theorem xe {fr:cL} {x k:ab} {i:Int} (h:aq x.Kids i=some k):(f179 Pf) i fr x=(f86 Pf) fr k:=by
 rw[XU,vZ,h,ax];exact Dx _
theorem Ea {fr:cL} {x:ab} (h:21<=x.Op) (h':x.Op<=28):(f86 Pf) fr x=(f134 Pf) fr x:=by
 have e1:(x.Op==35)=false:=by simp;omega
 have e2:(x.Op==36)=false:=by simp;omega
 rw[qz,mb,dH (by omega),aC,dH (by omega),aC,dH (by omega),aC,e1,aC,e2,aC,dN h',aB];exact Dx _
theorem SK {fr:cL} {x:ab} (h:7<=x.Op) (h':x.Op<=18):(f86 Pf) fr x=(f132 Pf) fr x:=by
 rw[qz,mb,dH (by omega),aC,dN h',aB];exact Dx _
theorem SL {fr:cL} {w:aP} {a:Int}:∀(m:Nat) (kids:List (ab×ab)) (j:Nat) (s:ah),kids.length=j+m->kids.length<=1000000->(kX Pf) fr ⟨24,w,0,[],a,kids.flatMap λq=>[q.1,q.2]⟩ (2*(j:Int)) s=foldM w.aJ ((kids.drop j).map λq=>((f86 Pf) fr q.1,(f86 Pf) fr q.2)) s
 |0,kids,j,s,hj,hl=>by
  have hK:(kids.flatMap λq=>[q.1,q.2]).length=2*kids.length:=yn;have hlt:decide (2*j<(kids.flatMap λq=>[q.1,q.2]).length)=false:=by rw[hK];simp;omega
  rw[show(2*(j:Int))=((2*j:Nat):Int)by omega,ES,px,ab.aF,aW,hlt,aC,PW (by omega)];rfl
 |m+1,kids,j,s,hj,hl=>by
  have hK:(kids.flatMap λq=>[q.1,q.2]).length=2*kids.length:=yn;obtain⟨e,he⟩:=bm (l:=kids) (i:=j) (by omega);have fg:=tJ (f:=λq:ab×ab=>q.1) (g:=λq:ab×ab=>q.2) he;have hlt:decide (2*j<(kids.flatMap λq=>[q.1,q.2]).length)=true:=by rw[hK];simp;omega
  have z2:IntKind.i64.wrap (((2*j:Nat):Int)+1)=((2*j+1:Nat):Int):=bO _ (by omega);have z3:IntKind.i64.wrap (((2*j:Nat):Int)+2)=2*((j+1:Nat):Int):=by rw[wrap64 (by omega) (by omega)];omega
  have ih:=λs=>SL (fr:=fr) (w:=w) (a:=a) m kids (j+1) s (by omega) hl;have hd:kids.drop j=e::kids.drop (j+1):=by
   rw[List.drop_eq_getElem_cons (by omega)];congr 1;rw[Hg (by omega)]at he;exact oZ he
  rw[show(2*(j:Int))=((2*j:Nat):Int)by omega,ES,px,ab.aF,aW,hlt,aB,z2,z3,hd,dj,foldM,An];rw[vX (x:=⟨24,w,0,[],a,kids.flatMap λq=>[q.1,q.2]⟩) (a7 fg.1),vX (x:=⟨24,w,0,[],a,kids.flatMap λq=>[q.1,q.2]⟩) (a7 fg.2)];simp only[ih];cases (f86 Pf) fr e.1 with
  |none=>rfl
  |some y=>
   cases (f86 Pf) fr e.2 with
   |none=>rfl
   |some z=>
    simp only[ax];cases (f184 Pf) w.aJ y.d.Name with
    |none=>rfl
    |some u=>
     simp only[ax];cases u with
     |false=>rfl
     |true=>
      simp only[fA,aC];cases aq w.aJ.ak 0 with
      |none=>rfl
      |some p=>
       simp only[ax];cases (f151 Pf) p z.v with
       |none=>rfl
       |some v=>
        simp only[ax];cases v with
        |true=>rfl
        |false=>
         simp only[aC];cases (f43 Pf) w.aJ s ⟨0,[y.d.Name],[z.v],[]⟩with
         |none=>rfl
         |some j=>rfl
theorem SM {fr:cL} {w:aP} {a:Int} {kids:List (ab×ab)} (hl:kids.length<=1000000):(f86 Pf) fr ⟨24,w,0,[],a,kids.flatMap λq=>[q.1,q.2]⟩=foldM w.aJ (kids.map λq=>((f86 Pf) fr q.1,(f86 Pf) fr q.2)) ⟨0,[],[],[]⟩:=by
 rw[Ea (by show(21:Int)<=24;decide) (by show(24:Int)<=28;decide),lZ,jK];simp only[Int.reduceBEq,aB,aC];exact SL kids.length kids 0 _ (by omega) hl
theorem SN {fr:cL} {w:aP} {a:Int} {ks ds:List ab} (hl:ds.length=ks.length) (hb:ks.length<=1000000) (h:∀(i:Nat) k d,ks[i]? =some k->ds[i]? =some d->(f86 Pf) fr d=(f86 Pf) fr k):∀(m i:Nat) s,ks.length=i+m->(ky Pf) fr ⟨25,w,0,[],a,ds⟩ (i:Int) s=(ky Pf) fr ⟨25,w,0,[],a,ks⟩ (i:Int) s
 |0,i,s,hi=>by
  have e1:decide (i<ds.length)=false:=by simp;omega
  have e2:decide (i<ks.length)=false:=by simp;omega
  rw[py,lP,py,lP,ab.aF,ab.aF,aW,aW,e1,e2];rfl
 |m+1,i,s,hi=>by
  have e1:decide (i<ds.length)=true:=by simp;omega
  have e2:decide (i<ks.length)=true:=by simp;omega
  obtain⟨k,hk⟩:=bm (l:=ks) (i:=i) (by omega);obtain⟨d,hd⟩:=bm (l:=ds) (i:=i) (by omega);rw[py,lP,py,lP,ab.aF,ab.aF,aW,aW,e1,e2,vX (x:=⟨25,w,0,[],a,ds⟩) (a7 hd),vX (x:=⟨25,w,0,[],a,ks⟩) (a7 hk),h i k d hk hd,bO i (by omega)];simp only[SN hl hb h m (i+1) _ (by omega)]
theorem adD {fr:cL} {w:aP} {a:Int} {ks ds:List ab} (hl:ds.length=ks.length) (hb:ks.length<=1000000) (h:∀(i:Nat) k d,ks[i]? =some k->ds[i]? =some d->(f86 Pf) fr d=(f86 Pf) fr k):(f86 Pf) fr ⟨25,w,0,[],a,ds⟩=(f86 Pf) fr ⟨25,w,0,[],a,ks⟩:=by
 rw[Ea (by show(21:Int)<=25;decide) (by show(25:Int)<=28;decide),Ea (by show(21:Int)<=25;decide) (by show(25:Int)<=28;decide),lZ,jK,lZ,jK];simp only[Int.reduceBEq,aB,aC];exact SN hl hb h ks.length 0 _ (by omega)
section
variable {B:Nat} (hB:B<=1048576) {c:cD} (hc:CE B c) {st:ah} {args:List br} (hst:VE c.l st) (bst:BV 1048576 st) (hargs:∀(i:Nat) p,c.params[i]? =some p->∃d,args[i]? =some d/\DV p.a6 d/\d.Names.length<=1048576)
include hB
theorem SO {fr:cL} {x:ab} (h:x.Op=6) (hw:bw B x.aO) (hs:x.aO.a6=0):(f86 Pf) fr x=some ⟨⟨0,0,[],[]⟩,bot x.aO.aJ⟩:=by
 have hl:=hw.dE hs;rw[qz,mb,dN (by omega),aB,sq,mL,h];simp only[Int.reduceBEq,aB,aC];rw[D0 hB hl.2 hl.1];rfl
theorem adE {fr:cL} {w:aP} {a:Int} {ks:List ab} (hk:w.aJ.Kind=6) (hl:ks.length=w.aJ.ak.length) (hb:ks.length<=1000000) (h:∀(i:Nat) k p,ks[i]? =some k->w.aJ.ak[i]? =some p->(f86 Pf) fr k=some ⟨⟨0,0,[],[]⟩,bot p⟩):(f86 Pf) fr ⟨25,w,0,[],a,ks⟩=some ⟨⟨0,0,[],[]⟩,bot w.aJ⟩:=by
 rw[Ea (by show(21:Int)<=25;decide) (by show(25:Int)<=28;decide),lZ,jK];simp only[Int.reduceBEq,aB,aC];refine ae.of (dZ (L:=λi s=>(ky Pf) fr ⟨25,w,0,[],a,ks⟩ i s) (P:=(·=⟨⟨0,0,[],[]⟩,bot w.aJ⟩)) (len:=ks.length) (λi s=>s=(w.aJ.ak.take i).map bot) (λi s hi hI k=>?_) (λs hI=>?_) 0 [] (by omega) rfl)
 ·show ae ((ky Pf) fr ⟨25,w,0,[],a,ks⟩ i s) _;obtain⟨x,hx⟩:=bm hi;obtain⟨p,hp⟩:=bm (l:=w.aJ.ak) (i:=i) (by omega);have:decide (i<ks.length)=true:=by simpa using hi
  have hsl:s.length<=i:=by rw[hI];simp;omega
  rw[py,lP,ab.aF,aW,this,aB,vX (x:=⟨25,w,0,[],a,ks⟩) (a7 hx),h i x p hx hp,ax,eC (by simp;omega),aB,bO i (by omega)];exact k _ (by rw[hI,<-GG hp,oX];rfl)
 ·show ae ((ky Pf) fr ⟨25,w,0,[],a,ks⟩ ks.length s) _;have:decide (ks.length<ks.length)=false:=by simp
  rw[py,lP,ab.aF,aW,this,aC];refine ae.ret ?_;rw[hI,hl,eN,uZ,aM (by omega),aM (by omega),bf (.inl hk)]
include hc hst bst hargs
theorem adC {e:ab} {w:aP} (h:W c.l c.params e w):bw B w->w.a6=0->TT B e->cd e<=60000->fH e->∀p,¬fH p->(f86 Pf) ⟨st,args⟩ (bY b5 p e)=(f86 Pf) ⟨st,args⟩ e:=by
 have lf:∀{e:ab},(e.Op≠16/\e.Op≠7/\e.Op≠25/\e.Op≠24)->fH e->∀p,¬fH p->(f86 Pf) ⟨st,args⟩ (bY b5 p e)=(f86 Pf) ⟨st,args⟩ e:=λho hn p hp=>by
  rw[Eu ho,aM (zc hn hp)]
 have val:∀{e:ab} {w:aP},W c.l c.params e w->bw B w->w.a6=0->TT B e->cd e<=60000->∃v,(f86 Pf) ⟨st,args⟩ e=some ⟨⟨0,0,[],[]⟩,v⟩/\VE w.aJ v/\BV 137438953472 v:=λh hw hs ht hk=>by
  obtain⟨r,e,hr⟩:=Ev hB hc hst bst hargs h ht hk;rw[h.ty hw.dP]at hr;obtain⟨v,rfl,h1,h2⟩:=hr.val hs;exact⟨v,e,h1,h2.mono (by omega)⟩
 have bts:∀{e p:ab} {w:aP},W c.l c.params e w->bw B w->w.a6=0->(bY b5 p e).Op=6->(f86 Pf) ⟨st,args⟩ (bY b5 p e)=some ⟨⟨0,0,[],[]⟩,bot w.aJ⟩:=λ{e p w} h hw hs ho=>by
  have hd:=Xq (q:=b5) hc h hw hs p;have:=SO hB (fr:=⟨st,args⟩) ho (by rw[hd.ty hw.dP];exact hw) (by rw[hd.ty hw.dP];exact hs);rw[hd.ty hw.dP]at this;exact this
 have be:∀{e:ab} {w:aP},e.aO=w->bw B w->w.a6=0->(f86 Pf) ⟨st,args⟩ (gA e)=some ⟨⟨0,0,[],[]⟩,bot w.aJ⟩:=λ{e w} h hw hs=>by
  subst h;exact SO hB (fr:=⟨st,args⟩) (x:=gA e) rfl hw hs
 induction h with
 |v7 hn=>intro hw;rw[hw.dP]at hn;cases hn
 |v8 hn=>intro hw;rw[hw.dP]at hn;cases hn
 |vK hn=>intro hw;rw[hw.dP]at hn;cases hn
 |vL hn=>intro hw;rw[hw.dP]at hn;cases hn
 | @oJ cc x y a w hn wc wx wy ic ix iy=>
  intro hw hs ht hk hno p hp;have hc3:cd ⟨7,w,0,[],a,[cc,x,y]⟩=1+(cd cc+(cd x+(cd y+0))):=by rw[cd];simp only[cV]
  have hx:=ix hw hs (ht.bM (by simp)) (by omega) (hno.bM (by simp)) p hp;have hy:=iy hw hs (ht.bM (by simp)) (by omega) (hno.bM (by simp)) p hp;obtain⟨r,er,hr⟩:=Ev hB hc hst bst hargs wc (ht.bM (by simp)) (by omega);have ev:∀x' y',(f86 Pf) ⟨st,args⟩ ⟨7,w,0,[],a,[cc,x',y']⟩=bif r.d.N==1 then(f86 Pf) ⟨st,args⟩ x' else(f86 Pf) ⟨st,args⟩ y':=λx' y'=>by
   rw[SK (by show(7:Int)<=7;decide) (by show(7:Int)<=18;decide),jL,gO];simp only[Int.reduceBEq,aB,aC];rw[xe (x:=⟨7,w,0,[],a,[cc,x',y']⟩) (i:=0) rfl,xe (x:=⟨7,w,0,[],a,[cc,x',y']⟩) (i:=1) rfl,xe (x:=⟨7,w,0,[],a,[cc,x',y']⟩) (i:=2) rfl,er,ax];cases (r.d.N==1)
   ·exact Dx _
   ·exact Dx _
  rw[iC,aM (zc hno hp)];show(f86 Pf) ⟨st,args⟩ (kN _ [cc,x,y] (cB b5 p [cc,x,y]))=_;rw[cB,cB,cB,cB,kN];split
  ·rename_i hb;rw[be rfl hw hs,ev,<-hx,<-hy,bts wx hw hs hb.1,bts wy hw hs hb.2];cases (r.d.N==1)<;>rfl
  ·rw[show gx ⟨7,w,0,[],a,[cc,x,y]⟩ [cc,bY b5 p x,bY b5 p y]=⟨7,w,0,[],a,[cc,bY b5 p x,bY b5 p y]⟩from rfl,ev,ev,hx,hy]
 | @qe x y a w hn hs' wx wy ix iy=>
  intro hw hs ht hk hno p hp;have hc3:cd ⟨16,w,0,[],a,[x,y]⟩=1+(cd x+(cd y+0)):=by rw[cd];simp only[cV]
  have hx:=ix hw hs (ht.bM (by simp)) (by omega) (hno.bM (by simp)) p hp;have hy:=iy hw hs (ht.bM (by simp)) (by omega) (hno.bM (by simp)) p hp;obtain⟨u,eu,vu,bu⟩:=val wx hw hs (ht.bM (by simp)) (by omega);obtain⟨v,ev',vv,bv⟩:=val wy hw hs (ht.bM (by simp)) (by omega);have hl:=hw.dE hs;obtain⟨j,ej,j0,hj,_⟩:=IF hB hl.2 hl.1 vu vv bu bv;have ev:∀x' y',(f86 Pf) ⟨st,args⟩ x'=some ⟨⟨0,0,[],[]⟩,u⟩->(f86 Pf) ⟨st,args⟩ y'=some ⟨⟨0,0,[],[]⟩,v⟩->(f86 Pf) ⟨st,args⟩ ⟨16,w,0,[],a,[x',y']⟩=some ⟨⟨0,0,[],[]⟩,j.1⟩:=λx' y' e1 e2=>by
   rw[SK (by show(7:Int)<=16;decide) (by show(16:Int)<=18;decide),jL,gO];simp only[Int.reduceBEq,aB,aC];rw[xe (x:=⟨16,w,0,[],a,[x',y']⟩) (i:=0) rfl,xe (x:=⟨16,w,0,[],a,[x',y']⟩) (i:=1) rfl,e1,e2,ax,ax,ej];rfl
  rw[iC,aM (zc hno hp)];show(f86 Pf) ⟨st,args⟩ (kO _ (cB b5 p [x,y]))=_;rw[cB,cB,cB,kO,ev x y eu ev'];split
  ·rename_i hb;have hb:=bts wx hw hs hb;rw[hx,eu]at hb;simp only[aD,bP.mk.injEq,true_and]at hb;subst hb;rw[hy,ev',gC.unique hl.1 hj (.bot hl.1 vv)]
  ·split
   ·rename_i hb;have hb:=bts wy hw hs hb;rw[hy,ev']at hb;simp only[aD,bP.mk.injEq,true_and]at hb;subst hb;rw[hx,eu,gC.unique hl.1 hj (gC.bot hl.1 vu).comm]
   ·exact ev _ _ (hx.trans eu) (hy.trans ev')
 | @ql kids a w h0 hk6 _ hl wk ik=>
  intro hw hs ht hk hno p hp;have hc3:cd ⟨25,w,0,[],a,kids⟩=1+cV kids:=by rw[cd]
  have hKc:kids.length<=cV kids:=tv;have pt:∀(i:Nat) k,kids[i]? =some k->∃q,w.aJ.ak[i]? =some q/\bw B (dc q):=λi k h=>by
   obtain⟨q,hq⟩:=bm (l:=w.aJ.ak) (i:=i) (by have:=(cr.1 h).1;omega);exact⟨q,hq,iP hw hs (aY hq)⟩
  have hkid:∀(i:Nat) k d,kids[i]? =some k->(eE b5 p 0 kids)[i]? =some d->(f86 Pf) ⟨st,args⟩ d=(f86 Pf) ⟨st,args⟩ k:=λi k d h1 h2=>by
   rw[tP,h1]at h2;cases h2;obtain⟨q,hq,hq'⟩:=pt i k h1;have hm:=aY h1;have:=od hm;exact ik i k q h1 hq hq' rfl (ht.bM hm) (by omega) (hno.bM hm) _ (afe hp)
  rw[iC,aM (zc hno hp)];show(f86 Pf) ⟨st,args⟩ (lz _ (eE b5 p 0 kids))=_;rw[lz];split
  ·rename_i hb;rw[be rfl hw hs,adE hB hk6 hl (by omega)];intro i k q h1 h2;have h3:(eE b5 p 0 kids)[i]? =some (bY b5 (lv p (0+i)) k):=by rw[tP,h1];rfl
   rw[<-hkid i k _ h1 h3];refine bts (wk i k q h1 h2) (iP hw hs (aY h2)) rfl ?_;have:=fS.1 hb _ (aY h3);simpa using this
  ·exact adD (qT _ _ _) (by omega) hkid
 | @map kids q a w h0 hk5 _ hq wk wv i1 i2=>
  intro hw hs ht hk hno p hp;have hc3:cd ⟨24,w,0,[],a,kids.flatMap λq=>[q.1,q.2]⟩=1+cV (kids.flatMap λq=>[q.1,q.2]):=by rw[cd]
  have hKc:(kids.flatMap λq=>[q.1,q.2]).length<=cV (kids.flatMap λq=>[q.1,q.2]):=tv;rw[yn]at hKc;have hqt:=iP hw hs (aY hq);have hql:=hqt.dE rfl;have m1:∀{r},r∈kids->r.1∈(kids.flatMap λq=>[q.1,q.2]):=λh=>gF.2 ⟨_,h,by simp⟩;have m2:∀{r},r∈kids->r.2∈(kids.flatMap λq=>[q.1,q.2]):=λh=>gF.2 ⟨_,h,by simp⟩;have hv:∀r∈kids,(f86 Pf) ⟨st,args⟩ (bY b5 (eL p r.1) r.2)=(f86 Pf) ⟨st,args⟩ r.2:=λr hr=>by
   have:=od (m2 hr);exact i2 r hr hqt rfl (ht.bM (m2 hr)) (by omega) (hno.bM (m2 hr)) _ (agm hp)
  have hf:∀(l:List (ab×ab)) (s:ah),(∀r∈l,r∈kids)->foldM w.aJ ((iI b5 p l).map λq=>((f86 Pf) ⟨st,args⟩ q.1,(f86 Pf) ⟨st,args⟩ q.2)) s=foldM w.aJ (l.map λq=>((f86 Pf) ⟨st,args⟩ q.1,(f86 Pf) ⟨st,args⟩ q.2)) s:=by
   intro l
   induction l with
   |nil=>intro s _;rfl
   |cons r l ih=>
    intro s hm;have hr:=hm r (by simp);have ih:=λs=>ih s λx hx=>hm x (by simp[hx]);rw[iI,anT];split
    ·rename_i hn;split at hn
     ·rename_i hb;have hb:=bts (wv r hr) hqt rfl hb;rw[hv r hr]at hb;have c1:=od (m1 hr);obtain⟨y,ey,hy⟩:=Ev hB hc hst bst hargs (wk r hr) (ht.bM (m1 hr)) (by omega);rw[(wk r hr).ty rfl]at hy;obtain⟨nm,rfl,hnm⟩:=hy.name;have hLn:w.aJ.Names.length<=B:=by have:=(hw.dE hs).2;rw[ai.dA]at this;exact this.2.2.2.1.1
      obtain⟨g,eg,hg⟩:=Qy (v:=bot q) hB hql.2 hql.1 ((u0 hql.1).sv (by omega) (zW hB _ hql.2));rw[hg.2 rfl]at eg;have st1:An w.aJ ((f86 Pf) ⟨st,args⟩ r.1) ((f86 Pf) ⟨st,args⟩ r.2) s=some s:=by
       rw[An,ey,hb,ax,ax,DL (by omega),ax];have e0:aq w.aJ.ak 0=some q:=hq;have e1:(f151 Pf) q (⟨⟨0,0,[],[]⟩,bot (dc q).aJ⟩:bP).v=some true:=eg;rw[e0,ax,e1,ax];cases eO w.aJ.Names nm<;>rfl
      rw[dj,foldM,st1,ax];exact ih s
     ·cases hn
    ·rename_i b hn;split at hn
     ·cases hn
     ·cases hn;rw[dj,dj,foldM,foldM];show(An w.aJ ((f86 Pf) ⟨st,args⟩ r.1) ((f86 Pf) ⟨st,args⟩ (bY b5 (eL p r.1) r.2)) s).bind _=_;rw[hv r hr];exact congrArg _ (funext ih)
  have hf:=hf kids ⟨0,[],[],[]⟩ λ_ h=>h;rw[iC,aM (zc hno hp)];show(f86 Pf) ⟨st,args⟩ (lA _ (dW b5 p none (kids.flatMap λq=>[q.1,q.2])))=_;rw[ET,SM (by omega),lA];split
  ·rename_i hb;have hb:iI b5 p kids=[]:=by
    cases hd:iI b5 p kids with
    |nil=>rfl
    |cons x l=>rw[hd]at hb;simp at hb
   have hbt:bot w.aJ=⟨0,[],[],[]⟩:=by rw[uZ,aM (by omega),aM (by omega),aM (by omega)]
   rw[be rfl hw hs,<-hf,hb,hbt];rfl
  ·rw[show gx ⟨24,w,0,[],a,kids.flatMap λq=>[q.1,q.2]⟩ ((iI b5 p kids).flatMap λq=>[q.1,q.2])=⟨24,w,0,[],a,(iI b5 p kids).flatMap λq=>[q.1,q.2]⟩from rfl,SM (kids:=iI b5 p kids) (iO (aaw ..) (by omega)),hf]
 |sL h1 h2 h3 h4 h5=>intro _ _ _ _;exact lf (by simp at h1⊢;omega)
 |part h1 h2 h3 h4 h5 h6=>intro _ _ _ _;exact lf (by simp;omega)
 |conn h1 h2 h3 h4=>intro _ _ _ _;exact lf (by simp;omega)
 |less h1 h2 h3 h4=>intro _ _ _ _;exact lf (by simp;omega)
 |qn h1 h2 h3 h4=>intro _ _ _ _;exact lf (by simp;omega)
 |_=>intro _ _ _ _;exact lf (by simp)
end
theorem abO {B:Nat} (hB:B<=1048576) {f:b9} {v:ah} {args:List br} (hv:v.ok B) (ha:pM B args):ae ((f8 Pf) f v args) (λr=>r=true->cd f.Body<=60):=by
 rw[e8,B8];have no:∀{p:Prop},false=true->p:=λh=>by cases h
 refine ae.bind (abP f.Body (k:=60) (by decide) (by decide)) (λy hy=>ae.bif (λh=>?_) (λh=>?_))
 ·exact ae.ret no
 have hy:cd f.Body<=60:=by have:=hy (by simpa using h);omega
 refine ae.bind (abQ (Xn hB v hv) (k:=40) (by decide) (by decide)) (λ_ _=>ae.bif (λ_=>ae.ret no) (λ_=>ae.bif (λ_=>ae.ret no) (λ_=>ae.bif (λ_=>ae.ret no) (λ_=>?_))));have hl:=ha.1;refine fT (L:=λi=>(rW Pf) args i) (P:=λr=>r=true->cd f.Body<=60) (len:=args.length) (λ_=>True) (λi hi _ k=>?_) (λ_=>?_) 0 (by omega) trivial
 ·show ae ((rW Pf) args i) _;obtain⟨y,hy'⟩:=bm hi;have:decide (i<args.length)=true:=by simpa using hi
  rw[Xo,vJ,br.aF,aW,this,aB,a7 hy',ax,bO i (by omega)];exact ae.bif (λ_=>ae.ret no) (λ_=>k trivial)
 ·show ae ((rW Pf) args args.length) _;have:decide (args.length<args.length)=false:=by simp
  rw[Xo,vJ,br.aF,aW,this,aC];exact ae.ret λ_=>hy
def nJ (l:ai):ab:=⟨5,dc l,0,[],0,[]⟩
section
variable {B:Nat} (hB:B<=1048576)
include hB
theorem adA {l:ai} {f:b9} {v:ah} {args:List br} (hl:l.ok B) (hf:f.ok B) (hv:v.ok B) (ha:pM B args):ae ((f14 Pf) l f v args) (λr=>r=true->cd f.Body<=60/\f.Result=0/\Good B l f v args/\(f12 Pf) l f=some true/\(f37 Pf) l v=some true/\(f38 Pf) f.Params args=some 0):=by
 rw[e14,Co];have no:∀{p:Prop},false=true->p:=λh=>by cases h
 refine ae.bind (abO hB hv ha) (λy hy=>ae.bif (λh=>ae.ret no) (λh=>ae.bif (λ_=>ae.ret no) (λh0=>?_)));have hc:=hy (by simpa using h);have h0:f.Result=0:=by simpa using h0
 obtain⟨b2,q2,h2⟩:=acx hB hl hf;rw[q2,ax];refine ae.bif (λe2=>?_) (λ_=>ae.ret no);subst e2;have vf:=h2 rfl;obtain⟨b3,q3,h3⟩:=TZ hB hl (Xn hB v hv);rw[q3,ax];refine ae.bif (λe3=>?_) (λ_=>ae.ret no);subst e3;have hpl:f.Params.length<=B:=vf.ce.num;obtain⟨b4,q4,h4⟩:=acy hB (ps:=f.Params) (by omega) (adB hB ha);rw[q4,ax];refine ae.ret λe=>?_;have e:b4=0:=by simpa using e
 subst e;exact⟨hc,h0,⟨vf,(h3.1 rfl).2,h4.1 rfl⟩,rfl,rfl,rfl⟩
theorem aa5 {l:ai} {f:b9} {v:ah} {args:List br} (hl:l.ok B) (hf:f.ok B) (hv:v.ok B) (ha:pM B args):(f6 Pf) l f v args=some true:=by
 rw[e6,B6,x7,ag5,ax,fA,aC];refine ae.of (ae.bind (adA hB hl hf hv ha) (λy1 h1=>ae.bif (λ_=>ae.ret rfl) (λe1=>?_)));obtain⟨hc,h0,g,q2,q3,q4⟩:=h1 (by simpa using e1);refine ae.bind (acz hB f.Body hf.2.2.2.2) (λy2 h2=>ae.bif (λ_=>ae.ret rfl) (λe2=>?_));have hno:=h2 e2;have hb0:(f.Result !=0)=false:=by rw[h0];rfl
 have hb1:(f.Result==0)=true:=by rw[h0];rfl
 have e:jH l f=dc l:=by unfold jH;rw[h0];rfl
 have hwt:bw B (dc l):=bw.of g.vf.ce.dE g.vf.ce.ok;have hw:W l f.Params f.Body (dc l):=e▸g.vf.body;have hbk:=hf.2.2.2.2;have hroot:¬fH (nJ l):=λh=>h.op rfl;have hrt:TT B (nJ l):= .mk hwt (λk hk=>by simp[nJ]at hk);have hpl:=hf.2.2.1.1;have ed:(f27 Pf) ⟨5,⟨0,l⟩,0,[],0,[]⟩ f.Body=some (bY b5 (nJ l) f.Body):=acA hB g.vf.ce hw hwt rfl hbk g.vf.tt (nJ l) hrt rfl;have hev:=adC hB g.vf.ce g.ve (Xp hB v hv) (args:=args) (λi p hp=>by
  obtain⟨d,hd⟩:=bm (l:=args) (i:=i) (by have:=(cr.1 hp).1;have:=g.fits.1;simp only at*;omega);exact⟨d,hd,g.fits.2 i p d hp hd,(Jj hB ha d (aY hd)).2.1⟩) hw hwt rfl g.vf.tt (by omega) hno (nJ l) hroot
 have ht:f.Body.aO=dc l:=hw.ty hwt.dP;have htd:(bY b5 (nJ l) f.Body).aO=dc l:=(Xq g.vf.ce hw hwt rfl (nJ l)).ty hwt.dP;obtain⟨r,er,r0,rv,rs⟩:=acB hB hv ha g (by omega) h0;have eval:(f40 Pf) (bY b5 (nJ l) f.Body) v args=some r:=by
  rw[<-er,OB,sK,OB,sK,hev,ht,htd]
 have eD:(f15 Pf) l f v args=some r:=by
  rw[e15,Cp,e39,Cq,e9,B9,q2,q3,q4];simp only[ax,fA,aC,hb0];rw[show(f25 Pf) f.Params=some f.Params by rw[e25];exact nf (by omega),ax,ed,ax,abR hB _ (agl _ hbk _)];show((f40 Pf) (bY b5 (nJ l) f.Body) v args).bind _=_;rw[eval];rfl
 have eU:(f16 Pf) l f v args=some r:=by
  rw[e16,Cr,e41,Cs,q2,q3,q4];simp only[ax,fA,aC,hb1];show((f40 Pf) f.Body v args).bind _=_;rw[er];rfl
 rw[eD,eU,ax,ax,r0];show ae (((f17 Pf) r.1 r.1).bind _) _;rw[abS rs];exact ae.ret rfl
end
theorem aeJ {B n:Nat} {row:List AV} (h:Sh Tryz.prog B n 47 row):∃l:List br,row=[.sl 4 (br.rows l)]/\pM B l:=by
 obtain⟨m,rows,rfl,rfl,hB,h⟩:=lK (show Tryz.prog.underlying 47=some (.slice 60)by kernel_rfl) (show Tryz.prog.cellsOf 60=4 by kernel_rfl) h;obtain⟨xs,rfl,hx⟩:=kR (f:=br.cs) (p:=λd=>br.ok B d) (rows:=rows) (λr hr=>br.sh _ _ (h r hr));exact⟨xs,rfl,by simpa using hB,hx⟩
set_option maxRecDepth 100000 in
theorem aaB (xs:List AV) (h:uV Tryz.prog 1048576 Tryz.f6.params.toList xs):Bw.Pure env.toCx 6 xs (.ret (W5 true)):=by
 rw[Tryz.params6]at h;obtain⟨x,r,rfl,hx,x2,r2,rfl,hx2,x3,r3,rfl,hx3,x4,r4,rfl,hx4,hr⟩:=h;simp only[uV]at hr;subst hr;simp only[oB,Tryz.underlying26,Tryz.underlying34,Tryz.underlying40,show Tryz.prog.underlying 47=some (.slice 60)by kernel_rfl]at hx hx2 hx3 hx4;obtain⟨n,row,hx,rfl⟩:=hx;obtain⟨n2,row2,hx2,rfl⟩:=hx2;obtain⟨n3,row3,hx3,rfl⟩:=hx3;obtain⟨n4,hx4⟩:=hx4;obtain⟨l,rfl,hl⟩:=ai.sh _ _ hx;obtain⟨f,rfl,hf⟩:=b9.sh _ _ hx2;obtain⟨v,rfl,hv⟩:=ah.sh _ _ hx3;obtain⟨ds,e,hd⟩:=aeJ hx4;simp only[jQ,and_true]at e;subst e;exact p6 _ _ _ _ _ (aa5 (bW _) hl hf hv hd)
