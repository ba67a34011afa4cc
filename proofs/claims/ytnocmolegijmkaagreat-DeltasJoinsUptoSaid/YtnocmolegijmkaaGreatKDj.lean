/- What an expression adds to a path, its derivative adds as well. -/
import Derived.Test.YtnocmolegijmkaaGreatKDn
import Derived.Test.YtnocmolegijmkaaGreatKKm
set_option linter.all false
namespace Go.Proofs.YtnocmolegijmkaaGreat
open Go Go.Bw
def Jn (l:ag) (u a d:af):Prop:=aP l d a/\∀z,VE l z->aP l u z->aP l d z->aP l a z
abbrev EV (F:cG) (x:ab) (v:af):Prop:=(f86 Pf) F x=some ⟨⟨0,0,[],[]⟩,v⟩
theorem fG {u v:af} {o:Option bZ} (h:o=some ⟨⟨0,0,[],[]⟩,u⟩) (g:o=some ⟨⟨0,0,[],[]⟩,v⟩):u=v:=by rw[h]at g;cases g;rfl
noncomputable def nz (F:cG) (k:ab):af:=match(f86 Pf) F k with
 |some r=>r.v
 |none=>zV
theorem J7 {F:cG} {k:ab} {v:af} (h:EV F k v):nz F k=v:=by unfold nz;rw[h]
theorem E1 {l q:ag} {nm:List UInt8} {v z:af} (hk:l.Kind=5) (hq:l.ai=[q]):aP l ⟨0,[nm],[v],[]⟩ z↔∃(j:Nat) (y:af),z.Names[j]? =some nm/\z.ai[j]? =some y/\aP q v y:=by
 rw[aP.k5 hk hq];constructor
 ·intro h;exact h 0 nm v rfl rfl
 ·intro h i k x h1 h2;cases i with
  |zero=>cases h1;cases h2;exact h
  |succ i=>simp at h1
def Sem (F:cG) (t q:ag) (l:List (ab×ab)) (s:af):Prop:=∃a,foldM t (l.map λq=>((f86 Pf) F q.1,(f86 Pf) F q.2)) s=some ⟨⟨0,0,[],[]⟩,a⟩/\VE t a/\∀z,VE t z->(aP t a z↔aP t s z/\∀r∈l,∀nm v,(f86 Pf) F r.1=some ⟨⟨3,0,nm,[]⟩,zV⟩->EV F r.2 v->eF t.Names nm=true->v≠bot q->aP t ⟨0,[nm],[v],[]⟩ z)
section
variable {B:Nat} (hB:B<=1048576) {c:cI} (hc:CE B c) {F:cG} (hst:VE c.l F.state) (bst:BV 1048576 F.state) (hargs:∀(i:Nat) p,c.params[i]? =some p->∃d,F.args[i]? =some d/\DV p.a6 d/\d.Names.length<=1048576)
include hB hc hst bst hargs
theorem n5 {e:ab} {w:aQ} (h:W c.l c.params e w) (hw:bx B w) (hs:w.a6=0) (ht:TT B e) (hk:bI e<=60000):∃v,EV F e v/\VE w.aD v/\BV (bI e*1048576) v:=by
 obtain⟨r,e,hr⟩:=EB hB hc hst bst hargs h ht hk;rw[h.ty hw.eW]at hr;obtain⟨v,rfl,h1,h2⟩:=hr.val hs;exact⟨v,e,h1,h2⟩
theorem rB {e:ab} {w:aQ} (h:W c.l c.params e w) (hw:bx B w) (hs:w.a6=0) (hk:bI e<=60000) (p:ab):∃v,EV F (bU bL p e) v/\VE w.aD v/\BV (bI e*1048576) v:=by
 have hd:=FZ (q:=bL) hc h hw hs p;have hn:=JH (q:=bL) e p;obtain⟨v,h1,h2,h3⟩:=n5 hB hc hst bst hargs hd hw hs (W.tt hc hd (.inr hw)) (by omega);exact⟨v,h1,h2,h3.mono (gg _ hn)⟩
theorem SM {w:aQ} {q:ag} (hw:bx B w) (hs:w.a6=0) (hk5:w.aD.Kind=5) (hq:w.aD.ai=[q]):∀(l:List (ab×ab)) (s:af) (m:Nat),(∀r∈l,W c.l c.params r.1 (br 3)/\TT B r.1/\bI r.1<=60000/\W c.l c.params r.2 (cX q)/\TT B r.2/\bI r.2<=60000)->VE w.aD s->BV m s->64<=m->m+1048576*ew l<=137438953472->
Sem F w.aD q l s:=by
 have hl:=hw.dz hs
 have pm:q∈w.aD.ai:=by rw[hq];simp
 have qL:=hl.1.part pm
 have qo:=oR hl.2 pm
 have hLn:w.aD.Names.length<=B:=by have:=hl.2;rw[ag.dK]at this;exact this.2.2.2.1.1
 intro l
 induction l with
 |nil=>intro s m _ hs' _ _ _;exact⟨s,rfl,hs',λz _=>⟨λh=>⟨h,λr hr=>by simp at hr⟩,λh=>h.1⟩⟩
 |cons r l ih=>
  intro s m hm hs' bs h64 hb
  obtain⟨w1,t1,c1,w2,t2,c2⟩:=hm r (by simp)
  have hm':=λx (hx:x∈l)=>hm x (by simp[hx])
  obtain⟨y,ey,hy⟩:=EB hB hc hst bst hargs w1 t1 c1
  rw[w1.ty rfl]at hy
  obtain⟨nm,rfl,hnm⟩:=hy.name
  obtain⟨v,ev,hv,bv⟩:=n5 hB hc hst bst hargs w2 (bx.of qL qo) rfl t2 c2
  have hv:VE q v:=hv
  rw[ew]at hb
  obtain⟨g,eg,hg⟩:=Pk (v:=v) hB qo qL (hv.sv (by omega) bv)
  have e0:aj w.aD.ai 0=some q:=by rw[hq];rfl
  have step:F1 w.aD ((f86 Pf) F r.1) ((f86 Pf) F r.2) s=bif !eF w.aD.Names nm then some s else bif g then some s else((f43 Pf) w.aD s ⟨0,[nm],[v],[]⟩).bind λj=>some j.1:=by
   rw[F1,ey,ev,au,au,DZ (by omega),au,e0,au]
   show(bif _ then _ else((f151 Pf) q v).bind _)=_
   rw[eg];rfl
  have skip:(eF w.aD.Names nm=false\/v=bot q)->Sem F w.aD q (r::l) s:=λhn=>by
   obtain⟨a,ea,va,ha⟩:=ih s m hm' hs' bs h64 (by omega)
   refine⟨a,?_,va,λz hz=>?_⟩
   ·rw[dp,foldM,step]
    rcases hn with hn|hn
    ·rw[hn];exact ea
    ·rw[hg.2 hn];cases eF w.aD.Names nm<;>exact ea
   ·rw[ha z hz]
    refine⟨λh=>⟨h.1,λx hx nm' v' e1 e2 e3 e4=>?_⟩,λh=>⟨h.1,λx hx=>h.2 x (by simp[hx])⟩⟩
    rcases cq.1 hx with rfl|hx
    ·rw[ey]at e1;cases e1
     obtain rfl:=fG ev e2
     rcases hn with hn|hn
     ·rw[hn]at e3;cases e3
     ·exact absurd hn e4
    ·exact h.2 x hx nm' v' e1 e2 e3 e4
  cases hal:eF w.aD.Names nm with
  |false=>exact skip (.inl hal)
  |true=>
   by_cases hvb:v=bot q
   ·exact skip (.inr hvb)
   have g0:g=false:=by cases hgg:g with
    |false=>rfl
    |true=>exact absurd (hg.1 hgg) hvb
   have e1:VE w.aD ⟨0,[nm],[v],[]⟩:= .map hk5 hq ⟨by simp[rising],λz hz=>by simp at hz;subst hz;exact⟨hnm,yM.1 hal⟩⟩ rfl (λu hu=>by simp at hu;subst hu;exact hv) (λu hu=>by simp at hu;subst hu;exact hvb)
   have hc1:1<=bI r.2:=by rw[gU];omega
   have b1:BV (bI r.2*1048576) ⟨0,[nm],[v],[]⟩:= .mk (by simp;omega) (by simp;omega) (by simp) (by simp) (λu hu=>by simp at hu;subst hu;exact bv)
   obtain⟨j,ej,j0,lj,bj⟩:=uw hB hl.2 hl.1 hs' e1 (bs.mono (by omega)) (b1.mono (by omega))
   obtain⟨a,ea,va,ha⟩:=ih j.1 (m+bI r.2*1048576) hm' lj.ve (bj _ _ h64 bs b1) (by omega) (by omega)
   refine⟨a,?_,va,λz hz=>?_⟩
   ·rw[dp,foldM,step,hal,g0,ej];exact ea
   ·rw[ha z hz]
    constructor
    ·intro h
     refine⟨aP.trans hl.1 hs' lj.ve hz lj.left h.1,λx hx nm' v' e1' e2 e3 e4=>?_⟩
     rcases cq.1 hx with rfl|hx
     ·rw[ey]at e1';cases e1'
      obtain rfl:=fG ev e2
      exact aP.trans hl.1 e1 lj.ve hz lj.right h.1
     ·exact h.2 x hx nm' v' e1' e2 e3 e4
    ·intro h
     exact⟨lj.least z hz h.1 (h.2 r (by simp) nm v ey ev hal hvb),λx hx=>h.2 x (by simp[hx])⟩
theorem agU:∀(e:ab) (w:aQ),W c.l c.params e w->bx B w->w.a6=0->TT B e->bI e<=60000->∀p u a d,EV F p u->p.aO=w->VE w.aD u->BV 1048576 u->EV F e a->EV F (bU bL p e) d->Jn w.aD u a d:=by
 have be:∀{e:ab} {w:aQ},e.aO=w->bx B w->w.a6=0->EV F (ga e) (bot w.aD):=λ{e w} h hw hs=>by
  subst h;exact Rt hB (fr:=F) (x:=ga e) rfl hw hs
 have bts:∀{e p:ab} {w:aQ} {d:af},W c.l c.params e w->bx B w->w.a6=0->(bU bL p e).Op=6->EV F (bU bL p e) d->d=bot w.aD:=λ{e p w d} h hw hs ho ed=>by
  have hd:=FZ (q:=bL) hc h hw hs p;have:=Rt hB (fr:=F) ho (by rw[hd.ty hw.eW];exact hw) (by rw[hd.ty hw.eW];exact hs);rw[hd.ty hw.eW]at this;exact fG ed this
 have eqc:∀{e p:ab} {w:aQ} {u a d:af},W c.l c.params e w->bx B w->w.a6=0->bL p e=true->EV F p u->VE w.aD u->EV F e a->EV F (bU bL p e) d->Jn w.aD u a d:=λ{e p w u a d} h hw hs hq ep hu ea ed=>by
  have e1:u=a:=fG ep ((ae7 (rC.1 hq)).trans ea);rw[gI,bg hq]at ed;have e2:d=bot w.aD:=fG ed (be (h.ty hw.eW) hw hs);rw[<-e1,e2];exact⟨rD (hw.dz hs).1 hu,λz _ h _=>h⟩
 have lf:∀{e:ab} {w:aQ},W c.l c.params e w->(e.Op≠16/\e.Op≠7/\e.Op≠25/\e.Op≠24)->bx B w->w.a6=0->TT B e->bI e<=60000->∀p u a d,EV F p u->p.aO=w->VE w.aD u->BV 1048576 u->EV F e a->EV F (bU bL p e) d->Jn w.aD u a d:=λ{e w} h ho hw hs ht hk p u a d ep _ hu _ ea ed=>by
  by_cases hq:bL p e=true
  ·exact eqc h hw hs hq ep hu ea ed
  ·rw[EC ho,aM hq]at ed;have e1:a=d:=fG ea ed;obtain⟨v,ev,vv,_⟩:=n5 hB hc hst bst hargs h hw hs ht hk;have e2:a=v:=fG ea ev;rw[<-e1];exact⟨aP.refl (hw.dz hs).1 (e2▸vv),λ_ _ _ h=>h⟩
 refine ab.ind λe ih=>?_;intro w h hw hs ht hk p u a d ep hpt hu bu ea ed;have h':=h;cases h with
 |wJ hn|wK hn|wm hn|wo hn=>rw[hw.eW]at hn;cases hn
 | @sS cc x y at' _ hn wc wx wy=>
  have hc3:bI ⟨7,w,0,[],at',[cc,x,y]⟩=1+(bI cc+(bI x+(bI y+0))):=by rw[bI];simp only[b8]
  by_cases hq:bL p ⟨7,w,0,[],at',[cc,x,y]⟩=true
  ·exact eqc h' hw hs hq ep hu ea ed
  obtain⟨ax,eax,vax,_⟩:=n5 hB hc hst bst hargs wx hw hs (ht.bV (by simp)) (by omega);obtain⟨ay,eay,vay,_⟩:=n5 hB hc hst bst hargs wy hw hs (ht.bV (by simp)) (by omega);obtain⟨dx,edx,vdx,_⟩:=rB hB hc hst bst hargs wx hw hs (by omega) p;obtain⟨dy,edy,vdy,_⟩:=rB hB hc hst bst hargs wy hw hs (by omega) p;have Jx:=ih x (by simp) _ wx hw hs (ht.bV (by simp)) (by omega) p u ax dx ep hpt hu bu eax edx;have Jy:=ih y (by simp) _ wy hw hs (ht.bV (by simp)) (by omega) p u ay dy ep hpt hu bu eay edy;obtain⟨r,er,hr⟩:=EB hB hc hst bst hargs wc (ht.bV (by simp)) (by omega);have ev:∀x' y',(f86 Pf) F ⟨7,w,0,[],at',[cc,x',y']⟩=bif r.d.N==1 then(f86 Pf) F x' else(f86 Pf) F y':=λx' y'=>by
   rw[Ru (by show(7:Int)<=7;decide) (by show(7:Int)<=18;decide),ka,gv];simp only[Int.reduceBEq,aB,aC];rw[qX (x:=⟨7,w,0,[],at',[cc,x',y']⟩) (i:=0) rfl,qX (x:=⟨7,w,0,[],at',[cc,x',y']⟩) (i:=1) rfl,qX (x:=⟨7,w,0,[],at',[cc,x',y']⟩) (i:=2) rfl,er,au];cases (r.d.N==1)
   ·exact tA _
   ·exact tA _
  rw[gI,aM hq]at ed;change (f86 Pf) F (kh _ [cc,x,y] (cx bL p [cc,x,y]))=_ at ed;rw[cx,cx,cx,cx,kh]at ed;replace ea:=(ev x y).symm.trans ea;have hd:d=bif r.d.N==1 then dx else dy:=by
   split at ed
   ·rename_i hb;rw[fG ed (be rfl hw hs),bts wx hw hs hb.1 edx,bts wy hw hs hb.2 edy];cases (r.d.N==1)<;>rfl
   ·rw[show fP ⟨7,w,0,[],at',[cc,x,y]⟩ [cc,bU bL p x,bU bL p y]=⟨7,w,0,[],at',[cc,bU bL p x,bU bL p y]⟩from rfl,ev]at ed;cases hb:(r.d.N==1)with
    |true=>rw[hb]at ed;exact fG ed edx
    |false=>rw[hb]at ed;exact fG ed edy
  rw[hd];cases hb:(r.d.N==1)with
  |true=>rw[hb]at ea;rw[fG ea eax];exact Jx
  |false=>rw[hb]at ea;rw[fG ea eay];exact Jy
 | @sA x y at' _ hn hs' wx wy=>
  have hc3:bI ⟨16,w,0,[],at',[x,y]⟩=1+(bI x+(bI y+0)):=by rw[bI];simp only[b8]
  by_cases hq:bL p ⟨16,w,0,[],at',[x,y]⟩=true
  ·exact eqc h' hw hs hq ep hu ea ed
  have hl:=hw.dz hs;obtain⟨ax,eax,vax,bax⟩:=n5 hB hc hst bst hargs wx hw hs (ht.bV (by simp)) (by omega);obtain⟨ay,eay,vay,bay⟩:=n5 hB hc hst bst hargs wy hw hs (ht.bV (by simp)) (by omega);obtain⟨dx,edx,vdx,bdx⟩:=rB hB hc hst bst hargs wx hw hs (by omega) p;obtain⟨dy,edy,vdy,bdy⟩:=rB hB hc hst bst hargs wy hw hs (by omega) p;have Jx:=ih x (by simp) _ wx hw hs (ht.bV (by simp)) (by omega) p u ax dx ep hpt hu bu eax edx;have Jy:=ih y (by simp) _ wy hw hs (ht.bV (by simp)) (by omega) p u ay dy ep hpt hu bu eay edy;obtain⟨j,ej,_,lj,_⟩:=uw hB hl.2 hl.1 vax vay (bax.mono (by omega)) (bay.mono (by omega));obtain⟨k,ek,_,lk,_⟩:=uw hB hl.2 hl.1 vdx vdy (bdx.mono (by omega)) (bdy.mono (by omega));have ev:∀{x' y' u v} {j:af×Int},(f86 Pf) F x'=some ⟨⟨0,0,[],[]⟩,u⟩->(f86 Pf) F y'=some ⟨⟨0,0,[],[]⟩,v⟩->(f43 Pf) w.aD u v=some j->EV F ⟨16,w,0,[],at',[x',y']⟩ j.1:=λ{x' y' u v j} e1 e2 ej=>by
   unfold EV;rw[Ru (by show(7:Int)<=16;decide) (by show(16:Int)<=18;decide),ka,gv];simp only[Int.reduceBEq,aB,aC];rw[qX (x:=⟨16,w,0,[],at',[x',y']⟩) (i:=0) rfl,qX (x:=⟨16,w,0,[],at',[x',y']⟩) (i:=1) rfl,e1,e2,au,au,ej];rfl
  have ha:a=j.1:=fG ea (ev eax eay ej);rw[gI,aM hq]at ed;change (f86 Pf) F (ki _ (cx bL p [x,y]))=_ at ed;rw[cx,cx,cx,ki]at ed;have ld:gO w.aD dx dy d:=by
   split at ed
   ·rename_i hb;rw[bts wx hw hs hb edx,fG ed edy];exact .bot hl.1 vdy
   ·split at ed
    ·rename_i hb;rw[bts wy hw hs hb edy,fG ed edx];exact(gO.bot hl.1 vdx).comm
    ·rw[fG ed (ev edx edy ek)];exact lk
  rw[ha];exact⟨ld.least j.1 lj.ve (aP.trans hl.1 vdx vax lj.ve Jx.1 lj.left) (aP.trans hl.1 vdy vay lj.ve Jy.1 lj.right),λz hz h1 h2=>lj.least z hz (Jx.2 z hz h1 (aP.trans hl.1 vdx ld.ve hz ld.left h2)) (Jy.2 z hz h1 (aP.trans hl.1 vdy ld.ve hz ld.right h2))⟩
 | @sT kids at' _ h0 hk6 hkb hl wk=>
  have hc3:bI ⟨25,w,0,[],at',kids⟩=1+b8 kids:=by rw[bI]
  have hKc:kids.length<=b8 kids:=tZ;by_cases hq:bL p ⟨25,w,0,[],at',kids⟩=true
  ·exact eqc h' hw hs hq ep hu ea ed
  have hL:=hw.dz hs;obtain⟨us,rfl,hul,huv⟩:=hu.k6 (.inl hk6);have all:∀(i:Nat),i<kids.length->∃k q x ak dk,kids[i]? =some k/\w.aD.ai[i]? =some q/\us[i]? =some x/\EV F k ak/\EV F (bU bL (iV p i) k) dk/\VE q ak/\VE q dk/\Jn q x ak dk:=λi hi=>by
   obtain⟨k,hk'⟩:=bo hi;obtain⟨q,hq'⟩:=bo (l:=w.aD.ai) (i:=i) (by omega);obtain⟨x,hx⟩:=bo (l:=us) (i:=i) (by omega);have wq:=jd hw hs (aV hq');have hm:=aV hk';have:=lD hm;have hpq:p.aO.aD.ai[i]? =some q:=by rw[hpt];exact hq'
   have efl:EV F (iV p i) x:=by
    unfold EV;rw[ny,jL];show((f133 Pf) F (iV p i)).bind _=_;rw[AW,nh];show((((f86 Pf) F p).bind _).bind _)=_;rw[ep];show((aj us (i:Int)).bind _).bind _=_;rw[bf hx];rfl
   obtain⟨ak,e1,v1,_⟩:=n5 hB hc hst bst hargs (wk i k q hk' hq') wq rfl (ht.bV hm) (by omega);obtain⟨dk,e2,v2,_⟩:=rB hB hc hst bst hargs (wk i k q hk' hq') wq rfl (by omega) (iV p i);exact⟨k,q,x,ak,dk,hk',hq',hx,e1,e2,v1,v2,ih k hm _ (wk i k q hk' hq') wq rfl (ht.bV hm) (by omega) (iV p i) x ak dk efl (by rw[iV,hpq];rfl) (huv i x q hx hq') (bu.part (aV hx)) e1 e2⟩
  have ha:a=⟨0,[],kids.map (nz F),[]⟩:=fG ea (SN (by simp) (by omega) λi k v h1 h2=>by
   rw[iL,h1]at h2;obtain⟨k',q,x,ak,dk,g1,_,_,g4,_⟩:=all i (cr.1 h1).1;rw[h1]at g1;cases g1;cases h2;rw[J7 g4];exact g4)
  have hds:∀(i:Nat) k dk,kids[i]? =some k->EV F (bU bL (iV p i) k) dk->((dM bL p 0 kids).map (nz F))[i]? =some dk:=λi k dk h1 h2=>by
   rw[iL,ru,h1];rw[kJ];exact congrArg some (J7 h2)
  have hdl:((dM bL p 0 kids).map (nz F)).length=kids.length:=by rw[ja,oQ]
  have hd:d=⟨0,[],(dM bL p 0 kids).map (nz F),[]⟩:=by
   rw[gI,aM hq]at ed;change (f86 Pf) F (kF _ (dM bL p 0 kids))=_ at ed;rw[kF]at ed;split at ed
   ·rename_i hb;have hbt:bot w.aD=⟨0,[],w.aD.ai.map bot,[]⟩:=by rw[vx,aM (by omega),aM (by omega),bg (.inl hk6)]
    rw[fG ed (be rfl hw hs),hbt];congr 1;refine nC λi=>?_;by_cases hi:i<kids.length
    ·obtain⟨k,q,x,ak,dk,g1,g2,_,_,g5,_⟩:=all i hi;rw[hds i k dk g1 g5,iL,g2];have h3:(dM bL p 0 kids)[i]? =some (bU bL (iV p i) k):=by rw[ru,g1,kJ];rfl
     have:=gf.1 hb _ (aV h3);rw[bts (wk i k q g1 g2) (jd hw hs (aV g2)) rfl (by simpa using this) g5];rfl
    ·rw[kK (by rw[ja];omega),kK (by omega)]
   ·refine fG ed (SN (by simp) (by rw[oQ];omega) λi k v h1 h2=>?_);have hi:i<kids.length:=by have:=(cr.1 h1).1;rw[oQ]at this;exact this
    obtain⟨k',q,x,ak,dk,g1,_,_,_,g5,_⟩:=all i hi;rw[hds i k' dk g1 g5]at h2;cases h2;rw[ru,g1,kJ]at h1;cases h1;exact g5
  rw[ha,hd];have get:∀{i:Nat} {q:ag},w.aD.ai[i]? =some q->∃x ak dk,us[i]? =some x/\(kids.map (nz F))[i]? =some ak/\((dM bL p 0 kids).map (nz F))[i]? =some dk/\Jn q x ak dk:=λ{i q} h=>by
   obtain⟨k,q',x,ak,dk,g1,g2,g3,g4,g5,_,_,g8⟩:=all i (by have:=(cr.1 h).1;omega);rw[h]at g2;cases g2;refine⟨x,ak,dk,g3,?_,hds i k dk g1 g5,g8⟩;rw[iL,g1];exact congrArg some (J7 g4)
  refine⟨(aP.k6 hk6).2 λi q x y h1 h2 h3=>?_,λz hz h1 h2=>?_⟩
  ·obtain⟨x',ak,dk,g1,g2,g3,g4⟩:=get h1;have h2:((dM bL p 0 kids).map (nz F))[i]? =some x:=h2;have h3:(kids.map (nz F))[i]? =some y:=h3;rw[g3]at h2;cases h2;rw[g2]at h3;cases h3;exact g4.1
  ·obtain⟨zs,rfl,hzl,hzv⟩:=hz.k6 (.inl hk6);rw[aP.k6 hk6]at h1 h2⊢;intro i q x y g1 g2 g3;obtain⟨x',ak,dk,k1,k2,k3,k4⟩:=get g1;have g2:(kids.map (nz F))[i]? =some x:=g2;rw[k2]at g2;cases g2;exact k4.2 y (hzv i y q g3 g1) (h1 i q x' y g1 k1 g3) (h2 i q dk y g1 k3 g3)
 | @map kids q at' _ h0 hk5 hkb hq0 wk wv=>
  have hc3:bI ⟨24,w,0,[],at',kids.flatMap λq=>[q.1,q.2]⟩=1+b8 (kids.flatMap λq=>[q.1,q.2]):=by rw[bI]
  have hKc:(kids.flatMap λq=>[q.1,q.2]).length<=b8 (kids.flatMap λq=>[q.1,q.2]):=tZ;rw[zf]at hKc;by_cases hq:bL p ⟨24,w,0,[],at',kids.flatMap λq=>[q.1,q.2]⟩=true
  ·exact eqc h' hw hs hq ep hu ea ed
  have hL:=hw.dz hs;obtain⟨q',hqq⟩:=vy hL.1 hk5;have:q'=q:=by rw[hqq]at hq0;simpa using hq0
  subst this;have pm:q'∈w.aD.ai:=by rw[hqq];simp
  have qL:=hL.1.part pm;have wq:=jd hw hs pm;have hpq:p.aO.aD.ai[0]? =some q':=by rw[hpt,hqq];rfl
  obtain⟨_,ns,us,hqq',rfl,hN,hlen,hus,hub⟩:=hu.k5 hk5;rw[hqq]at hqq';cases hqq';have m1:∀{r},r∈kids->r.1∈(kids.flatMap λq=>[q.1,q.2]):=λh=>gB.2 ⟨_,h,by simp⟩;have m2:∀{r},r∈kids->r.2∈(kids.flatMap λq=>[q.1,q.2]):=λh=>gB.2 ⟨_,h,by simp⟩;have hsq:ew kids<=b8 (kids.flatMap λq=>[q.1,q.2]):=JI;have hsd:ew (ib bL p kids)<=ew kids:=by
   clear hk hc3 hKc hsq m1 m2 ea ed hq ht ih wk wv hkb h'
   induction kids with
   |nil=>exact bX _
   |cons r l ih=>
    have:=JH (q:=bL) r.2 (dj p r.1);rw[ib,anY];split
    ·rw[ew];exact iM ih (by omega)
    ·rename_i b hb;split at hb
     ·cases hb
     ·cases hb;have ih:ew (List.filterMap _ l)<=ew l:=ih;rw[ew,ew];show bI (bU bL (dj p r.1) r.2)+_<=_;omega
  have bot0:bot w.aD=⟨0,[],[],[]⟩:=by rw[vx,aM (by omega),aM (by omega),aM (by omega)]
  have v0:VE w.aD ⟨0,[],[],[]⟩:=bot0▸n9 hL.1;have b0:BV 64 ⟨0,[],[],[]⟩:= .mk (by simp) (by simp) (by simp) (by simp) (by simp);obtain⟨a',ea',va,ha⟩:=SM hB hc hst bst hargs hw hs hk5 hqq kids ⟨0,[],[],[]⟩ 64 (λr hr=>by
   have c1:=lD (m1 hr);have c2:=lD (m2 hr);exact⟨wk r hr,ht.bV (m1 hr),by omega,wv r hr,ht.bV (m2 hr),by omega⟩) v0 b0 (bX _) (by omega)
  obtain⟨d',ed',vd,hd⟩:=SM hB hc hst bst hargs hw hs hk5 hqq (ib bL p kids) ⟨0,[],[],[]⟩ 64 (λs hs'=>by
   obtain⟨r,hr,rfl,_⟩:=ED hs';have c1:=lD (m1 hr);have c2:=lD (m2 hr);have hdw:=FZ (q:=bL) hc (wv r hr) wq rfl (dj p r.1);have:=JH (q:=bL) r.2 (dj p r.1);exact⟨wk r hr,ht.bV (m1 (r:=r) hr),by show bI r.1<=60000;omega,hdw,W.tt hc hdw (.inr wq),by show bI (bU bL (dj p r.1) r.2)<=_;omega⟩) v0 b0 (bX _) (by omega)
  have haa:a=a':=fG ea ((Rv (by omega)).trans ea');have hdd:d=d':=by
   rw[gI,aM hq]at ed;change (f86 Pf) F (kG _ (dB bL p none (kids.flatMap λq=>[q.1,q.2])))=_ at ed;rw[E2,kG]at ed;split at ed
   ·rename_i hb;have hb:ib bL p kids=[]:=by
     cases hd:ib bL p kids with
     |nil=>rfl
     |cons x l=>rw[hd]at hb;simp at hb
    rw[hb]at ed';rw[fG ed (be rfl hw hs),bot0];exact fG rfl ed'
   ·exact fG ed ((Rv (kids:=ib bL p kids) (iM (aav ..) (by omega))).trans ed')
  rw[haa,hdd];have qU:∀r∈kids,∃nm v x,(f86 Pf) F r.1=some ⟨⟨3,0,nm,[]⟩,zV⟩/\EV F r.2 v/\EV F (bU bL (dj p r.1) r.2) x/\VE q' v/\VE q' x/\∃y,VE q' y/\Jn q' y v x/\((∃j:Nat,ns[j]? =some nm/\us[j]? =some y)\/y=bot q'):=λr hr=>by
   have c1:=lD (m1 hr);have c2:=lD (m2 hr);obtain⟨y,ey,hy⟩:=EB hB hc hst bst hargs (wk r hr) (ht.bV (m1 hr)) (by omega);rw[(wk r hr).ty rfl]at hy;obtain⟨nm,rfl,hnm⟩:=hy.name;obtain⟨v,e1,v1,_⟩:=n5 hB hc hst bst hargs (wv r hr) wq rfl (ht.bV (m2 hr)) (by omega);obtain⟨x,e2,v2,_⟩:=rB hB hc hst bst hargs (wv r hr) wq rfl (by omega) (dj p r.1);have eat:∃y,EV F (dj p r.1) y/\VE q' y/\BV 1048576 y/\((∃j:Nat,ns[j]? =some nm/\us[j]? =some y)\/y=bot q'):=by
    have e3:(f86 Pf) F (dj p r.1)=((f93 Pf) ns nm).bind λi=>bif decide (i>=0)then(aj us i).bind λx=>some ⟨⟨0,0,[],[]⟩,x⟩else((f178 Pf) q').bind λx=>some ⟨⟨0,0,[],[]⟩,x⟩:=by
     rw[ny,jL];show((f133 Pf) F (dj p r.1)).bind _=_;rw[AW,nh];show((((f86 Pf) F p).bind _).bind _)=_;rw[ep];show((((f86 Pf) F r.1).bind _).bind _)=_;rw[ey];show(((f93 Pf) ns nm).bind _).bind _=_;rw[show(dj p r.1).aO.aD=q' by rw[dj,hpq];rfl];cases (f93 Pf) ns nm with
     |none=>rfl
     |some i=>
      simp only[au];cases decide (i>=0)with
      |true=>cases aj us i<;>rfl
      |false=>cases (f178 Pf) q'<;>rfl
    have hnl:ns.length<=1048576:=bu.names;rcases tG (a:=ns) (x:=nm) (by omega)with⟨e4,_⟩|⟨j,e4,e5⟩
    ·refine⟨bot q',?_,n9 qL,Ap hB _ (oR hL.2 pm),.inr rfl⟩;unfold EV;rw[e3,e4,au,dH (by decide),aC,yA hB (oR hL.2 pm) qL];rfl
    ·obtain⟨z,hz⟩:=lF hlen e5;refine⟨z,?_,hus z (aV hz),bu.part (aV hz),.inl ⟨j,e5,hz⟩⟩;unfold EV;rw[e3,e4,au,dT (by omega),aB,bf hz];rfl
   obtain⟨y,e3,v3,b3,hy3⟩:=eat;exact⟨nm,v,x,ey,e1,e2,v1,v2,y,v3,ih r.2 (m2 hr) _ (wv r hr) wq rfl (ht.bV (m2 hr)) (by omega) (dj p r.1) y v x e3 (by rw[dj,hpq];rfl) v3 b3 e1 e2,hy3⟩
  refine⟨(hd a' va).2 ⟨bot0▸rD hL.1 va,λs hs' nm x e1 e2 e3 e4=>?_⟩,λz hz h1 h2=>(ha z hz).2 ⟨bot0▸rD hL.1 hz,λr hr nm v e1 e2 e3 e4=>?_⟩⟩
  ·obtain⟨r,hr,rfl,_⟩:=ED hs';obtain⟨nm',v,x',g1,g2,g3,g4,g5,y,g6,g7,_⟩:=qU r hr;rw[g1]at e1;cases e1;have:=fG e2 g3;subst this;have hvb:v≠bot q':=λe=>e4 (JJ qL g5 (e▸g7.1));have h3:=((ha a' va).1 (aP.refl hL.1 va)).2 r hr nm v g1 g2 e3 hvb;rw[E1 hk5 hqq]at h3⊢;obtain⟨j,y',k1,k2,k3⟩:=h3;refine⟨j,y',k1,k2,aP.trans qL g5 g4 ?_ g7.1 k3⟩;obtain⟨_,_,_,hq2,rfl,_,_,k4,_⟩:=va.k5 hk5;rw[hqq]at hq2;cases hq2;exact k4 y' (aV k2)
  ·obtain⟨nm',v',x,g1,g2,g3,g4,g5,y,g6,g7,g8⟩:=qU r hr;rw[g1]at e1;cases e1;have:=fG e2 g2;subst this;obtain⟨_,zn,zs,hq2,rfl,hzN,hzl,k4,_⟩:=hz.k5 hk5;rw[hqq]at hq2;cases hq2;rw[E1 hk5 hqq];have found:∀(j:Nat) (t:af),zn[j]? =some nm->zs[j]? =some t->∃(j:Nat) (y:af),zn[j]? =some nm/\zs[j]? =some y/\aP q' v y:=λj t k1 k2=>by
    have vt:=k4 t (aV k2);refine⟨j,t,k1,k2,g7.2 t vt ?_ ?_⟩
    ·rcases g8 with⟨i,k5,k6⟩|rfl
     ·obtain⟨j',y',k7,k8,k9⟩:=(aP.k5 hk5 hqq).1 h1 i nm y k5 k6;have:=mI hzN.1 k7 k1;subst this;have k8:zs[j']? =some y':=k8;rw[k2]at k8;cases k8;exact k9
     ·exact rD qL vt
    ·by_cases hxb:x=bot q'
     ·rw[hxb];exact rD qL vt
     ·have hxo:(bU bL (dj p r.1) r.2).Op≠6:=λe=>hxb (bts (wv r hr) wq rfl e g3);have hmem:(r.1,bU bL (dj p r.1) r.2)∈ib bL p kids:=HH.2 ⟨r,hr,by rw[aM hxo]⟩;have h3:=((hd _ hz).1 h2).2 _ hmem nm x g1 g3 e3 hxb;rw[E1 hk5 hqq]at h3;obtain⟨j',y',k7,k8,k9⟩:=h3;have:=mI hzN.1 k7 k1;subst this;have k8:zs[j']? =some y':=k8;rw[k2]at k8;cases k8;exact k9
   rcases g8 with⟨i,k5,k6⟩|hyb
   ·obtain⟨j',y',k7,k8,_⟩:=(aP.k5 hk5 hqq).1 h1 i nm y k5 k6;exact found j' y' k7 k8
   ·by_cases hxb:x=bot q'
    ·exact absurd (JJ qL g4 (g7.2 (bot q') (n9 qL) (by rw[hyb];exact aP.refl qL (n9 qL)) (by rw[hxb];exact aP.refl qL (n9 qL)))) e4
    ·have hxo:(bU bL (dj p r.1) r.2).Op≠6:=λe=>hxb (bts (wv r hr) wq rfl e g3);have hmem:(r.1,bU bL (dj p r.1) r.2)∈ib bL p kids:=HH.2 ⟨r,hr,by rw[aM hxo]⟩;have h3:=((hd _ hz).1 h2).2 _ hmem nm x g1 g3 e3 hxb;rw[E1 hk5 hqq]at h3;obtain⟨j',y',k7,k8,_⟩:=h3;exact found j' y' k7 k8
 |xz h1=>exact lf h' (by simp at h1⊢;omega) hw hs ht hk p u a d ep hpt hu bu ea ed
 |_=>exact lf h' (by first|(simp;done)|(simp;omega)) hw hs ht hk p u a d ep hpt hu bu ea ed
