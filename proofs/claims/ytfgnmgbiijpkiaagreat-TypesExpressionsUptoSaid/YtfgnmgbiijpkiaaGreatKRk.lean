/- The elaborator against the reference's: calls, all expressions. -/
import Derived.Test.YtfgnmgbiijpkiaaGreatKRh
import Derived.Test.YtfgnmgbiijpkiaaGreatKRa
set_option linter.all false
namespace Go.Proofs.YtfgnmgbiijpkiaaGreat
open Go Go.Bw
section
variable {B:Nat} (hB:B<=1048576) {c:bR} (hc:CE B c)
def jv:List (List UInt8):=[[102,108,97,103],[110,117,109],[115,101,116],eu,er,[112,97,105,114],[111,110,101],[119,114,105,116,101],[115,105,122,101],[115,117,109],[110,117,109,98,101,114],[111,110],[107,101,121,115],[118,97,108,117,101,115],[99,111,110,102,108,105,99,116],[115,101,99,111,110,100],[102,105,114,115,116]]
inductive CN:ae->Prop
 |mk {n:ae}:(n.Kind=51->n.Text∈jv)->(∀k∈fJ n,CN k)->CN n
theorem Oe (hc:CE B c) (hB:B<=1048576) {n:ae}:RR EQ (((rC Pf) c.params n).bind λy=>bif decide (y<0)then(Bw.aH ((f80 Pf) 3 n.At) λ_=>none)else(ax c.params y).bind λx=>((f113 Pf) x.aS).bind λt=>some (.ret (⟨4,t,y,[],0,[]⟩:ab))) ((nK Pf) (sc c) n 0):=by
 have hn:=hc.num;rw[I6 _ _ (by omega),aN];have key:∀m i:Nat,i+m=c.params.length->(∀(k:Nat) p,k<i->c.params[k]? =some p->(p.Name==n.Text)=false)->∃q,(nK Pf) (sc c) n (i:Int)=q/\RR EQ (bif decide (idxOf (λp:TParam=>p.Name==n.Text) c.params 0<0)then(Bw.aH ((f80 Pf) 3 n.At) λ_=>none)else(ax c.params (idxOf (λp:TParam=>p.Name==n.Text) c.params 0)).bind λx=>((f113 Pf) x.aS).bind λt=>some (.ret (⟨4,t,idxOf (λp:TParam=>p.Name==n.Text) c.params 0,[],0,[]⟩:ab))) q:=by
  intro m
  induction m with
  |zero=>
   intro i hi hp;refine⟨_,rfl,?_⟩;rw[Ad,nL,TParam.bc];show RR EQ _ (bif decide ((i:Int)<(c.params.length:Int))then _ else _);rw[bX];have:decide (i<c.params.length)=false:=by simp;omega
   rw[this,cp,dB,aN];refine RR.aZ (λ_=>?_) (λh=>?_)
   ·rw[jE,gD];exact .inr ⟨3,n.At,_,by decide,rfl,rfl⟩
   ·obtain⟨j,x,hj,hx,hx2⟩:=uJ (by simpa using h);rw[hp j x (by have:=(c8.1 hx).1;omega) hx]at hx2;cases hx2
  |succ m im=>
   intro i hi hp;have hil:i<c.params.length:=by omega
   obtain⟨x,hx⟩:=cn hil;have hx':ax (sc c).Params (i:Int)=some x:=bW hx;cases hxt:x.Name==n.Text with
   |false=>
    obtain⟨q,e,h⟩:=im (i+1) (by omega) (λk p hk hkp=>by
     by_cases e:k=i
     ·subst e;rw[hx]at hkp;cases hkp;exact hxt
     ·exact hp k p (by omega) hkp)
    refine⟨q,?_,h⟩;rw[Ad,nL,TParam.bc];show(bif decide ((i:Int)<(c.params.length:Int))then _ else _)=_;rw[bX];have:decide (i<c.params.length)=true:=by simpa using hil
    rw[this,bE,hx',aN,hxt,cp,cD i (by omega)];exact e
   |true=>
    refine⟨_,rfl,?_⟩;have hidx:idxOf (λp:TParam=>p.Name==n.Text) c.params 0=(i:Int):=by
     rcases rB (λp:TParam=>p.Name==n.Text) c.params 0 with⟨_,h2⟩|⟨j,z,h1,h2,h3,h4⟩
     ·have:=h2 x (cy hx);rw[hxt]at this;cases this
     ·have:j=i:=by
       rcases Wp j i with h|h|h
       ·rw[hp j z h h2]at h3;cases h3
       ·exact h
       ·have:=h4 i x h hx;rw[hxt]at this;cases this
      subst this;have h1:idxOf (λp:TParam=>p.Name==n.Text) c.params 0=((0+j:Nat):Int):=h1;rw[h1];simp
    rw[hidx,Ad,nL,TParam.bc];show RR EQ _ (bif decide ((i:Int)<(c.params.length:Int))then _ else _);rw[bX];have:decide (i<c.params.length)=true:=by simpa using hil
    rw[this,bE,hx',aN,hxt,bE,aN,cX,aN];refine RR.aZ (λh=>by simp at h;omega) (λ_=>RR.l (fM hx) (RR.l (dh _) ?_));exact .inl ⟨_,_,rfl,rfl,rfl⟩
 obtain⟨q,e,h⟩:=key c.params.length 0 (by omega) (λk p hk=>by omega);have e:(nK Pf) (sc c) n 0=q:=e;rw[e];exact h
theorem PK (hc:CE B c) (hB:B<=1048576) {n:ae} {w:az} (hw:cd B w) (h:WN B n) (ih:∀k∈fJ n,RE B c k) (hcall:n.Kind=51->RR EQ ((f159 Pf) c n w) ((f164 Pf) (sc c) n w)):RR EQ ((f91 Pf) c n w) ((f94 Pf) (sc c) n w):=by
 have s1:cd B (ba 1):= .inr (bq.sort (by simp));have s2:cd B (ba 2):= .inr (bq.sort (by simp));have s3:cd B (ba 3):= .inr (bq.sort (by simp));have s4:cd B (ba 4):= .inr (bq.sort (by simp));obtain⟨hs,hk⟩:dC n/\∀k∈fJ n,WN B k:=by cases h;exact⟨by assumption,by assumption⟩
 have cu:=λ(h51:n.Kind≠51) hk'=>MY (n:=n) (w:=w) hw hB hs hk' (by rw[<-kR h51];exact hk) (by rw[<-kR h51];exact ih);have hK:n.Kind=30\/n.Kind=31\/n.Kind=32\/n.Kind=33\/n.Kind=34\/n.Kind=35\/n.Kind=36\/n.Kind=37\/n.Kind=38\/n.Kind=39\/n.Kind=40\/n.Kind=41\/n.Kind=42\/n.Kind=43\/n.Kind=44\/n.Kind=45\/n.Kind=46\/n.Kind=47\/n.Kind=48\/n.Kind=49\/n.Kind=50\/n.Kind=51:=by
  unfold dC at hs;omega
 have two:∀{op:Int} {a b t:az},31<=n.Kind/\n.Kind<=43/\n.Kind≠33/\n.Kind≠42->cd B a->cd B b->RR EQ (Bw.aH ((f158 Pf) c op n a b t) λy=>some (.ret y)) (((f163 Pf) (sc c) n.Kids [a,b]).bind λy=>some ((⟨op,t,0,[],0,y.fst⟩:ab),y.snd)):=by
  intro op a b t hkk ha hb;obtain⟨x,y,hx⟩:=gg (l:=n.Kids) (by unfold dC at hs;omega);rw[kR (by omega),hx]at ih;exact Gi hx (ih x (by simp)) (ih y (by simp)) ha hb (λu v _ _=> .inl ⟨_,_,rfl,rfl,rfl⟩)
 have op:n.Kind≠51->(n.Kind=30\/n.Kind=36\/n.Kind=38\/n.Kind=39\/n.Kind=42\/n.Kind=43)->RR EQ ((f91 Pf) c n w) ((f94 Pf) (sc c) n w):=λh51 hk'=>by
  have:=cu h51 hk';rw[Dt,oE];rcases hk' with h|h|h|h|h|h<;>simpa only[dh,aN,h,Int.reduceBEq,bE,cp]using this
 rcases hK with h|h|h|h|h|h|h|h|h|h|h|h|h|h|h|h|h|h|h|h|h|h
 all_goals first|exact op (by omega) (by omega)|skip
 all_goals rw[Dt,oE,L2,q8]
 all_goals simp only[dh,of_eq,cX,kx,dB,kW,jo,aN,h,Int.reduceBEq,bE,cp]
 all_goals first|exact two (by omega) s2 s2|skip
 all_goals first|exact two (by omega) s1 s1|skip
 all_goals first|exact two (by omega) s3 s4|skip
 all_goals first|exact .inl ⟨_,_,rfl,rfl,rfl⟩|skip
 ·obtain⟨x,hx⟩:=jy (l:=n.Kids) (by unfold dC at hs;omega);rw[kR (by omega),hx]at ih;rw[hx];refine RR.l (v:=x) rfl ?_;exact sL (ih x (by simp)) s2 (λu _=> .inl ⟨_,_,rfl,rfl,rfl⟩)
 ·have:=Oe hc hB (n:=n);simpa only[dh,aN]using this
 ·have F4:∀{z:ab},RR (EQ (D:=ab)) (Bw.aH ((f80 Pf) 4 n.At) λ_=>none) (some (z,⟨4,n.At⟩)):=λ{z}=>by
   rw[jE,gD];exact .inr ⟨4,n.At,z,by decide,rfl,rfl⟩
  rcases hw with rfl|hw'
  ·exact F4
  ·refine RR.aZ (λh0=>RR.t ?_ F4) (λh0=>?_)
   ·rw[hw'.nX (by simpa using h0)];rfl
   ·have:=(hw'.dI (by simpa using h0)).1.kind;rw[hw'.vu];exact RR.f (by simp;omega) (.inl ⟨_,_,rfl,rfl,rfl⟩)
 ·refine RR.bind (hcall h) (λy z e=>?_);cases e;exact .inl ⟨_,_,rfl,rfl,rfl⟩
theorem nb {ks:List Int} {w:az} {n:ae} {γ δ:Type} {Q':γ->δ->Prop} (hw:cd B w) (hk:ks.length<9223372036854775807) (h0:(0:Int)∉ks) {f:Unit->Option (aU γ)} {q:Option (δ×aK)}
  (h1:w.aS=0->w.aj.Kind∈ks->RR Q' (f ()) q) (h2:w.aj.Kind∉ks->∃z,q=some (z,⟨4,n.At⟩)):RR Q' (Bw.cC ((f198 Pf) ks w n) f) q:=by
 have bad:w.aj.Kind∉ks->RR Q' (Bw.cC (Bw.aH ((f80 Pf) 4 n.At) λ_=>(none:Option (aU Unit))) f) q:=λh=>by
  obtain⟨z,e⟩:=h2 h;rw[jE,gD,e];exact .inr ⟨4,n.At,z,by decide,rfl,rfl⟩
 rw[Km,qx];cases hs:w.aS !=0 with
 |true=>
  refine bad ?_;rcases hw with rfl|hw
  ·exact h0
  ·rw[hw.nX (by simpa using hs)];exact h0
 |false=>
  rw[cp,kN ks _ hk,aN];by_cases hm:w.aj.Kind∈ks
  ·have:(ks.any λy=>w.aj.Kind==y)=true:=l3.2 ⟨_,hm,by simp⟩;rw[this];exact h1 (by simpa using hs) hm
  ·have:(ks.any λy=>w.aj.Kind==y)=false:=by
    rw[Ed];intro y hy e;have e:w.aj.Kind=y:=by simpa using e
    exact hm (by rw[e];exact hy)
   rw[this];exact bad hm
end
abbrev PS:=ay
structure At (T:List bl) (k:Nat) (p:PS):Prop where
 t:p.T=T
 i:p.I=(k:Int)
 lt:k<T.length
 bad:p.aI=true->p.aP.Code≠0
def PP {D:Type} (T:List bl) (k:Nat) (p:PS) (G:D->Prop) (r:D×PS):Prop:=(∃j,At T j r.2/\k<=j)/\(r.2.aI=false->p.aI=false/\G r.1)
def Gd (n:ae):Prop:=WN 1048576 n/\CN n
section
variable {T:List bl} (hT:oA T) (hl:T.length<=65537)
omit hl in
include hT in
theorem oA.next {k:Nat} {t:bl} (h:T[k]? =some t) (h6:t.Kind≠6):k+1<T.length/\oB t:=by
 obtain⟨l,e,rfl,h1,h2⟩:=hT;have hk:=(c8.1 h).1;by_cases hkl:k<l.length
 ·rw[mR hkl]at h;exact⟨by simp;omega,h1 t (cy h)⟩
 ·have:k=l.length:=by simp at hk;omega
  subst this;simp at h;subst h;exact absurd h2 h6
variable {k:Nat} {p:PS} (hp:At T k p)
theorem At.tok {T:List bl} {k:Nat} {p:PS} (hp:At T k p):∃t,T[k]? =some t/\(cx Pu) p=some t:=by
 obtain⟨t,ht⟩:=cn hp.lt;refine⟨t,ht,?_⟩;rw[Mi,rh,hp.t,hp.i,bW ht];rfl
theorem At.same {T:List bl} {k:Nat} {p:PS} (hp:At T k p) {o:Int}:At T k ⟨p.T,p.I,o,p.aI,p.aP⟩:=⟨hp.t,hp.i,hp.lt,hp.bad⟩
include hl in
theorem At.next {k:Nat} {p:PS} (hp:At T k p) (h:k+1<T.length) {o:Int}:At T (k+1) ⟨p.T,IntKind.i64.wrap (p.I+1),o,p.aI,p.aP⟩:=⟨hp.t,by show IntKind.i64.wrap (p.I+1)=_;rw[hp.i,cD k (by omega)],h,hp.bad⟩
include hT in
theorem gb {k:Nat} {p:PS} (hp:At T k p) (s:List UInt8):ag ((bV Pu) p s) (λb=>b=true->p.aI=false/\k+1<T.length/\∃t,T[k]? =some t/\t.Text=s/\(t.Kind=2\/t.Kind=5)):=by
 obtain⟨t,ht,e⟩:=hp.tok;rw[Ub,tw,e,aN];have go:(t.Kind=2\/t.Kind=5)->p.aI=false->ag (some (t.Text==s)) (λb=>b=true->p.aI=false/\k+1<T.length/\∃t,T[k]? =some t/\t.Text=s/\(t.Kind=2\/t.Kind=5)):=λhk hb=>ag.ret λh=>⟨hb,(oA.next hT ht (by omega)).1,t,ht,by simpa using h,hk⟩;refine ag.bif (λhb=>?_) (λ_=>ag.ret λh=>by cases h);have hb:p.aI=false:=by simpa using hb
 refine ag.bif (λh=>go (.inl (by simpa using h)) hb) (λ_=>?_);exact ag.bif (λh=>go (.inr (by simpa using h)) hb) (λ_=>ag.ret λh=>by cases h)
theorem pk {T:List bl} {k:Nat} {p:PS} (hp:At T k p) (e:Int) (he:e≠0:=by decide):ag ((gG Pu) p e) (λr=>At T k r.2/\r.2.aI=true):=by
 obtain⟨t,ht⟩:=cn hp.lt;rw[V7,uf,Mi,rh];refine ag.bif (λ_=>?_) (λh=>ag.ret ⟨hp,by simpa using h⟩);rw[hp.t,hp.i,bW ht];exact ag.ret ⟨⟨rfl,rfl,hp.lt,λ_=>he⟩,rfl⟩
theorem rH {T:List bl} {k:Nat} {p:PS} (hp:At T k p):ag ((kr Pu) p) (λr=>At T k r.2/\(r.2.aI=false->p.aI=false)):=by
 rw[Ue,tA];refine ag.bif (λ_=>?_) (λ_=>ag.ret ⟨hp.same,λh=>h⟩);refine ag.bind (pk hp 6) (λr hr=>ag.ret ⟨hr.1.same,λh=>?_⟩);have h:r.2.aI=false:=h;rw[hr.2]at h;cases h
include hT hl in
theorem ma {k:Nat} {p:PS} (hp:At T k p) (s:List UInt8):ag ((bx Pu) p s) (PP T k p (λ_=>True)):=by
 rw[Uf,tB];refine ag.bind (gb hT hp s) (λb hb=>?_);refine ag.bif (λh=>?_) (λ_=>?_)
 ·exact ag.ret ⟨⟨k+1,hp.next hl (hb h).2.1,by omega⟩,λh=>⟨h,trivial⟩⟩
 ·refine ag.bind (pk hp 2) (λr hr=>ag.ret ⟨⟨k,hr.1,bA _⟩,λh=>?_⟩);have h:r.2.aI=false:=h;rw[hr.2]at h;cases h
include hT hl in
theorem pt {k:Nat} {p:PS} (hp:At T k p) (kd:Int) (h6:kd≠6):ag ((cS Pu) p kd) (PP T k p (λs=>∃t,T[k]? =some t/\t.Kind=kd/\s=t.Text/\oB t)):=by
 obtain⟨t,ht,e⟩:=hp.tok;rw[Uc,tx,e,aN];have bad:ag (((gG Pu) p 2).bind λy3=>(some (([]:List UInt8),(y3.snd)))) (PP T k p (λs=>∃t,T[k]? =some t/\t.Kind=kd/\s=t.Text/\oB t)):=
  ag.bind (pk hp 2) (λr hr=>ag.ret ⟨⟨k,hr.1,bA _⟩,λh=>by have h:r.2.aI=false:=h;rw[hr.2]at h;cases h⟩)
 refine ag.bif (λ_=>bad) (λhb=>?_);refine ag.bif (λ_=>bad) (λhk=>?_);have hk:t.Kind=kd:=by simpa using hk
 obtain⟨h1,h2⟩:=oA.next hT ht (by omega)
 exact ag.ret ⟨⟨k+1,hp.next hl h1,by omega⟩,λ_=>⟨hb,t,ht,hk,rfl,h2⟩⟩
include hT hl in
theorem OL {k:Nat} {p:PS} (hp:At T k p):ag ((iB Pu) p) (PP T k p (λn=>Gd n/\n.Kind=44)):=by
 obtain⟨t,ht,e⟩:=hp.tok;rw[Ud,tz,e,aN];have gd:∀(x:Int) (a:Int),-1000000000000000<=x/\x<=1000000000000000->Gd {Kind:=44,Text:=[],N:=x,At:=a,Kids:=[]:ae}:=λx a h=>⟨vH (by simp) rfl (λ_=>h) (λe=>by simp at e),.mk (λe=>by simp at e) (by simp[fJ])⟩;refine ag.bind (gb hT hp _) (λb hb=>?_);refine ag.bif (λh=>?_) (λh=>?_)
 ·have h1:At T (k+1) _:=hp.next hl (hb h).2.1 (o:=p.Open)
  obtain⟨t',ht',e'⟩:=h1.tok;rw[e',aN];refine ag.bind (pt hT hl h1 3 (by decide)) (λr hr=>ag.ret ⟨?_,λhbad=>?_⟩)
  ·obtain⟨j,h2,h3⟩:=hr.1;exact⟨j,h2,by omega⟩
  ·obtain⟨h2,t2,h3,h4,h5,h6⟩:=hr.2 hbad;rw[ht']at h3;cases h3;have:=h6.num h4;refine⟨(hb h).1,gd _ _ ?_,rfl⟩;rw[wrap64 (by omega) (by omega)];omega
 ·refine ag.bj rfl (ag.bind (pt hT hl hp 3 (by decide)) (λr hr=>ag.ret ⟨hr.1,λhbad=>?_⟩));obtain⟨h2,t2,h3,h4,h5,h6⟩:=hr.2 hbad;rw[ht]at h3;cases h3;have:=h6.num h4;refine⟨h2,gd _ _ ?_,rfl⟩;rw[wrap64 (by omega) (by omega)];omega
def Arg (s:List UInt8) (n:ae):Prop:=if s=er then n.Kids.length=1/\∀e∈n.Kids,Gd e else if s=eu then n.Kids.length=2/\∀e∈n.Kids,Gd e else Gd n
theorem PP.up {D:Type} {T:List bl} {k i:Nat} {p q:PS} {G:D->Prop} {r:D×PS} (h:PP T i q G r) (hki:k<=i) (hb:q.aI=false->p.aI=false):PP T k p G r:=by
 obtain⟨⟨j,h1,h2⟩,h3⟩:=h;exact⟨⟨j,h1,by omega⟩,λh=>⟨hb (h3 h).1,(h3 h).2⟩⟩
structure Hyp (T:List bl) (k:Nat):Prop where
 ex:∀(i:Nat) (p:PS),k<i->At T i p->ag ((eL Pu) p) (PP T i p Gd)
 bi:∀(l:Nat) (i:Nat) (p:PS),l<=5->k<i->At T i p->ag ((lg Pu) p (l:Int)) (PP T i p Gd)
variable {k:Nat} (H:Hyp T k)
include hT hl H
theorem HK {i:Nat} {p:PS} (hi:k<i) (hp:At T i p) (s:List UInt8):ag ((tM Pu) p s) (PP T i p (Arg s)):=by
 obtain⟨t,ht,e⟩:=hp.tok;rw[Ul,tH,e,aN];refine ag.bif (λhs=>?_) (λhs=>?_)
 ·have hs:s=er:=by simpa[er]using hs
  refine ag.bind (pt hT hl hp 1 (by decide)) (λr1 h1=>?_);obtain⟨⟨j1,a1,b1⟩,c1⟩:=h1;refine ag.bind (ma hT hl a1 _) (λr2 h2=>?_);obtain⟨⟨j2,a2,b2⟩,c2⟩:=h2;refine ag.bind (H.ex j2 _ (by omega) a2) (λr3 h3=>ag.ret ?_);obtain⟨⟨j3,a3,b3⟩,c3⟩:=h3;refine⟨⟨j3,a3,by omega⟩,λhb=>?_⟩;obtain⟨d1,d2⟩:=c3 hb;refine⟨(c1 (c2 d1).1).1,?_⟩;rw[Arg,cZ hs];exact⟨rfl,by simp;exact d2⟩
 ·have hs:s≠er:=by simpa[er]using hs
  refine ag.bind (H.ex i _ hi hp) (λr1 h1=>?_);refine ag.bif (λhm=>ag.ret ?_) (λhm=>?_)
  ·refine⟨h1.1,λhb=>⟨(h1.2 hb).1,?_⟩⟩;have hm:s≠eu:=by simpa[eu]using hm
   rw[Arg,cM hs,cM hm];exact(h1.2 hb).2
  ·have hm:s=eu:=by simpa[eu]using hm
   obtain⟨⟨j1,a1,b1⟩,c1⟩:=h1;refine ag.bind (ma hT hl a1 _) (λr2 h2=>?_);obtain⟨⟨j2,a2,b2⟩,c2⟩:=h2;refine ag.bind (H.ex j2 _ (by omega) a2) (λr3 h3=>ag.ret ?_);obtain⟨⟨j3,a3,b3⟩,c3⟩:=h3;refine⟨⟨j3,a3,by omega⟩,λhb=>?_⟩;obtain⟨d1,d2⟩:=c3 hb;refine⟨(c1 (c2 d1).1).1,?_⟩;rw[Arg,cM hs,cZ hm];exact⟨rfl,by simp;exact⟨(c1 (c2 d1).1).2,d2⟩⟩
theorem Fy {s:List UInt8} {a:Int} {l:List ae} (hs:s∈jv) (h:∀e∈l,Arg s e) (hl:l.length<=1048576):Gd {Kind:=51,Text:=s,N:=0,At:=a,Kids:=l:ae}:=by
 have sub:∀e∈fJ {Kind:=51,Text:=s,N:=0,At:=a,Kids:=l:ae},Gd e:=by
  intro e he;by_cases h1:s=er
  ·rw[qt rfl (.inr h1)]at he;obtain⟨x,hx,hx2⟩:=ec.1 he;have:=h x hx;rw[Arg,cZ h1]at this;exact this.2 e hx2
  by_cases h2:s=eu
  ·rw[qt rfl (.inl h2)]at he;obtain⟨x,hx,hx2⟩:=ec.1 he;have:=h x hx;rw[Arg,cM h1,cZ h2]at this;exact this.2 e hx2
  ·rw[vG h2 h1]at he;have:=h e he;rw[Arg,cM h1,cM h2]at this;exact this
 refine⟨.mk (.inr (.inr (.inr (.inr ⟨rfl,λe x hx=>?_,λe x hx=>?_⟩)))) hl (λe=>by simp at e) (λe=>by simp at e) λe he=>(sub e he).1,.mk (λ_=>hs) λe he=>(sub e he).2⟩
 ·have e:s=eu:=e;have:=h x hx;rw[Arg,cM (by rw[e];decide),cZ e]at this;exact this.1
 ·have e:s=er:=e;have:=h x hx;rw[Arg,cZ e]at this;exact this.1
theorem OM {t:bl} (hs:t.Text∈jv):∀(m i:Nat) (p:PS) (l:List ae),T.length=i+m->k<i->At T i p->(p.aI=false->∀e∈l,Arg t.Text e)->l.length<=i->ag ((r9 Pu) t p l) (PP T i p Gd):=by
 intro m
 induction m using Nat.strongRecOn with
 |_ m im=>
  intro i p l hm hi hp hl1 hl2;rw[PA,sa];refine ag.bind (gb hT hp _) (λb hb=>?_);refine ag.bif (λh=>?_) (λh=>?_)
  ·have h1:At T (i+1) _:=hp.next hl (hb h).2.1 (o:=p.Open)
   refine ag.bind (HK hT hl H (by omega) h1 t.Text) (λr hr=>?_);obtain⟨⟨j,a1,b1⟩,c1⟩:=hr;have hlen:decide ((l++[r.1]).length<=274877906944)=true:=by have:=hp.lt;simp;omega
   rw[hlen,bE];have hj:=a1.lt;refine(im (T.length-j) (by omega) j r.2 _ (by omega) (by omega) a1 (λhbad e he=>?_) (by simp;omega)).mono λr2 h2=>h2.up (by omega) λhbad=>(hb h).1;obtain⟨d1,d2⟩:=c1 hbad;rcases cN.1 he with he|he
   ·exact hl1 (hb h).1 e he
   ·simp at he;subst he;exact d2
  ·refine ag.bind (ma hT hl hp _) (λr hr=>ag.ret ?_);obtain⟨⟨j,a1,b1⟩,c1⟩:=hr;refine⟨⟨j,a1.same,b1⟩,λhbad=>⟨(c1 hbad).1,Fy hT hl H hs (hl1 (c1 hbad).1) ?_⟩⟩;have:=hp.lt;omega
theorem ON {p:PS} {i:Nat} (hp:At T i p):ag ((wC Pu) p) (λb=>b=true->p.aI=false/\i+1<T.length/\∃t,T[i]? =some t/\t.Text∈jv):=by
 rw[Uh,tD,Ug,tC,aN];generalize hq:([_,_,_,_,_,_,_,_,_,_,_,_,_,_,_,_,_]:List (List UInt8))=l;have hlen:l.length=17/\∀x∈l,x∈jv:=by rw[<-hq];exact⟨rfl,by decide⟩
 clear hq;refine mY (L:=λi=>(nF Pu) p l i) (len:=l.length) (λ_=>True) (λq hqi _ kk=>?_) (λ_=>?_) 0 (by omega) trivial
 ·show ag ((nF Pu) p l (q:Int)) _;obtain⟨x,hx⟩:=cn hqi;rw[Hu,pT,du,bX];have:decide (q<l.length)=true:=by simpa using hqi
  rw[this,bE,bW hx,aN,cD q (by omega)];refine ag.bind (gb hT hp x) (λb hb=>?_);refine ag.bif (λh=>ag.ret λ_=>?_) (λ_=>kk trivial);obtain⟨h1,h2,t,h3,h4,_⟩:=hb h;exact⟨h1,h2,t,h3,by rw[h4];exact hlen.2 x (cy hx)⟩
 ·show ag ((nF Pu) p l (l.length:Int)) _;rw[Hu,pT,du,bX];have:decide (l.length<l.length)=false:=by simp
  rw[this];exact ag.ret λh=>by cases h
theorem qu {n:ae} (h:45<=n.Kind/\n.Kind<=50) (hk:n.Kids=[]) (h2:n.Kind=47->NV n.Text):Gd n:=by
 refine⟨vH (by omega) hk (λe=>by omega) h2,.mk (λe=>by omega) λe he=>?_⟩;have:(n.Kind==51)=false:=by simp;omega
 rw[fJ,this,hk]at he;simp at he
theorem OO {p:PS} (hp:At T k p):ag ((wE Pu) p) (PP T k p Gd):=by
 obtain⟨t,ht,e⟩:=hp.tok;rw[Uk,tG,e,aN];have stay:∀{n:ae} {q:PS},At T k q->q.aI=true->ag (some (n,q)) (PP T k p Gd):=λh1 h2=>ag.ret ⟨⟨k,h1,bA _⟩,λh=>by have h:_=false:=h;rw[h2]at h;cases h⟩;have step:∀{n:ae},k+1<T.length->Gd n->ag (some (n,(⟨p.T,IntKind.i64.wrap (p.I+1),p.Open,p.aI,p.aP⟩:PS))) (PP T k p Gd):=λh g=>ag.ret ⟨⟨k+1,hp.next hl h,by omega⟩,λhb=>⟨hb,g⟩⟩;have wint:ag (((iB Pu) p).bind λy4=>(some ((y4.fst),(y4.snd)))) (PP T k p Gd):=ag.bind (OL hT hl hp) (λr hr=>ag.ret ⟨hr.1,λhb=>⟨(hr.2 hb).1,(hr.2 hb).2.1⟩⟩);refine ag.bind (gb hT hp _) (λb hb=>ag.bif (λ_=>wint) (λ_=>?_));refine ag.bif (λ_=>wint) (λ_=>?_);refine ag.bif (λ_=>?_) (λ_=>?_)
 ·refine ag.bind (pt hT hl hp 4 (by decide)) (λr hr=>ag.ret ⟨hr.1,λhb=>?_⟩);obtain⟨h1,t',h2,h3,h4,h5⟩:=hr.2 hb;exact⟨h1,qu hT hl H (by simp) rfl (λ_=>by show NV r.1;rw[h4];exact h5.nv (.inr h3))⟩
 refine ag.bif (λ_=>?_) (λ_=>?_)
 ·exact ag.bind (pt hT hl hp 1 (by decide)) (λr hr=>ag.ret ⟨hr.1,λhb=>⟨(hr.2 hb).1,qu hT hl H (by simp) rfl (λe=>by simp at e)⟩⟩)
 refine ag.bind (gb hT hp _) (λb hb=>ag.bif (λh=>step (hb h).2.1 (qu hT hl H (by simp) rfl (λe=>by simp at e))) (λ_=>?_));refine ag.bind (gb hT hp _) (λb hb=>ag.bif (λh=>step (hb h).2.1 (qu hT hl H (by simp) rfl (λe=>by simp at e))) (λ_=>?_));refine ag.bind (gb hT hp _) (λb hb=>ag.bif (λh=>step (hb h).2.1 (qu hT hl H (by simp) rfl (λe=>by simp at e))) (λ_=>?_));refine ag.bind (gb hT hp _) (λb hb=>ag.bif (λh=>step (hb h).2.1 (qu hT hl H (by simp) rfl (λe=>by simp at e))) (λ_=>?_));refine ag.bind (gb hT hp _) (λb hb=>ag.bif (λh=>?_) (λ_=>?_))
 ·refine ag.bind (rH hp) (λr1 h1=>?_);refine ag.bif (λh2=>stay h1.1 h2) (λh2=>?_);have a1:At T (k+1) _:=h1.1.next hl (hb h).2.1 (o:=r1.2.Open)
  refine ag.bind (H.ex (k+1) _ (by omega) a1) (λr2 hr2=>?_);obtain⟨⟨j2,a2,b2⟩,c2⟩:=hr2;refine ag.bind (ma hT hl a2 _) (λr3 hr3=>ag.ret ?_);obtain⟨⟨j3,a3,b3⟩,c3⟩:=hr3;exact⟨⟨j3,a3.same,by omega⟩,λhbad=>⟨(hb h).1,(c2 (c3 hbad).1).2⟩⟩
 refine ag.bind (ON hT hl H hp) (λb hb=>ag.bif (λh=>?_) (λ_=>?_))
 ·obtain⟨f1,f2,t',f3,f4⟩:=hb h;rw[ht]at f3;cases f3;have a1:At T (k+1) _:=hp.next hl f2 (o:=p.Open)
  refine ag.bind (gb hT a1 _) (λb hb=>ag.bif (λ_=>?_) (λhp40=>?_))
  ·exact ag.bind (pk a1 2) (λr hr=>ag.ret ⟨⟨k+1,hr.1,by omega⟩,λh=>by have h:r.2.aI=false:=h;rw[hr.2]at h;cases h⟩)
  have hb40:=hb (by simpa using hp40);refine ag.bind (rH a1) (λr1 h1=>?_);refine ag.bif (λh2=>ag.ret ⟨⟨k+1,h1.1,by omega⟩,λh=>by have h:r1.2.aI=false:=h;rw[h2]at h;cases h⟩) (λh2=>?_);have a2:At T (k+2) _:=h1.1.next hl hb40.2.1 (o:=r1.2.Open)
  refine ag.bind (gb hT a2 _) (λb hb=>ag.bif (λ_=>?_) (λ_=>?_))
  ·refine ag.bind (HK hT hl H (by omega) a2 t.Text) (λr2 hr2=>?_);obtain⟨⟨j2,a3,b3⟩,c2⟩:=hr2;refine ag.bif (λ_=>?_) (λh=>absurd h (by simp));refine(OM hT hl H f4 (T.length-j2) j2 r2.2 [r2.1] (by have:=a3.lt;omega) (by omega) a3 (λhbad e he=>?_) (by simp;omega)).mono λr h=>h.up (by omega) λ_=>f1;simp at he;subst he;exact(c2 hbad).2
  ·refine ag.bind (ma hT hl a2 _) (λr2 hr2=>ag.ret ?_);obtain⟨⟨j2,a3,b3⟩,c2⟩:=hr2;exact⟨⟨j2,a3.same,by omega⟩,λ_=>⟨f1,Fy hT hl H f4 (by simp) (by simp)⟩⟩
 ·exact ag.bind (pk hp 2) (λr hr=>ag.ret ⟨⟨k,hr.1,bA _⟩,λh=>by have h:r.2.aI=false:=h;rw[hr.2]at h;cases h⟩)
theorem Bi {n:ae} (h51:n.Kind≠51) (h:dC n) (hk:30<=n.Kind/\n.Kind<=43) (hl:n.Kids.length<=3) (hg:∀e∈n.Kids,Gd e):Gd n:=by
 have:fJ n=n.Kids:=kR h51;exact⟨.mk h (by omega) (λe=>by omega) (λe=>by omega) (by rw[this];exactλe he=>(hg e he).1),.mk (λe=>absurd e h51) (by rw[this];exactλe he=>(hg e he).2)⟩
theorem CT {kd a:Int} {t:List UInt8} {x y:ae} (h:31<=kd/\kd<=43/\kd≠33/\kd≠42) (hx:Gd x) (hy:Gd y):Gd {Kind:=kd,Text:=t,N:=0,At:=a,Kids:=[x,y]:ae}:=
 Bi hT hl H (by show kd≠51;omega) (.inr (.inr (.inl ⟨h,rfl⟩))) (by show 30<=kd/\kd<=43;omega) (by simp) (by simp;exact⟨hx,hy⟩)
theorem gone {kd a:Int} {t:List UInt8} {x:ae} (h:kd=33\/kd=42) (hx:Gd x):Gd {Kind:=kd,Text:=t,N:=0,At:=a,Kids:=[x]:ae}:=
 Bi hT hl H (by show kd≠51;omega) (.inr (.inl ⟨h,rfl⟩)) (by show 30<=kd/\kd<=43;omega) (by simp) (by simp;exact hx)
theorem OQ {p:PS} (hp:At T k p):ag ((wD Pu) p) (PP T k p Gd):=by
 rw[Uj,tF];refine ag.bind (OO hT hl H hp) (λr hr=>?_);obtain⟨⟨j,a1,b1⟩,c1⟩:=hr;have key:∀(m i:Nat) (q:PS) (x:ae),T.length=i+m->k<=i->At T i q->(q.aI=false->p.aI=false/\Gd x)->ag ((pU Pu) q x) (PP T k p Gd):=by
  intro m
  induction m using Nat.strongRecOn with
  |_ m im=>
   intro i q x hm hi hq hx;obtain⟨t,ht,e⟩:=hq.tok;rw[Pz,r8,e,aN];refine ag.bind (gb hT hq _) (λb hb=>ag.bif (λh=>?_) (λ_=>?_))
   ·have a2:At T (i+1) _:=hq.next hl (hb h).2.1 (o:=q.Open)
    refine ag.bind (pt hT hl a2 1 (by decide)) (λr hr=>?_);obtain⟨⟨j,a3,b3⟩,c3⟩:=hr;exact im (T.length-j) (by have:=a3.lt;omega) j _ _ (by have:=a3.lt;omega) (by omega) a3 λ_=>⟨(hx (hb h).1).1,gone hT hl H (.inr rfl) (hx (hb h).1).2⟩
   refine ag.bind (gb hT hq _) (λb hb=>ag.bif (λh=>?_) (λ_=>ag.ret ⟨⟨i,hq,hi⟩,hx⟩));refine ag.bind (rH hq) (λr1 h1=>?_);refine ag.bif (λh2=>ag.ret ⟨⟨i,h1.1,hi⟩,λh=>by have h:r1.2.aI=false:=h;rw[h2]at h;cases h⟩) (λh2=>?_);have a2:At T (i+1) _:=h1.1.next hl (hb h).2.1 (o:=r1.2.Open)
   refine ag.bind (H.ex (i+1) _ (by omega) a2) (λr2 hr2=>?_);obtain⟨⟨j2,a3,b3⟩,c3⟩:=hr2;refine ag.bind (ma hT hl a3 _) (λr3 hr3=>?_);obtain⟨⟨j3,a4,b4⟩,c4⟩:=hr3;exact im (T.length-j3) (by have:=a4.lt;omega) j3 _ _ (by have:=a4.lt;omega) (by omega) a4.same λhbad=>⟨(hx (hb h).1).1,CT hT hl H (by decide) (hx (hb h).1).2 (c3 (c4 hbad).1).2⟩
 exact key (T.length-j) j r.2 r.1 (by have:=a1.lt;omega) b1 a1 c1
theorem Ga {i:Nat} {p:PS} (hp:At T i p) (l:Int):ag ((tK Pu) p l) (λr=>r≠0->p.aI=false/\i+1<T.length/\31<=r/\r<=41/\r≠33):=by
 rw[Ui,tE];have z:ag (some (0:Int)) (λr=>r≠0->p.aI=false/\i+1<T.length/\31<=r/\r<=41/\r≠33):=ag.ret λh=>absurd rfl h;have one:∀(s:List UInt8) (r:Int) (o:Option Int),31<=r/\r<=41/\r≠33->ag o (λr=>r≠0->p.aI=false/\i+1<T.length/\31<=r/\r<=41/\r≠33)->ag (((bV Pu) p s).bind λy=>bif y then some r else o) (λr=>r≠0->p.aI=false/\i+1<T.length/\31<=r/\r<=41/\r≠33):=λs r o hr ho=>
  ag.bind (gb hT hp s) (λb hb=>ag.bif (λh=>ag.ret λ_=>⟨(hb h).1,(hb h).2.1,hr⟩) (λ_=>ho))
 refine ag.bif (λ_=>one _ _ _ (by decide) z) (λ_=>?_);refine ag.bif (λ_=>one _ _ _ (by decide) z) (λ_=>?_);refine ag.bif (λ_=>one _ _ _ (by decide) (one _ _ _ (by decide) (one _ _ _ (by decide) (one _ _ _ (by decide) (one _ _ _ (by decide) z))))) (λ_=>?_);refine ag.bif (λ_=>one _ _ _ (by decide) z) (λ_=>?_);exact ag.bif (λ_=>one _ _ _ (by decide) (one _ _ _ (by decide) z)) (λ_=>z)
theorem z7:∀(m l:Nat),l+m=5->∀{p:PS},At T k p->ag ((lg Pu) p (l:Int)) (PP T k p Gd)
 |0,l,hlm,p,hp=>by
  have:l=5:=by omega
  subst this;rw[Ld,qR];exact ag.bif (λ_=>ag.bind (OQ hT hl H hp) λr hr=>ag.ret hr) (λh=>absurd h (by decide))
 |m+1,l,hlm,p,hp=>by
  have nxt:=λ{p:PS} (hp:At T k p)=>z7 m (l+1) (by omega) hp;have no:decide ((l:Int)>4)=false:=by simp;omega
  rw[Ld,qR,no,cp,cD l (by omega)];refine ag.bif (λh2=>?_) (λh2=>?_)
  ·have h2:l=2:=by simp at h2;omega
   subst h2;refine ag.bind (gb hT hp _) (λb hb=>ag.bif (λh=>?_) (λ_=>?_))
   ·obtain⟨t,ht,e⟩:=hp.tok;rw[e,aN];refine ag.bind (rH hp) (λr1 h1=>?_);refine ag.bif (λh2=>ag.ret ⟨⟨k,h1.1,bA _⟩,λh=>by have h:r1.2.aI=false:=h;rw[h2]at h;cases h⟩) (λh2=>?_);have a2:At T (k+1) _:=h1.1.next hl (hb h).2.1 (o:=r1.2.Open)
    refine ag.bind (H.bi 2 (k+1) _ (by omega) (by omega) a2) (λr2 hr2=>ag.ret ?_);obtain⟨⟨j2,a3,b3⟩,c3⟩:=hr2;exact⟨⟨j2,a3.same,by omega⟩,λhbad=>⟨(hb h).1,gone hT hl H (.inl rfl) (c3 hbad).2⟩⟩
   ·refine ag.bind (nxt hp) (λr hr=>?_);obtain⟨⟨j,a1,b1⟩,c1⟩:=hr;rw[Px,rX];refine ag.bind (Ga hT hl H a1 _) (λo ho=>ag.bif (λ_=>ag.ret ⟨⟨j,a1,b1⟩,c1⟩) (λh0=>?_));obtain⟨g1,g2,g3,g4,g5⟩:=ho (by simpa using h0);obtain⟨t,ht,e⟩:=a1.tok;rw[e,aN];have a2:At T (j+1) _:=a1.next hl g2 (o:=r.2.Open)
    refine ag.bind (H.bi 3 (j+1) _ (by omega) (by omega) a2) (λr2 hr2=>ag.ret ?_);obtain⟨⟨j2,a3,b3⟩,c3⟩:=hr2;exact⟨⟨j2,a3,by omega⟩,λhbad=>⟨(c1 g1).1,CT hT hl H (by omega) (c1 g1).2 (c3 hbad).2⟩⟩
  ·refine ag.bind (nxt hp) (λr hr=>?_);obtain⟨⟨j,a1,b1⟩,c1⟩:=hr;have key:∀(m' i:Nat) (q:PS) (x:ae),T.length=i+m'->k<=i->At T i q->(q.aI=false->p.aI=false/\Gd x)->ag ((rY Pu) (l:Int) q x) (PP T k p Gd):=by
    intro m'
    induction m' using Nat.strongRecOn with
    |_ m' im=>
     intro i q x hm hi hq hx;rw[Py,rZ];refine ag.bind (Ga hT hl H hq _) (λo ho=>ag.bif (λ_=>ag.ret ⟨⟨i,hq,hi⟩,hx⟩) (λh0=>?_));obtain⟨g1,g2,g3,g4,g5⟩:=ho (by simpa using h0);obtain⟨t,ht,e⟩:=hq.tok;rw[e,aN,cD l (by omega)];have a2:At T (i+1) _:=hq.next hl g2 (o:=q.Open)
     refine ag.bind (H.bi (l+1) (i+1) _ (by omega) (by omega) a2) (λr2 hr2=>?_);obtain⟨⟨j2,a3,b3⟩,c3⟩:=hr2;exact im (T.length-j2) (by have:=a3.lt;omega) j2 _ _ (by have:=a3.lt;omega) (by omega) a3 λhbad=>⟨(hx g1).1,CT hT hl H (by omega) (hx g1).2 (c3 hbad).2⟩
   exact key (T.length-j) j r.2 r.1 (by have:=a1.lt;omega) b1 a1 c1
theorem I4 {p:PS} (hp:At T k p):ag ((eL Pu) p) (PP T k p Gd):=by
 rw[V8,ug];refine ag.bind (gb hT hp _) (λb hb=>ag.bif (λ_=>?_) (λh=>?_))
 ·exact ag.bind (z7 hT hl H 5 0 (by omega) hp) λr hr=>ag.ret hr
 ·have hb:=hb (by simpa using h);obtain⟨t,ht,e⟩:=hp.tok;rw[e,aN];refine ag.bind (rH hp) (λr1 h1=>?_);refine ag.bif (λh2=>ag.ret ⟨⟨k,h1.1,bA _⟩,λh=>by have h:r1.2.aI=false:=h;rw[h2]at h;cases h⟩) (λh2=>?_);have a2:At T (k+1) _:=h1.1.next hl hb.2.1 (o:=r1.2.Open)
  refine ag.bind (H.ex (k+1) _ (by omega) a2) (λr2 hr2=>?_);obtain⟨⟨j2,a3,b3⟩,c3⟩:=hr2;refine ag.bind (ma hT hl a3 _) (λr3 hr3=>?_);obtain⟨⟨j3,a4,b4⟩,c4⟩:=hr3;refine ag.bind (H.ex j3 _ (by omega) a4) (λr5 hr5=>?_);obtain⟨⟨j5,a5,b5⟩,c5⟩:=hr5;refine ag.bind (ma hT hl a5 _) (λr6 hr6=>?_);obtain⟨⟨j6,a6,b6⟩,c6⟩:=hr6;refine ag.bind (H.ex j6 _ (by omega) a6) (λr7 hr7=>ag.ret ?_);obtain⟨⟨j7,a7,b7⟩,c7⟩:=hr7;refine⟨⟨j7,a7.same,by omega⟩,λhbad=>⟨hb.1,?_⟩⟩;obtain⟨d7,g7⟩:=c7 hbad;obtain⟨d5,g5⟩:=c5 (c6 d7).1;obtain⟨d3,g3⟩:=c3 (c4 d5).1;exact Bi hT hl H (by simp) (.inl ⟨rfl,rfl⟩) (by simp) (by simp) (by simp;exact⟨g3,g5,g7⟩)
end
theorem PD {T:List bl} (hT:oA T) (hl:T.length<=65537):∀(m k:Nat),T.length=k+m->Hyp T k:=by
 intro m
 induction m using Nat.strongRecOn with
 |_ m im=>
  intro k hk;have up:=λ(i:Nat) (h:k<i) (hi:i<T.length)=>im (T.length-i) (by omega) i (by omega);exact⟨λi p hi hp=>I4 hT hl (up i hi hp.lt) hp,λl i p hl5 hi hp=>z7 hT hl (up i hi hp.lt) (5-l) l (by omega) hp⟩
theorem N9 {a:List UInt8} (ha:a.length<=65536):ag ((ua Pu) a) (λr=>r.2.Code=0->Gd r.1):=by
 rw[V',ui];refine ag.bind (P:=λr=>r.2.Code=0->Gd r.1) ?_ (λr hr=>ag.ret hr);rw[V9,uh];refine ag.bind (PE ha) (λr hr=>?_);refine ag.bif (λh=>ag.ret λe=>?_) (λh=>?_)
 ·rw[e]at h;cases h
 obtain⟨hT,hlen⟩:=hr (by simpa using h);have hl:r.1.length<=65537:=by omega
 refine ag.bif (λ_=>?_) (λh=>absurd h (by decide));have h0:At r.1 0 ⟨r.1,0,0,false,⟨0,0⟩⟩:=⟨rfl,rfl,by obtain⟨l,e,h,_⟩:=hT;rw[h];simp,λh=>by cases h⟩;have hE:ag ((eL Pu) ⟨r.1,0,0,false,⟨0,0⟩⟩) (PP r.1 0 ⟨r.1,0,0,false,⟨0,0⟩⟩ Gd):=I4 hT hl (PD hT hl r.1.length 0 (by omega)) h0;refine ag.bind hE (λr2 hr2=>?_);obtain⟨⟨j,a1,b1⟩,c1⟩:=hr2;refine ag.bif (λhb=>?_) (λhb=>ag.ret λe=>absurd e (a1.bad (by simpa using hb)));have hg:Gd r2.1:=(c1 (by simpa using hb)).2;obtain⟨t,ht,e⟩:=a1.tok;rw[e,aN];refine ag.bif (λ_=>?_) (λ_=>ag.ret λ_=>hg);refine ag.bind (pk a1 2) (λr3 hr3=>ag.bif (λh=>ag.ret λe=>absurd e (hr3.1.bad h)) (λh=>?_));rw[hr3.2]at h;cases h
