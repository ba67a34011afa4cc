/- The reference of types: equality of descriptions, sorts, open expressions; the relation of an elaboration to the reference's. -/
import Derived.Test.YtfgnmgbiijpkiaaGreatKVa9
set_option linter.all false
namespace Go.Proofs.YtfgnmgbiijpkiaaGreat
open Go Go.Bw
section
variable {B:Nat} (hB:B<=1048576)
include hB
theorem FG {a b:List (List UInt8)} (ha:a.length<=B):(f69 Pf) a b=some (a==b):=E3 hB Vp PW ha
theorem Og {a b:ai} (hl:a.aB.length<=B) (h:a.aB.length=b.aB.length) (ih:∀k∈a.aB,∀b,(f29 Pf) k b=some (gl k b)):(nH Pf) a b 0=some (gP a.aB b.aB):=by
 rw[pr (a:=a.aB) (b:=b.aB) (L:=(nH Pf) a b) gl true h ?_ ?_]
 ·rw[yB h,uv]
 ·intro i x y hx hy hi;rw[HW,p3,ai.bc,ng (by omega)];have h1:decide ((i:Int)<(a.aB.length:Int))=true:=by simpa using hi
  rw[h1,bW hx,bW hy];show(((f29 Pf) x y).bind _)=_;rw[ih x (cy hx) y];show(bif !(gl x y)then _ else _)=_;cases gl x y<;>rfl
 ·rw[HW,p3,ai.bc];simp
theorem Oh {a b:ai} {s:Bool} (hl:a.bw.length<=B) (hr:∀x∈a.bw,x.ok B) (h:a.bw.length=b.bw.length) {p:Bool} (hp:(nH Pf) a b 0=some p):(p5 Pf) a b s 0=some ((a.bw.zip b.bw).all (λq=>gT q.1 q.2)&&p):=by
 rw[pr (a:=a.bw) (b:=b.bw) (L:=(p5 Pf) a b s) gT p h ?_ ?_]
 ·intro i x y hx hy hi;rw[HX,p6,aV.bc,ng (by omega)];have h1:decide ((i:Int)<(a.bw.length:Int))=true:=by simpa using hi
  rw[h1,bE,bW hx,aN,bW hy,aN];simp only[aN];rw[FG hB (hr x (cy hx)).1.1,aN,gT];cases x.eU==y.eU<;>cases x.If==y.If<;>rfl
 ·rw[HX,p6,aV.bc];simp[hp]
theorem Fx:∀a b:ai,a.ok B->(f29 Pf) a b=some (gl a b):=by
 refine ai.ind ?_;intro a ih b ha;rw[ai.eP]at ha;obtain⟨_,_,_,hn,hp,hr⟩:=ha;rw[Vq,tR,FG hB hn.1];have e:gl a b=(a.Kind==b.Kind&&(a.Lo==b.Lo&&(a.Hi==b.Hi&&(a.Names==b.Names&&((a.bw.length==b.bw.length&&(a.bw.zip b.bw).all (λq=>gT q.1 q.2))&&gP a.aB b.aB))))):=by
  cases a;cases b;rw[gl]
 rw[e,ai.bc,ai.bc,aV.bc,aV.bc];simp only[aN,bne];by_cases h1:a.aB.length=b.aB.length
 ·by_cases h2:a.bw.length=b.bw.length
  ·rw[Oh hB hr.1 hr.2 h2 (Og hB hp.1 h1 λk hk b=>ih k hk b (ai.pM hp.2 hk)),h1,h2];simp only[beq_self_eq_true,Bool.true_and];cases a.Kind==b.Kind<;>cases a.Lo==b.Lo<;>cases a.Hi==b.Hi<;>cases a.Names==b.Names<;>rfl
  ·have h3:((a.bw.length:Int)==(b.bw.length:Int))=false:=by simpa usingλh=>h2 (by omega)
   have h4:(a.bw.length==b.bw.length)=false:=by simpa using h2
   rw[h3,h4];simp only[Bool.false_and,MD];cases a.Kind==b.Kind<;>cases a.Lo==b.Lo<;>cases a.Hi==b.Hi<;>cases a.Names==b.Names<;>cases ((a.aB.length:Int)==(b.aB.length:Int))<;>rfl
 ·have h3:((a.aB.length:Int)==(b.aB.length:Int))=false:=by simpa usingλh=>h1 (by omega)
  rw[h3,yD h1];simp only[MD];cases a.Kind==b.Kind<;>cases a.Lo==b.Lo<;>cases a.Hi==b.Hi<;>cases a.Names==b.Names<;>rfl
theorem yA {a b:az} (ha:a.aj.ok B):∃r,(f50 Pf) a b=some r/\(r=true↔a=b):=by
 rw[Vx,tX];cases a with|mk s l=>cases b with|mk s' l'=>
 by_cases h:s=s'
 ·have:(s==s')=true:=by simpa using h
  show∃r,(bif s==s' then _ else _)=some r/\_;rw[this,bE,Fx hB _ _ ha,aN];exact⟨_,rfl,by rw[rP,h];simp⟩
 ·have:(s==s')=false:=by simpa using h
  show∃r,(bif s==s' then _ else _)=some r/\_;rw[this];exact⟨_,rfl,by constructor;intro e;cases e;intro e;cases e;exact absurd rfl h⟩
end
theorem cX (n:Int):(f88 Pf) n=some (ba n):=Vy n
theorem kx (l:ai):(f87 Pf) l=some (cJ l):=Vz l
theorem dB (a b:Int):(f41 Pf) a b=some ⟨a,b⟩:=Vw a b
theorem kW (t:az):(f95 Pf) t=some (isNone t):=by
 rw[VA,tY,isNone];cases t.aS==0<;>rfl
theorem Gj {B:Nat} {n:ae} (h:WN B n):∃b,(f238 Pf) n=some b/\(f209 Pf) n=some b:=by
 induction h with
 |mk hs hl h44 h47 hk ih=>
  rename_i n;rw[Kn,qz,k3,iv];have bf:∀{D:Type} {c:Bool} {x y z w:Option D},(c=true->∃b,x=some b/\z=some b)->(c=false->∃b,y=some b/\w=some b)->∃b,(bif c then x else y)=some b/\(bif c then z else w)=some b:=by
   intro D c x y z w h1 h2;cases c with|true=>exact h1 rfl|false=>exact h2 rfl
  have bd:∀{x z:Option Bool} {f g:Bool->Option Bool},(∃b,x=some b/\z=some b)->(∀b,∃c,f b=some c/\g b=some c)->∃b,x.bind f=some b/\z.bind g=some b:=by
   rintro x z f g ⟨b,rfl,rfl⟩ h;exact h b
  refine bf (λ_=>⟨_,rfl,rfl⟩) (λ_=>?_);refine bf (λ_=>?_) (λh51=>?_)
  ·repeat' (first|exact⟨_,rfl,rfl⟩|refine bf (λ_=>?_) (λ_=>?_))
  rw[kR (by simpa using h51)]at ih;refine bf (λh=>?_) (λ_=>?_)
  ·have h:n.Kind=39:=by simpa using h
   obtain⟨x,y,e⟩:=gg (l:=n.Kids) (by unfold dC at hs;omega);rw[e]at ih⊢;refine bd (ih x (by simp)) (λb=>bf (λ_=>?_) (λ_=>⟨_,rfl,rfl⟩));exact bd (ih y (by simp)) (λb=>⟨_,rfl,rfl⟩)
  refine bf (λh=>?_) (λ_=>⟨_,rfl,rfl⟩);have h:n.Kind=30:=by simpa using h
  obtain⟨x,y,z,e⟩:=qv (l:=n.Kids) (by unfold dC at hs;omega);rw[e]at ih⊢;refine bd (ih y (by simp)) (λb=>bf (λ_=>?_) (λ_=>⟨_,rfl,rfl⟩));exact bd (ih z (by simp)) (λb=>⟨_,rfl,rfl⟩)
def FF (a b:Int):AV:= .bu 28 (.agg [.v (.int .i64 a),.v (.int .i64 b)])
def RR {D β:Type} (Q:D->β->Prop) (o:Option (aU D)) (q:Option (β×aK)):Prop:=
 (∃y z,Q y z/\o=some (.ret y)/\q=some (z,⟨0,0⟩))\/(∃a b z,a≠0/\o=some (.aO (FF a b))/\q=some (z,⟨a,b⟩))
section
variable {D β γ δ:Type} {Q:D->β->Prop} {Q':γ->δ->Prop}
theorem RR.ret {y:D} {z:β} (h:Q y z):RR Q (some (.ret y)) (some (z,aK.z)):= .inl ⟨y,z,h,rfl,rfl⟩
theorem RR.fail {a b:Int} {z:β} (ha:a≠0:=by decide):RR Q (Bw.aH ((f80 Pf) a b) λ_=>(none:Option (aU D))) (((f41 Pf) a b).bind λy=>some (z,y)):=by
 rw[jE,gD,dB];exact .inr ⟨a,b,z,ha,rfl,rfl⟩
theorem gN {D:Type} {a:Int} {x y:D} (h:a≠0):(bif (a !=0)then x else y)=x:=by
 have:(a !=0)=true:=by simpa using h
 rw[this];rfl
theorem gE {D:Type} {a:Int} {x y:D} (h:a≠0):(bif (a==0)then x else y)=y:=by
 have:(a==0)=false:=by simpa using h
 rw[this];rfl
theorem RR.bind {o:Option (aU D)} {q:Option (β×aK)} {f:D->Option (aU γ)} {g:β×aK->Option (δ×aK)} (h:RR Q o q) (hf:∀y z,Q y z->RR Q' (f y) (g (z,⟨0,0⟩)))
  (hg:∀a b z,a≠0->∃z',g (z,⟨a,b⟩)=some (z',⟨a,b⟩):=by intro a b z ha;first|exact⟨_,rfl⟩|exact⟨_,gN ha⟩|exact⟨_,gE ha⟩):RR Q' (Bw.aH o f) (q.bind g):=by
 rcases h with⟨y,z,h,rfl,rfl⟩|⟨a,b,z,ha,rfl,rfl⟩
 ·exact hf y z h
 ·obtain⟨z',e⟩:=hg a b z ha;exact .inr ⟨a,b,z',ha,rfl,e⟩
theorem RR.l {ε:Type} {o:Option ε} {v:ε} {f:ε->Option (aU γ)} {q:Option (δ×aK)} (e:o=some v) (h:RR Q' (f v) q):RR Q' (o.bind f) q:=by rw[e];exact h
theorem RR.r {ε:Type} {o:Option ε} {v:ε} {p:Option (aU γ)} {g:ε->Option (δ×aK)} (e:o=some v) (h:RR Q' p (g v)):RR Q' p (o.bind g):=by rw[e];exact h
theorem RR.aZ {c:Bool} {a b:Option (aU γ)} {q:Option (δ×aK)} (h1:c=true->RR Q' a q) (h2:c=false->RR Q' b q):RR Q' (bif c then a else b) q:=by
 cases c with|true=>exact h1 rfl|false=>exact h2 rfl
theorem RR.t {c:Bool} {p:Option (aU γ)} {a b:Option (δ×aK)} (h:c=true) (h1:RR Q' p a):RR Q' p (bif c then a else b):=by rw[h];exact h1
theorem RR.f {c:Bool} {p:Option (aU γ)} {a b:Option (δ×aK)} (h:c=false) (h1:RR Q' p b):RR Q' p (bif c then a else b):=by rw[h];exact h1
end
def sc (c:bR):cr:=⟨c.l,c.params⟩
def RE (B:Nat) (c:bR) (n:ae):Prop:=∀w,cd B w->RR (λy z=>z=y/\EP B c n w y) ((f48 Pf) c n w) ((f49 Pf) (sc c) n w)
theorem pc {s:cr} {ks:List ae} {ws:List az} {b:List ab} {a:List ab} {i:Nat} {k:ae} {w:az} (hk:ks[i]? =some k) (hw:ws[i]? =some w) (hb:b.length<=i) (hi:ws.length<1000000):
  (iP Pf) s ks ws a b (i:Int)=((f49 Pf) s k w).bind λy=>bif y.snd.Code !=0 then some ([],y.snd)else(iP Pf) s ks ws a (b++[y.fst]) ((i+1:Nat):Int):=by
 rw[Gz,pE,az.bc,bX];have hl:=(c8.1 hw).1;have h1:decide (i<ws.length)=true:=by simpa using hl
 rw[h1,bE,bW hk,aN,bW hw,aN,cD i (by omega)];congr 1;funext y;have h2:decide ((b++[y.fst]).length<=274877906944)=true:=by simp;omega
 rw[h2,bE]
theorem yE {s:cr} {ks:List ae} {ws:List az} {a b:List ab} {i:Nat} (hi:ws.length=i):(iP Pf) s ks ws a b (i:Int)=some (b,aK.z):=by
 rw[Gz,pE,az.bc,bX,hi];have:decide (i<i)=false:=by simp
 rw[this];rfl
section
variable {B:Nat} (hB:B<=1048576) {c:bR} (hc:CE B c) {γ δ:Type} {Q':γ->δ->Prop}
theorem sL {x:ae} {a:az} {r:List ae} {f:ab->Option (aU γ)} {g:List ab×aK->Option (δ×aK)} (hx:RE B c x) (ha:cd B a)
  (hf:∀u,EP B c x a u->RR Q' (f u) (g ([u],⟨0,0⟩)))
  (hg:∀a b,a≠0->∃z',g ([],⟨a,b⟩)=some (z',⟨a,b⟩):=by intro a b ha;first|exact⟨_,rfl⟩|exact⟨_,gN ha⟩|exact⟨_,gE ha⟩):
  RR Q' (Bw.aH ((f48 Pf) c x a) f) (((f163 Pf) (sc c) (x::r) [a]).bind g):=by
 rw[B1,mF];have e:=pc (s:=sc c) (ks:=x::r) (ws:=[a]) (a:=[]) (b:=[]) (i:=0) rfl rfl (by simp) (by simp);have e0:((0:Nat):Int)=0:=rfl;rw[e0]at e;rw[e,uB];refine RR.bind (hx a ha) (λy z h=>?_) (λp q z hp=>?_)
 ·obtain⟨rfl,h⟩:=h;have e2:=yE (s:=sc c) (ks:=x::r) (ws:=[a]) (a:=[]) (b:=[]++[z]) (i:=0+1) rfl;show RR Q' (f z) (Option.bind ((iP Pf) (sc c) (x::r) [a] [] ([]++[z]) ((0+1:Nat):Int)) g);rw[e2];exact hf z h
 ·obtain⟨z',e3⟩:=hg p q hp;refine⟨z',?_⟩;show Option.bind (bif p !=0 then _ else _) g=_;rw[gN hp];exact e3
theorem vU {x z:ae} {a b:az} {r:List ae} {o:ab->Option (aU γ)} {g:List ab×aK->Option (δ×aK)} (hx:RE B c x) (ha:cd B a)
  (hz:RE B c z) (hb:cd B b) {f:ab->ab->Option (aU γ)} (ho:∀u,EP B c x a u->o u=Bw.aH ((f48 Pf) c z b) (f u))
  (hf:∀u v,EP B c x a u->EP B c z b v->RR Q' (f u v) (g ([u,v],⟨0,0⟩)))
  (hg:∀a b,a≠0->∃z',g ([],⟨a,b⟩)=some (z',⟨a,b⟩):=by intro a b ha;first|exact⟨_,rfl⟩|exact⟨_,gN ha⟩|exact⟨_,gE ha⟩):
  RR Q' (Bw.aH ((f48 Pf) c x a) o) (((f163 Pf) (sc c) (x::z::r) [a,b]).bind g):=by
 rw[B1,mF];have e:=pc (s:=sc c) (ks:=x::z::r) (ws:=[a,b]) (a:=[]) (b:=[]) (i:=0) rfl rfl (by simp) (by simp);have e0:((0:Nat):Int)=0:=rfl;rw[e0]at e;rw[e,uB];refine RR.bind (hx a ha) (λy u h=>?_) (λp q z hp=>?_)
 ·obtain⟨rfl,h⟩:=h;show RR Q' (o u) (Option.bind ((iP Pf) (sc c) (x::z::r) [a,b] [] ([]++[u]) ((0+1:Nat):Int)) g);rw[ho u h,pc (s:=sc c) (ks:=x::z::r) (ws:=[a,b]) (a:=[]) (b:=[]++[u]) (i:=0+1) rfl rfl (by simp) (by simp),uB];refine RR.bind (hz b hb) (λy v h2=>?_) (λp q z hp=>?_)
  ·obtain⟨rfl,h2⟩:=h2;show RR Q' (f u v) (Option.bind ((iP Pf) (sc c) (x::z::r) [a,b] [] ([]++[u]++[v]) ((0+1+1:Nat):Int)) g);rw[yE (s:=sc c) (ks:=x::z::r) (ws:=[a,b]) (a:=[]) (b:=[]++[u]++[v]) (i:=0+1+1) rfl];exact hf u v h h2
  ·obtain⟨z',e3⟩:=hg p q hp;refine⟨z',?_⟩;show Option.bind (bif p !=0 then _ else _) g=_;rw[gN hp];exact e3
 ·obtain⟨z',e3⟩:=hg p q hp;refine⟨z',?_⟩;show Option.bind (bif p !=0 then _ else _) g=_;rw[gN hp];exact e3
theorem Gi {n x z:ae} {a b t:az} {op:Int} (hn:n.Kids=[x,z]) (hx:RE B c x) (hz:RE B c z) (ha:cd B a) (hb:cd B b) {f:ab->Option (aU γ)} {g:List ab×aK->Option (δ×aK)}
  (hf:∀u v,EP B c x a u->EP B c z b v->RR Q' (f ⟨op,t,0,[],0,[u,v]⟩) (g ([u,v],⟨0,0⟩)))
  (hg:∀a b,a≠0->∃z',g ([],⟨a,b⟩)=some (z',⟨a,b⟩):=by intro a b ha;first|exact⟨_,rfl⟩|exact⟨_,gN ha⟩|exact⟨_,gE ha⟩):
  RR Q' (Bw.aH ((f158 Pf) c op n a b t) f) (((f163 Pf) (sc c) n.Kids [a,b]).bind g):=by
 rw[Ko,qB,hn];have e:∀{o:ab->Option (aU ab)},Bw.aH ((ax [x,z] 0).bind λx1=>Bw.aH ((f48 Pf) c x1 a) o) f=Bw.aH ((f48 Pf) c x a) λu=>Bw.aH (o u) f:=by
  intro o;show Bw.aH (Bw.aH ((f48 Pf) c x a) o) f=_;cases (f48 Pf) c x a with
  |none=>rfl
  |some r=>cases r<;>rfl
 rw[e];refine vU hx ha hz hb (f:=λu v=>f ⟨op,t,0,[],0,[u,v]⟩) (λu hu=>?_) (λu v hu hv=>hf u v hu hv) hg;show Bw.aH (Bw.aH ((f48 Pf) c z b) _) f=_;cases (f48 Pf) c z b with
 |none=>rfl
 |some r=>cases r<;>rfl
end
theorem iK {D β γ:Type} (o:Option (aU D)) (f:D->Option (aU β)) (g:β->Option (aU γ)):Bw.aH (Bw.aH o f) g=Bw.aH o λy=>Bw.aH (f y) g:=by
 cases o with
 |none=>rfl
 |some r=>cases r<;>rfl
theorem l6 {ε β γ:Type} (o:Option ε) (f:ε->Option (aU β)) (g:β->Option (aU γ)):Bw.aH (o.bind f) g=o.bind λy=>Bw.aH (f y) g:=by
 cases o<;>rfl
theorem kF {β γ:Type} (b:Bool) (x y:Option (aU β)) (g:β->Option (aU γ)):Bw.aH (bif b then x else y) g=bif b then Bw.aH x g else Bw.aH y g:=by
 cases b<;>rfl
theorem jU {β γ:Type} (x:β) (g:β->Option (aU γ)):Bw.aH (some (.ret x)) g=g x:=rfl
section
variable {B:Nat} (hB:B<=1048576) {c:bR} (hc:CE B c) {γ δ:Type} {Q':γ->δ->Prop}
theorem xH {n x z:ae} {lt:Bool} (wx:WN B x) (wz:WN B z) (hx:RE B c x) (hz:RE B c z):RR (λr ks=>ks=[r.1,r.2]/\TP B c x z lt r) ((f203 Pf) c n x z lt) ((f162 Pf) (sc c) x z n.At lt):=by
 rw[Ks,qH,SR,sW];obtain⟨ox,e1,e2⟩:=Gj wx;obtain⟨oz,e3,e4⟩:=Gj wz;rw[e1,e2,e3,e4];simp only[aN];cases ox with
 |true=>
  simp only[bE];cases oz with
  |true=>exact RR.fail
  |false=>
   simp only[cp];refine RR.bind (hz (ba 0) (.inl rfl)) (λy u h=>?_);obtain⟨rfl,hu⟩:=h;refine RR.f rfl ?_;have two:(lt=true->u.ak.aS=0)->RR (λr ks=>ks=[r.1,r.2]/\TP B c x z lt r) (Bw.aH ((f48 Pf) c x u.ak) λy=>some (.ret (y,u))) (((f49 Pf) (sc c) x u.ak).bind λy=>bif y.snd.Code !=0 then some ([],y.snd)else some ([y.fst,u],y.snd)):=λhl=>by
    refine RR.bind (hx _ (.inr hu.2.1)) (λy v h=>?_);obtain⟨rfl,hv⟩:=h;exact RR.f rfl (RR.ret ⟨rfl,.inr ⟨hu,hv,hl⟩⟩)
   cases lt with
   |true=>
    simp only[bE];by_cases hs:u.ak.aS=0
    ·have:(u.ak.aS !=0)=false:=by simp[hs]
     refine RR.aZ (λh=>by rw[this]at h;cases h) (λ_=>RR.f this (two λ_=>hs))
    ·have:(u.ak.aS !=0)=true:=by simpa using hs
     refine RR.aZ (λ_=>RR.t this RR.fail) (λh=>by rw[this]at h;cases h)
   |false=>exact two λh=>by cases h
 |false=>
  simp only[cp];refine RR.bind (hx (ba 0) (.inl rfl)) (λy u h=>?_);obtain⟨rfl,hu⟩:=h;refine RR.f rfl ?_;have two:(lt=true->u.ak.aS=0)->RR (λr ks=>ks=[r.1,r.2]/\TP B c x z lt r) (Bw.aH ((f48 Pf) c z u.ak) λy=>some (.ret (u,y))) (((f49 Pf) (sc c) z u.ak).bind λy=>bif y.snd.Code !=0 then some ([],y.snd)else some ([u,y.fst],y.snd)):=λhl=>by
   refine RR.bind (hz _ (.inr hu.2.1)) (λy v h=>?_);obtain⟨rfl,hv⟩:=h;exact RR.f rfl (RR.ret ⟨rfl,.inl ⟨hu,hv,hl⟩⟩)
  cases lt with
  |true=>
   simp only[bE];by_cases hs:u.ak.aS=0
   ·have:(u.ak.aS !=0)=false:=by simp[hs]
    refine RR.aZ (λh=>by rw[this]at h;cases h) (λ_=>RR.f this (two λ_=>hs))
   ·have:(u.ak.aS !=0)=true:=by simpa using hs
    refine RR.aZ (λ_=>RR.t this RR.fail) (λh=>by rw[this]at h;cases h)
  |false=>exact two λh=>by cases h
end
def EQ {D:Type}:D->D->Prop:=λy z=>z=y
theorem RR.and {D:Type} {P:D->Prop} {o:Option (aU D)} {q:Option (D×aK)} (h:RR EQ o q) (hp:ao o P dO):RR (λy z=>z=y/\P y) o q:=by
 rcases h with⟨y,z,h,rfl,rfl⟩|h
 ·obtain⟨r,e,hr⟩:=hp;cases e;exact .inl ⟨y,z,⟨h,hr⟩,rfl,rfl⟩
 ·obtain⟨a,b,z,ha,rfl,rfl⟩:=h;exact .inr ⟨a,b,z,ha,rfl,rfl⟩
theorem RR.same {D:Type} {y:D} {q:Option (D×aK)} (h:q=some (y,⟨0,0⟩)):RR EQ (some (.ret y)) q:= .inl ⟨y,y,rfl,rfl,h⟩
section
variable {B:Nat} (hB:B<=1048576) {c:bR} (hc:CE B c) {γ δ:Type} {Q':γ->δ->Prop}
theorem bq.nX {t:az} (h:bq B t) (hs:t.aS≠0):t.aj.Kind=0:=by
 rcases h with⟨_,_,h⟩|⟨h,_⟩
 ·rw[h];rfl
 ·exact absurd h hs
theorem uK {n x:ae} {ks:List Int} (hk:ks.length<9223372036854775807) (h0:(0:Int)∉ks) (hx:RE B c x) {f:ab->Option (aU γ)} {g:ab×aK->Option (δ×aK)}
  (h1:∀u,EP B c x (ba 0) u->u.ak.aS=0->u.ak.aj.Kind∈ks->RR Q' (f u) (g (u,⟨0,0⟩)))
  (h2:∀u,u.ak.aj.Kind∉ks->∃z',g (u,⟨0,0⟩)=some (z',⟨4,n.At⟩))
  (hg:∀a b z,a≠0->∃z',g (z,⟨a,b⟩)=some (z',⟨a,b⟩):=by intro a b z ha;first|exact⟨_,rfl⟩|exact⟨_,gN ha⟩|exact⟨_,gE ha⟩):
  RR Q' (Bw.aH ((f204 Pf) c n x ks) f) (((f49 Pf) (sc c) x (ba 0)).bind g):=by
 rw[vZ,mE,iK];refine RR.bind (hx (ba 0) (.inl rfl)) (λy u h=>?_) hg;obtain⟨rfl,hu⟩:=h;have bad:u.ak.aj.Kind∉ks->RR Q' (Bw.aH (Bw.aH ((f80 Pf) 4 n.At) λ_=>(none:Option (aU ab))) f) (g (u,⟨0,0⟩)):=λh=>by
  obtain⟨z',e⟩:=h2 u h;rw[jE,gD,e];exact .inr ⟨4,n.At,z',by decide,rfl,rfl⟩
 rw[kF];refine RR.aZ (λhs=>bad ?_) (λhs=>?_)
 ·rw[hu.2.1.nX (by simpa using hs)];exact h0
 ·rw[kN ks _ hk,aN,kF];refine RR.aZ (λhm=>bad λh=>?_) (λhm=>?_)
  ·have:(ks.any λy=>u.ak.aj.Kind==y)=true:=l3.2 ⟨_,h,by simp⟩;rw[this]at hm;cases hm
  ·refine h1 u hu (by simpa using hs) ?_;simp only[uA,l3,beq_iff_eq]at hm;obtain⟨k,h3,h4⟩:=hm;rw[h4];exact h3
theorem sb {n x:ae} {op:Int} {t:az} {ks:List Int} (hk:ks.length<9223372036854775807) (h0:(0:Int)∉ks) (hx:RE B c x) {g:ab×aK->Option (ab×aK)}
  (h1:∀u,u.ak.aj.Kind∈ks->g (u,⟨0,0⟩)=some (⟨op,t,0,[],0,[u]⟩,⟨0,0⟩))
  (h2:∀u,u.ak.aj.Kind∉ks->∃z',g (u,⟨0,0⟩)=some (z',⟨4,n.At⟩))
  (hg:∀a b z,a≠0->∃z',g (z,⟨a,b⟩)=some (z',⟨a,b⟩):=by intro a b z ha;first|exact⟨_,rfl⟩|exact⟨_,gN ha⟩|exact⟨_,gE ha⟩):
  RR EQ (Bw.aH ((f237 Pf) op t ks c n x) λy=>some (.ret y)) (((f49 Pf) (sc c) x (ba 0)).bind g):=by
 rw[sR,lG,iK];refine uK hk h0 hx (λu _ _ h=>?_) h2 hg;rw[h1 u h];exact .inl ⟨_,_,rfl,rfl,rfl⟩
theorem MZ {n x:ae} (hn:n.Kids=[x]) (hx:RE B c x) (ht:n.Text∈[[115,105,122,101],[115,117,109],[110,117,109,98,101,114],[111,110],[107,101,121,115],[118,97,108,117,101,115],[99,111,110,102,108,105,99,116],[115,101,99,111,110,100],[102,105,114,115,116]]):
  RR EQ ((f202 Pf) c n) ((f212 Pf) (sc c) n):=by
 rw[Kq,qD,SV,sX,hn];refine RR.l (v:=x) rfl (RR.r (v:=x) rfl ?_);refine RR.l (dh 2) (RR.l (dh 1) (RR.l (dh 4) ?_));have z0:az.z=ba 0:=rfl;simp only[dc,mS,or_false]at ht;rcases ht with e|e|e|e|e|e|e|e|e
 ·rw[e];refine RR.aZ (λ_=>?_) (λh=>absurd h (by decide));refine RR.bind (hx (ba 0) (.inl rfl)) (λy u h=>?_);obtain⟨rfl,hu⟩:=h;refine RR.f rfl (RR.t (by decide) (RR.r (cX 1) ?_));have bad:u.ak.aS≠4->u.ak.aj.Kind∉[(4:Int),5,9,10]->∀{p q r s t:Option (ab×aK)},RR EQ (Bw.aH ((f80 Pf) 4 n.At) λ_=>(none:Option (aU ab))) (bif u.ak.aS==4 then p else bif u.ak.aj.Kind==4 then q else bif u.ak.aj.Kind==5 then r else bif u.ak.aj.Kind==9 then s else bif !(u.ak.aj.Kind==10)then((f41 Pf) 4 n.At).bind λy=>some (ab.z,y)else t):=λh4 h=>by
   intro p q r s t;simp at h;simp only[<-ne_eq,<-beq_eq_false_iff_ne]at h h4;rw[h4,h.1,h.2.1,h.2.2.1,h.2.2.2];exact RR.fail
  refine RR.aZ (λh4=>?_) (λh4=>RR.t (by simpa using h4) (RR.ret rfl));have h4:u.ak.aS≠4:=by simpa using h4
  refine RR.aZ (λhs=>bad h4 ?_) (λhs=>?_)
  ·rw[hu.2.1.nX (by simpa using hs)];decide
  refine RR.l (kN _ _ (by simp)) (RR.aZ (λhm=>bad h4 λh=>?_) (λhm=>?_))
  ·have:(List.any [4,5,9,10] λy=>u.ak.aj.Kind==y)=true:=l3.2 ⟨_,h,by simp⟩;rw[this]at hm;cases hm
  ·have h4:(u.ak.aS==4)=false:=by simpa using h4
   refine RR.f h4 (RR.same ?_);simp only[uA,l3,beq_iff_eq]at hm;obtain⟨k,h3,hm⟩:=hm;rw[<-hm]at h3;simp at h3;rcases h3 with h|h|h|h<;>simp[h]
 ·rw[e];refine RR.aZ (λh=>absurd h (by decide)) (λ_=>RR.aZ (λ_=>?_) (λh=>absurd h (by decide)));rw[sR,lG,iK];refine uK (by simp) (by simp) hx (λu hu hs hk=>?_) (λu hk=>?_)
  ·have h5:u.ak.aj.Kind=5:=by simpa using hk
   obtain⟨p,hp⟩:=qe (hu.2.1.dI hs).1 h5;have k5:(u.ak.aj.Kind==5)=true:=by rw[h5];rfl
   rw[jU];refine RR.l (v:=u) rfl ?_;refine RR.f rfl (RR.f (by decide) (RR.t (by decide) (RR.r (cX 1) (RR.t k5 ?_))));rw[hp];refine RR.l (v:=p) rfl (RR.r (v:=p) rfl ?_);refine RR.aZ (λh2=>?_) (λh2=>RR.t (by simpa using h2) (RR.ret rfl));refine RR.f (by simpa using h2) (RR.r (v:=p) rfl ?_);refine RR.aZ (λh3=>RR.t (by simpa using h3) RR.fail) (λh3=>RR.f (by simpa using h3) (RR.ret rfl))
  ·have h5:(u.ak.aj.Kind==5)=false:=by simpa using hk
   simp[h5,cX,dB]
 ·rw[e];refine RR.aZ (λh=>absurd h (by decide)) (λ_=>RR.aZ (λh=>absurd h (by decide)) (λ_=>RR.aZ (λ_=>?_) (λh=>absurd h (by decide))));refine sb (by simp) (by simp) hx (λu hu=>?_) (λu hu=>?_)
  ·simp at hu;first|(rcases hu with hu|hu|hu<;>simp[hu,cX];done)|(rcases hu with hu|hu<;>simp[hu,cX];done)|simp[hu,cX]
  ·simp at hu;simp only[<-ne_eq,<-beq_eq_false_iff_ne]at hu;simp[hu,cX,dB]
 ·rw[e];refine RR.aZ (λh=>absurd h (by decide)) (λ_=>RR.aZ (λh=>absurd h (by decide)) (λ_=>RR.aZ (λh=>absurd h (by decide)) (λ_=>RR.aZ (λ_=>?_) (λh=>absurd h (by decide)))));refine sb (by simp) (by simp) hx (λu hu=>?_) (λu hu=>?_)
  ·simp at hu;first|(rcases hu with hu|hu|hu<;>simp[hu,cX];done)|(rcases hu with hu|hu<;>simp[hu,cX];done)|simp[hu,cX]
  ·simp at hu;simp only[<-ne_eq,<-beq_eq_false_iff_ne]at hu;simp[hu,cX,dB]
 ·rw[e];refine RR.aZ (λh=>absurd h (by decide)) (λ_=>RR.aZ (λh=>absurd h (by decide)) (λ_=>RR.aZ (λh=>absurd h (by decide)) (λ_=>RR.aZ (λh=>absurd h (by decide)) (λ_=>RR.aZ (λ_=>?_) (λh=>absurd h (by decide))))));refine sb (by simp) (by simp) hx (λu hu=>?_) (λu hu=>?_)
  ·simp at hu;first|(rcases hu with hu|hu|hu<;>simp[hu,cX];done)|(rcases hu with hu|hu<;>simp[hu,cX];done)|simp[hu,cX]
  ·simp at hu;simp only[<-ne_eq,<-beq_eq_false_iff_ne]at hu;simp[hu,cX,dB]
 ·rw[e];refine RR.aZ (λh=>absurd h (by decide)) (λ_=>RR.aZ (λh=>absurd h (by decide)) (λ_=>RR.aZ (λh=>absurd h (by decide)) (λ_=>RR.aZ (λh=>absurd h (by decide)) (λ_=>RR.aZ (λh=>absurd h (by decide)) (λ_=>RR.aZ (λ_=>?_) (λh=>absurd h (by decide)))))));refine sb (by simp) (by simp) hx (λu hu=>?_) (λu hu=>?_)
  ·simp at hu;first|(rcases hu with hu|hu|hu<;>simp[hu,cX];done)|(rcases hu with hu|hu<;>simp[hu,cX];done)|simp[hu,cX]
  ·simp at hu;simp only[<-ne_eq,<-beq_eq_false_iff_ne]at hu;simp[hu,cX,dB]
 ·rw[e];refine RR.aZ (λh=>absurd h (by decide)) (λ_=>RR.aZ (λh=>absurd h (by decide)) (λ_=>RR.aZ (λh=>absurd h (by decide)) (λ_=>RR.aZ (λh=>absurd h (by decide)) (λ_=>RR.aZ (λh=>absurd h (by decide)) (λ_=>RR.aZ (λh=>absurd h (by decide)) (λ_=>RR.aZ (λ_=>?_) (λh=>absurd h (by decide))))))));refine sb (by simp) (by simp) hx (λu hu=>?_) (λu hu=>?_)
  ·simp at hu;first|(rcases hu with hu|hu|hu<;>simp[hu,cX];done)|(rcases hu with hu|hu<;>simp[hu,cX];done)|simp[hu,cX]
  ·simp at hu;simp only[<-ne_eq,<-beq_eq_false_iff_ne]at hu;simp[hu,cX,dB]
 ·rw[e];refine RR.aZ (λh=>absurd h (by decide)) (λ_=>RR.aZ (λh=>absurd h (by decide)) (λ_=>RR.aZ (λh=>absurd h (by decide)) (λ_=>RR.aZ (λh=>absurd h (by decide)) (λ_=>RR.aZ (λh=>absurd h (by decide)) (λ_=>RR.aZ (λh=>absurd h (by decide)) (λ_=>RR.aZ (λh=>absurd h (by decide)) (λ_=>RR.aZ (λ_=>?_) (λh=>absurd h (by decide)))))))));rw[sR,lG,iK];refine uK (by simp) (by simp) hx (λu hu hs hk=>?_) (λu hk=>?_)
  ·have h7:u.ak.aj.Kind=7:=by simpa using hk
   obtain⟨p,q,hp⟩:=qf (hu.2.1.dI hs).1 h7;rw[jU];refine RR.l (v:=u) rfl ?_;rw[hp];refine RR.l (v:=q) rfl (RR.l (of_eq q) ?_);refine RR.same ?_;simp[h7,hp,kx];rfl
  ·have h7:(u.ak.aj.Kind==7)=false:=by simpa using hk
   simp[h7,dB]
 ·rw[e];refine RR.aZ (λh=>absurd h (by decide)) (λ_=>RR.aZ (λh=>absurd h (by decide)) (λ_=>RR.aZ (λh=>absurd h (by decide)) (λ_=>RR.aZ (λh=>absurd h (by decide)) (λ_=>RR.aZ (λh=>absurd h (by decide)) (λ_=>RR.aZ (λh=>absurd h (by decide)) (λ_=>RR.aZ (λh=>absurd h (by decide)) (λ_=>RR.aZ (λh=>absurd h (by decide)) (λ_=>?_))))))));rw[sR,lG,iK];refine uK (by simp) (by simp) hx (λu hu hs hk=>?_) (λu hk=>?_)
  ·have h7:u.ak.aj.Kind=7:=by simpa using hk
   obtain⟨p,q,hp⟩:=qf (hu.2.1.dI hs).1 h7;rw[jU];refine RR.l (v:=u) rfl ?_;rw[hp];refine RR.l (v:=p) rfl (RR.l (of_eq p) ?_);refine RR.same ?_;simp[h7,hp,kx];rfl
  ·have h7:(u.ak.aj.Kind==7)=false:=by simpa using hk
   simp[h7,dB]
