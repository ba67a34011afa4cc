/- The reference of types: equality of descriptions, sorts, open expressions; the relation of an elaboration to the reference's. -/
import Derived.Test.YtnocmolegijmkaaGreatKVa9
set_option linter.all false
namespace Go.Proofs.YtnocmolegijmkaaGreat
open Go Go.Bw
section
variable {B:Nat} (hB:B<=1048576)
include hB
theorem LR {a b:List (List UInt8)} (ha:a.length<=B):(yB Pu) a b=some (a==b):=KW hB ab6 WY ha
theorem Vt {a b:ah} (hl:a.aw.length<=B) (h:a.aw.length=b.aw.length) (ih:∀k∈a.aw,∀b,(sd Pu) k b=some (iZ k b)):(qS Pu) a b 0=some (jv a.aw b.aw):=by
 rw[og (a:=a.aw) (b:=b.aw) (L:=(qS Pu) a b) iZ true h ?_ ?_]
 ·rw[Et h,oY]
 ·intro i x y hx hy hi;rw[M0,tF,ah.aB,mW (by omega)];have h1:decide ((i:Int)<(a.aw.length:Int))=true:=by simpa using hi
  rw[h1,bc hx,bc hy];show(((sd Pu) x y).bind _)=_;rw[ih x (bh hx) y];show(bif !(iZ x y)then _ else _)=_;cases iZ x y<;>rfl
 ·rw[M0,tF,ah.aB];simp
theorem Vu {a b:ah} {s:Bool} (hl:a.aX.length<=B) (hr:∀x∈a.aX,x.ok B) (h:a.aX.length=b.aX.length) {p:Bool} (hp:(qS Pu) a b 0=some p):(tG Pu) a b s 0=some ((a.aX.zip b.aX).all (λq=>jB q.1 q.2)&&p):=by
 rw[og (a:=a.aX) (b:=b.aX) (L:=(tG Pu) a b s) jB p h ?_ ?_]
 ·intro i x y hx hy hi;rw[M1,tH,aP.aB,mW (by omega)];have h1:decide ((i:Int)<(a.aX.length:Int))=true:=by simpa using hi
  rw[h1,aO,bc hx,aq,bc hy,aq];simp only[aq];rw[LR hB (hr x (bh hx)).1.1,aq,jB];cases x.eY==y.eY<;>cases x.If==y.If<;>rfl
 ·rw[M1,tH,aP.aB];simp[hp]
theorem Vv:∀a b:ah,a.ok B->(sd Pu) a b=some (iZ a b):=by
 refine ah.ind ?_;intro a ih b ha;rw[ah.cM]at ha;obtain⟨_,_,_,hn,hp,hr⟩:=ha;rw[ab7,yM,LR hB hn.1];have e:iZ a b=(a.Kind==b.Kind&&(a.Lo==b.Lo&&(a.Hi==b.Hi&&(a.Names==b.Names&&((a.aX.length==b.aX.length&&(a.aX.zip b.aX).all (λq=>jB q.1 q.2))&&jv a.aw b.aw))))):=by
  cases a;cases b;rw[iZ]
 rw[e,ah.aB,ah.aB,aP.aB,aP.aB];simp only[aq,bne];by_cases h1:a.aw.length=b.aw.length
 ·by_cases h2:a.aX.length=b.aX.length
  ·rw[Vu hB hr.1 hr.2 h2 (Vt hB hp.1 h1 λk hk b=>ih k hk b (ah.gF hp.2 hk)),h1,h2];simp only[beq_self_eq_true,Bool.true_and];cases a.Kind==b.Kind<;>cases a.Lo==b.Lo<;>cases a.Hi==b.Hi<;>cases a.Names==b.Names<;>rfl
  ·have h3:((a.aX.length:Int)==(b.aX.length:Int))=false:=by simpa usingλh=>h2 (by omega)
   have h4:(a.aX.length==b.aX.length)=false:=by simpa using h2
   rw[h3,h4];simp only[Bool.false_and,Tf];cases a.Kind==b.Kind<;>cases a.Lo==b.Lo<;>cases a.Hi==b.Hi<;>cases a.Names==b.Names<;>cases ((a.aw.length:Int)==(b.aw.length:Int))<;>rfl
 ·have h3:((a.aw.length:Int)==(b.aw.length:Int))=false:=by simpa usingλh=>h1 (by omega)
  rw[h3,Eu h1];simp only[Tf];cases a.Kind==b.Kind<;>cases a.Lo==b.Lo<;>cases a.Hi==b.Hi<;>cases a.Names==b.Names<;>rfl
theorem AZ {a b:ay} (ha:a.ai.ok B):∃r,(vw Pu) a b=some r/\(r=true↔a=b):=by
 rw[e66,zV];cases a with|mk s l=>cases b with|mk s' l'=>
 by_cases h:s=s'
 ·have:(s==s')=true:=by simpa using h
  show∃r,(bif s==s' then _ else _)=some r/\_;rw[this,aO,Vv hB _ _ ha,aq];exact⟨_,rfl,by rw[ES,h];simp⟩
 ·have:(s==s')=false:=by simpa using h
  show∃r,(bif s==s' then _ else _)=some r/\_;rw[this];exact⟨_,rfl,by constructor;intro e;cases e;intro e;cases e;exact absurd rfl h⟩
end
theorem cT (n:Int):(eQ Pu) n=some (aL n):=e57 n
theorem lR (l:ah):(jc Pu) l=some (bN l):=e58 l
theorem dR (a b:Int):(cP Pu) a b=some ⟨a,b⟩:=ab4 a b
theorem pZ (t:ay):(u2 Pu) t=some (isNone t):=by
 rw[ab5,yK,isNone];cases t.aK==0<;>rfl
theorem My {B:Nat} {n:af} (h:WN B n):∃b,(mz Pu) n=some b/\(eX Pu) n=some b:=by
 induction h with
 |mk hs hl h44 h47 hk ih=>
  rename_i n;rw[ID,rW,nR,kg];have bf:∀{D:Type} {c:Bool} {x y z w:Option D},(c=true->∃b,x=some b/\z=some b)->(c=false->∃b,y=some b/\w=some b)->∃b,(bif c then x else y)=some b/\(bif c then z else w)=some b:=by
   intro D c x y z w h1 h2;cases c with|true=>exact h1 rfl|false=>exact h2 rfl
  have bd:∀{x z:Option Bool} {f g:Bool->Option Bool},(∃b,x=some b/\z=some b)->(∀b,∃c,f b=some c/\g b=some c)->∃b,x.bind f=some b/\z.bind g=some b:=by
   rintro x z f g ⟨b,rfl,rfl⟩ h;exact h b
  refine bf (λ_=>⟨_,rfl,rfl⟩) (λ_=>?_);refine bf (λ_=>?_) (λh51=>?_)
  ·repeat' (first|exact⟨_,rfl,rfl⟩|refine bf (λ_=>?_) (λ_=>?_))
  rw[nC (by simpa using h51)]at ih;refine bf (λh=>?_) (λ_=>?_)
  ·have h:n.Kind=39:=by simpa using h
   obtain⟨x,y,e⟩:=gJ (l:=n.Kids) (by unfold dL at hs;omega);rw[e]at ih⊢;refine bd (ih x (by simp)) (λb=>bf (λ_=>?_) (λ_=>⟨_,rfl,rfl⟩));exact bd (ih y (by simp)) (λb=>⟨_,rfl,rfl⟩)
  refine bf (λh=>?_) (λ_=>⟨_,rfl,rfl⟩);have h:n.Kind=30:=by simpa using h
  obtain⟨x,y,z,e⟩:=nH (l:=n.Kids) (by unfold dL at hs;omega);rw[e]at ih⊢;refine bd (ih y (by simp)) (λb=>bf (λ_=>?_) (λ_=>⟨_,rfl,rfl⟩));exact bd (ih z (by simp)) (λb=>⟨_,rfl,rfl⟩)
def FF (a b:Int):AV:= .bA 75 (.agg [.v (.int .i64 a),.v (.int .i64 b)])
def RR {D β:Type} (Q:D->β->Prop) (o:Option (aR D)) (q:Option (β×aS)):Prop:=
 (∃y z,Q y z/\o=some (.ret y)/\q=some (z,⟨0,0⟩))\/(∃a b z,a≠0/\o=some (.aM (FF a b))/\q=some (z,⟨a,b⟩))
section
variable {D β γ δ:Type} {Q:D->β->Prop} {Q':γ->δ->Prop}
theorem RR.ret {y:D} {z:β} (h:Q y z):RR Q (some (.ret y)) (some (z,aS.z)):= .inl ⟨y,z,h,rfl,rfl⟩
theorem RR.fail {a b:Int} {z:β} (ha:a≠0:=by decide):RR Q (Bw.aA ((dg Pu) a b) λ_=>(none:Option (aR D))) (((cP Pu) a b).bind λy=>some (z,y)):=by
 rw[lJ,iW,dR];exact .inr ⟨a,b,z,ha,rfl,rfl⟩
theorem gN {D:Type} {a:Int} {x y:D} (h:a≠0):(bif (a !=0)then x else y)=x:=by
 have:(a !=0)=true:=by simpa using h
 rw[this];rfl
theorem gE {D:Type} {a:Int} {x y:D} (h:a≠0):(bif (a==0)then x else y)=y:=by
 have:(a==0)=false:=by simpa using h
 rw[this];rfl
theorem RR.bind {o:Option (aR D)} {q:Option (β×aS)} {f:D->Option (aR γ)} {g:β×aS->Option (δ×aS)} (h:RR Q o q) (hf:∀y z,Q y z->RR Q' (f y) (g (z,⟨0,0⟩)))
  (hg:∀a b z,a≠0->∃z',g (z,⟨a,b⟩)=some (z',⟨a,b⟩):=by intro a b z ha;first|exact⟨_,rfl⟩|exact⟨_,gN ha⟩|exact⟨_,gE ha⟩):RR Q' (Bw.aA o f) (q.bind g):=by
 rcases h with⟨y,z,h,rfl,rfl⟩|⟨a,b,z,ha,rfl,rfl⟩
 ·exact hf y z h
 ·obtain⟨z',e⟩:=hg a b z ha;exact .inr ⟨a,b,z',ha,rfl,e⟩
theorem RR.l {ε:Type} {o:Option ε} {v:ε} {f:ε->Option (aR γ)} {q:Option (δ×aS)} (e:o=some v) (h:RR Q' (f v) q):RR Q' (o.bind f) q:=by rw[e];exact h
theorem RR.r {ε:Type} {o:Option ε} {v:ε} {p:Option (aR γ)} {g:ε->Option (δ×aS)} (e:o=some v) (h:RR Q' p (g v)):RR Q' p (o.bind g):=by rw[e];exact h
theorem RR.aZ {c:Bool} {a b:Option (aR γ)} {q:Option (δ×aS)} (h1:c=true->RR Q' a q) (h2:c=false->RR Q' b q):RR Q' (bif c then a else b) q:=by
 cases c with|true=>exact h1 rfl|false=>exact h2 rfl
theorem RR.t {c:Bool} {p:Option (aR γ)} {a b:Option (δ×aS)} (h:c=true) (h1:RR Q' p a):RR Q' p (bif c then a else b):=by rw[h];exact h1
theorem RR.f {c:Bool} {p:Option (aR γ)} {a b:Option (δ×aS)} (h:c=false) (h1:RR Q' p b):RR Q' p (bif c then a else b):=by rw[h];exact h1
end
def sc (c:bJ):cC:=⟨c.l,c.params⟩
def RE (B:Nat) (c:bJ) (n:af):Prop:=∀w,bW B w->RR (λy z=>z=y/\EP B c n w y) ((bR Pu) c n w) ((eb Pu) (sc c) n w)
theorem sS {s:cC} {ks:List af} {ws:List ay} {b:List ab} {a:List ab} {i:Nat} {k:af} {w:ay} (hk:ks[i]? =some k) (hw:ws[i]? =some w) (hb:b.length<=i) (hi:ws.length<1000000):
  (kI Pu) s ks ws a b (i:Int)=((eb Pu) s k w).bind λy=>bif y.snd.Code !=0 then some ([],y.snd)else(kI Pu) s ks ws a (b++[y.fst]) ((i+1:Nat):Int):=by
 rw[M4,tJ,ay.aB,aU];have hl:=(cy.1 hw).1;have h1:decide (i<ws.length)=true:=by simpa using hl
 rw[h1,aO,bc hk,aq,bc hw,aq,bO i (by omega)];congr 1;funext y;have h2:decide ((b++[y.fst]).length<=274877906944)=true:=by simp;omega
 rw[h2,aO]
theorem Ew {s:cC} {ks:List af} {ws:List ay} {a b:List ab} {i:Nat} (hi:ws.length=i):(kI Pu) s ks ws a b (i:Int)=some (b,aS.z):=by
 rw[M4,tJ,ay.aB,aU,hi];have:decide (i<i)=false:=by simp
 rw[this];rfl
section
variable {B:Nat} (hB:B<=1048576) {c:bJ} (hc:CE B c) {γ δ:Type} {Q':γ->δ->Prop}
theorem xA {x:af} {a:ay} {r:List af} {f:ab->Option (aR γ)} {g:List ab×aS->Option (δ×aS)} (hx:RE B c x) (ha:bW B a)
  (hf:∀u,EP B c x a u->RR Q' (f u) (g ([u],⟨0,0⟩)))
  (hg:∀a b,a≠0->∃z',g ([],⟨a,b⟩)=some (z',⟨a,b⟩):=by intro a b ha;first|exact⟨_,rfl⟩|exact⟨_,gN ha⟩|exact⟨_,gE ha⟩):
  RR Q' (Bw.aA ((bR Pu) c x a) f) (((dC Pu) (sc c) (x::r) [a]).bind g):=by
 rw[IJ,qb];have e:=sS (s:=sc c) (ks:=x::r) (ws:=[a]) (a:=[]) (b:=[]) (i:=0) rfl rfl (by simp) (by simp);have e0:((0:Nat):Int)=0:=rfl;rw[e0]at e;rw[e,Ar];refine RR.bind (hx a ha) (λy z h=>?_) (λp q z hp=>?_)
 ·obtain⟨rfl,h⟩:=h;have e2:=Ew (s:=sc c) (ks:=x::r) (ws:=[a]) (a:=[]) (b:=[]++[z]) (i:=0+1) rfl;show RR Q' (f z) (Option.bind ((kI Pu) (sc c) (x::r) [a] [] ([]++[z]) ((0+1:Nat):Int)) g);rw[e2];exact hf z h
 ·obtain⟨z',e3⟩:=hg p q hp;refine⟨z',?_⟩;show Option.bind (bif p !=0 then _ else _) g=_;rw[gN hp];exact e3
theorem Cp {x z:af} {a b:ay} {r:List af} {o:ab->Option (aR γ)} {g:List ab×aS->Option (δ×aS)} (hx:RE B c x) (ha:bW B a)
  (hz:RE B c z) (hb:bW B b) {f:ab->ab->Option (aR γ)} (ho:∀u,EP B c x a u->o u=Bw.aA ((bR Pu) c z b) (f u))
  (hf:∀u v,EP B c x a u->EP B c z b v->RR Q' (f u v) (g ([u,v],⟨0,0⟩)))
  (hg:∀a b,a≠0->∃z',g ([],⟨a,b⟩)=some (z',⟨a,b⟩):=by intro a b ha;first|exact⟨_,rfl⟩|exact⟨_,gN ha⟩|exact⟨_,gE ha⟩):
  RR Q' (Bw.aA ((bR Pu) c x a) o) (((dC Pu) (sc c) (x::z::r) [a,b]).bind g):=by
 rw[IJ,qb];have e:=sS (s:=sc c) (ks:=x::z::r) (ws:=[a,b]) (a:=[]) (b:=[]) (i:=0) rfl rfl (by simp) (by simp);have e0:((0:Nat):Int)=0:=rfl;rw[e0]at e;rw[e,Ar];refine RR.bind (hx a ha) (λy u h=>?_) (λp q z hp=>?_)
 ·obtain⟨rfl,h⟩:=h;show RR Q' (o u) (Option.bind ((kI Pu) (sc c) (x::z::r) [a,b] [] ([]++[u]) ((0+1:Nat):Int)) g);rw[ho u h,sS (s:=sc c) (ks:=x::z::r) (ws:=[a,b]) (a:=[]) (b:=[]++[u]) (i:=0+1) rfl rfl (by simp) (by simp),Ar];refine RR.bind (hz b hb) (λy v h2=>?_) (λp q z hp=>?_)
  ·obtain⟨rfl,h2⟩:=h2;show RR Q' (f u v) (Option.bind ((kI Pu) (sc c) (x::z::r) [a,b] [] ([]++[u]++[v]) ((0+1+1:Nat):Int)) g);rw[Ew (s:=sc c) (ks:=x::z::r) (ws:=[a,b]) (a:=[]) (b:=[]++[u]++[v]) (i:=0+1+1) rfl];exact hf u v h h2
  ·obtain⟨z',e3⟩:=hg p q hp;refine⟨z',?_⟩;show Option.bind (bif p !=0 then _ else _) g=_;rw[gN hp];exact e3
 ·obtain⟨z',e3⟩:=hg p q hp;refine⟨z',?_⟩;show Option.bind (bif p !=0 then _ else _) g=_;rw[gN hp];exact e3
theorem Mx {n x z:af} {a b t:ay} {op:Int} (hn:n.Kids=[x,z]) (hx:RE B c x) (hz:RE B c z) (ha:bW B a) (hb:bW B b) {f:ab->Option (aR γ)} {g:List ab×aS->Option (δ×aS)}
  (hf:∀u v,EP B c x a u->EP B c z b v->RR Q' (f ⟨op,t,0,[],0,[u,v]⟩) (g ([u,v],⟨0,0⟩)))
  (hg:∀a b,a≠0->∃z',g ([],⟨a,b⟩)=some (z',⟨a,b⟩):=by intro a b ha;first|exact⟨_,rfl⟩|exact⟨_,gN ha⟩|exact⟨_,gE ha⟩):
  RR Q' (Bw.aA ((iJ Pu) c op n a b t) f) (((dC Pu) (sc c) n.Kids [a,b]).bind g):=by
 rw[IE,rX,hn];have e:∀{o:ab->Option (aR ab)},Bw.aA ((ao [x,z] 0).bind λx1=>Bw.aA ((bR Pu) c x1 a) o) f=Bw.aA ((bR Pu) c x a) λu=>Bw.aA (o u) f:=by
  intro o;show Bw.aA (Bw.aA ((bR Pu) c x a) o) f=_;cases (bR Pu) c x a with
  |none=>rfl
  |some r=>cases r<;>rfl
 rw[e];refine Cp hx ha hz hb (f:=λu v=>f ⟨op,t,0,[],0,[u,v]⟩) (λu hu=>?_) (λu v hu hv=>hf u v hu hv) hg;show Bw.aA (Bw.aA ((bR Pu) c z b) _) f=_;cases (bR Pu) c z b with
 |none=>rfl
 |some r=>cases r<;>rfl
end
theorem kC {D β γ:Type} (o:Option (aR D)) (f:D->Option (aR β)) (g:β->Option (aR γ)):Bw.aA (Bw.aA o f) g=Bw.aA o λy=>Bw.aA (f y) g:=by
 cases o with
 |none=>rfl
 |some r=>cases r<;>rfl
theorem pj {ε β γ:Type} (o:Option ε) (f:ε->Option (aR β)) (g:β->Option (aR γ)):Bw.aA (o.bind f) g=o.bind λy=>Bw.aA (f y) g:=by
 cases o<;>rfl
theorem mV {β γ:Type} (b:Bool) (x y:Option (aR β)) (g:β->Option (aR γ)):Bw.aA (bif b then x else y) g=bif b then Bw.aA x g else Bw.aA y g:=by
 cases b<;>rfl
theorem l4 {β γ:Type} (x:β) (g:β->Option (aR γ)):Bw.aA (some (.ret x)) g=g x:=rfl
section
variable {B:Nat} (hB:B<=1048576) {c:bJ} (hc:CE B c) {γ δ:Type} {Q':γ->δ->Prop}
theorem D5 {n x z:af} {lt:Bool} (wx:WN B x) (wz:WN B z) (hx:RE B c x) (hz:RE B c z):RR (λr ks=>ks=[r.1,r.2]/\TP B c x z lt r) ((qa Pu) c n x z lt) ((u3 Pu) (sc c) x z n.At lt):=by
 rw[IG,sj,ab9,yR];obtain⟨ox,e1,e2⟩:=My wx;obtain⟨oz,e3,e4⟩:=My wz;rw[e1,e2,e3,e4];simp only[aq];cases ox with
 |true=>
  simp only[aO];cases oz with
  |true=>exact RR.fail
  |false=>
   simp only[a6];refine RR.bind (hz (aL 0) (.inl rfl)) (λy u h=>?_);obtain⟨rfl,hu⟩:=h;refine RR.f rfl ?_;have two:(lt=true->u.aj.aK=0)->RR (λr ks=>ks=[r.1,r.2]/\TP B c x z lt r) (Bw.aA ((bR Pu) c x u.aj) λy=>some (.ret (y,u))) (((eb Pu) (sc c) x u.aj).bind λy=>bif y.snd.Code !=0 then some ([],y.snd)else some ([y.fst,u],y.snd)):=λhl=>by
    refine RR.bind (hx _ (.inr hu.2.1)) (λy v h=>?_);obtain⟨rfl,hv⟩:=h;exact RR.f rfl (RR.ret ⟨rfl,.inr ⟨hu,hv,hl⟩⟩)
   cases lt with
   |true=>
    simp only[aO];by_cases hs:u.aj.aK=0
    ·have:(u.aj.aK !=0)=false:=by simp[hs]
     refine RR.aZ (λh=>by rw[this]at h;cases h) (λ_=>RR.f this (two λ_=>hs))
    ·have:(u.aj.aK !=0)=true:=by simpa using hs
     refine RR.aZ (λ_=>RR.t this RR.fail) (λh=>by rw[this]at h;cases h)
   |false=>exact two λh=>by cases h
 |false=>
  simp only[a6];refine RR.bind (hx (aL 0) (.inl rfl)) (λy u h=>?_);obtain⟨rfl,hu⟩:=h;refine RR.f rfl ?_;have two:(lt=true->u.aj.aK=0)->RR (λr ks=>ks=[r.1,r.2]/\TP B c x z lt r) (Bw.aA ((bR Pu) c z u.aj) λy=>some (.ret (u,y))) (((eb Pu) (sc c) z u.aj).bind λy=>bif y.snd.Code !=0 then some ([],y.snd)else some ([u,y.fst],y.snd)):=λhl=>by
   refine RR.bind (hz _ (.inr hu.2.1)) (λy v h=>?_);obtain⟨rfl,hv⟩:=h;exact RR.f rfl (RR.ret ⟨rfl,.inl ⟨hu,hv,hl⟩⟩)
  cases lt with
  |true=>
   simp only[aO];by_cases hs:u.aj.aK=0
   ·have:(u.aj.aK !=0)=false:=by simp[hs]
    refine RR.aZ (λh=>by rw[this]at h;cases h) (λ_=>RR.f this (two λ_=>hs))
   ·have:(u.aj.aK !=0)=true:=by simpa using hs
    refine RR.aZ (λ_=>RR.t this RR.fail) (λh=>by rw[this]at h;cases h)
  |false=>exact two λh=>by cases h
end
def EQ {D:Type}:D->D->Prop:=λy z=>z=y
theorem RR.and {D:Type} {P:D->Prop} {o:Option (aR D)} {q:Option (D×aS)} (h:RR EQ o q) (hp:ae o P dX):RR (λy z=>z=y/\P y) o q:=by
 rcases h with⟨y,z,h,rfl,rfl⟩|h
 ·obtain⟨r,e,hr⟩:=hp;cases e;exact .inl ⟨y,z,⟨h,hr⟩,rfl,rfl⟩
 ·obtain⟨a,b,z,ha,rfl,rfl⟩:=h;exact .inr ⟨a,b,z,ha,rfl,rfl⟩
theorem RR.same {D:Type} {y:D} {q:Option (D×aS)} (h:q=some (y,⟨0,0⟩)):RR EQ (some (.ret y)) q:= .inl ⟨y,y,rfl,rfl,h⟩
section
variable {B:Nat} (hB:B<=1048576) {c:bJ} (hc:CE B c) {γ δ:Type} {Q':γ->δ->Prop}
theorem a7.rG {t:ay} (h:a7 B t) (hs:t.aK≠0):t.ai.Kind=0:=by
 rcases h with⟨_,_,h⟩|⟨h,_⟩
 ·rw[h];rfl
 ·exact absurd h hs
theorem AF {n x:af} {ks:List Int} (hk:ks.length<9223372036854775807) (h0:(0:Int)∉ks) (hx:RE B c x) {f:ab->Option (aR γ)} {g:ab×aS->Option (δ×aS)}
  (h1:∀u,EP B c x (aL 0) u->u.aj.aK=0->u.aj.ai.Kind∈ks->RR Q' (f u) (g (u,⟨0,0⟩)))
  (h2:∀u,u.aj.ai.Kind∉ks->∃z',g (u,⟨0,0⟩)=some (z',⟨4,n.At⟩))
  (hg:∀a b z,a≠0->∃z',g (z,⟨a,b⟩)=some (z',⟨a,b⟩):=by intro a b z ha;first|exact⟨_,rfl⟩|exact⟨_,gN ha⟩|exact⟨_,gE ha⟩):
  RR Q' (Bw.aA ((nO Pu) c n x ks) f) (((eb Pu) (sc c) x (aL 0)).bind g):=by
 rw[yD,oJ,kC];refine RR.bind (hx (aL 0) (.inl rfl)) (λy u h=>?_) hg;obtain⟨rfl,hu⟩:=h;have bad:u.aj.ai.Kind∉ks->RR Q' (Bw.aA (Bw.aA ((dg Pu) 4 n.At) λ_=>(none:Option (aR ab))) f) (g (u,⟨0,0⟩)):=λh=>by
  obtain⟨z',e⟩:=h2 u h;rw[lJ,iW,e];exact .inr ⟨4,n.At,z',by decide,rfl,rfl⟩
 rw[mV];refine RR.aZ (λhs=>bad ?_) (λhs=>?_)
 ·rw[hu.2.1.rG (by simpa using hs)];exact h0
 ·rw[kJ ks _ hk,aq,mV];refine RR.aZ (λhm=>bad λh=>?_) (λhm=>?_)
  ·have:(ks.any λy=>u.aj.ai.Kind==y)=true:=ln.2 ⟨_,h,by simp⟩;rw[this]at hm;cases hm
  ·refine h1 u hu (by simpa using hs) ?_;simp only[sE,ln,beq_iff_eq]at hm;obtain⟨k,h3,h4⟩:=hm;rw[h4];exact h3
theorem wT {n x:af} {op:Int} {t:ay} {ks:List Int} (hk:ks.length<9223372036854775807) (h0:(0:Int)∉ks) (hx:RE B c x) {g:ab×aS->Option (ab×aS)}
  (h1:∀u,u.aj.ai.Kind∈ks->g (u,⟨0,0⟩)=some (⟨op,t,0,[],0,[u]⟩,⟨0,0⟩))
  (h2:∀u,u.aj.ai.Kind∉ks->∃z',g (u,⟨0,0⟩)=some (z',⟨4,n.At⟩))
  (hg:∀a b z,a≠0->∃z',g (z,⟨a,b⟩)=some (z',⟨a,b⟩):=by intro a b z ha;first|exact⟨_,rfl⟩|exact⟨_,gN ha⟩|exact⟨_,gE ha⟩):
  RR EQ (Bw.aA ((jZ Pu) op t ks c n x) λy=>some (.ret y)) (((eb Pu) (sc c) x (aL 0)).bind g):=by
 rw[u5,nQ,kC];refine AF hk h0 hx (λu _ _ h=>?_) h2 hg;rw[h1 u h];exact .inl ⟨_,_,rfl,rfl,rfl⟩
theorem TF {n x:af} (hn:n.Kids=[x]) (hx:RE B c x) (ht:n.Text∈[[115,105,122,101],[115,117,109],[110,117,109,98,101,114],[111,110],[107,101,121,115],[118,97,108,117,101,115],[99,111,110,102,108,105,99,116],[115,101,99,111,110,100],[102,105,114,115,116]]):
  RR EQ ((uY Pu) c n) ((CH Pu) (sc c) n):=by
 rw[mA,jy,ab',yS,hn];refine RR.l (v:=x) rfl (RR.r (v:=x) rfl ?_);refine RR.l (bp 2) (RR.l (bp 1) (RR.l (bp 4) ?_));have z0:ay.z=aL 0:=rfl;simp only[cu,gx,or_false]at ht;rcases ht with e|e|e|e|e|e|e|e|e
 ·rw[e];refine RR.aZ (λ_=>?_) (λh=>absurd h (by decide));refine RR.bind (hx (aL 0) (.inl rfl)) (λy u h=>?_);obtain⟨rfl,hu⟩:=h;refine RR.f rfl (RR.t (by decide) (RR.r (cT 1) ?_));have bad:u.aj.aK≠4->u.aj.ai.Kind∉[(4:Int),5,9,10]->∀{p q r s t:Option (ab×aS)},RR EQ (Bw.aA ((dg Pu) 4 n.At) λ_=>(none:Option (aR ab))) (bif u.aj.aK==4 then p else bif u.aj.ai.Kind==4 then q else bif u.aj.ai.Kind==5 then r else bif u.aj.ai.Kind==9 then s else bif !(u.aj.ai.Kind==10)then((cP Pu) 4 n.At).bind λy=>some (ab.z,y)else t):=λh4 h=>by
   intro p q r s t;simp at h;simp only[<-ne_eq,<-beq_eq_false_iff_ne]at h h4;rw[h4,h.1,h.2.1,h.2.2.1,h.2.2.2];exact RR.fail
  refine RR.aZ (λh4=>?_) (λh4=>RR.t (by simpa using h4) (RR.ret rfl));have h4:u.aj.aK≠4:=by simpa using h4
  refine RR.aZ (λhs=>bad h4 ?_) (λhs=>?_)
  ·rw[hu.2.1.rG (by simpa using hs)];decide
  refine RR.l (kJ _ _ (by simp)) (RR.aZ (λhm=>bad h4 λh=>?_) (λhm=>?_))
  ·have:(List.any [4,5,9,10] λy=>u.aj.ai.Kind==y)=true:=ln.2 ⟨_,h,by simp⟩;rw[this]at hm;cases hm
  ·have h4:(u.aj.aK==4)=false:=by simpa using h4
   refine RR.f h4 (RR.same ?_);simp only[sE,ln,beq_iff_eq]at hm;obtain⟨k,h3,hm⟩:=hm;rw[<-hm]at h3;simp at h3;rcases h3 with h|h|h|h<;>simp[h]
 ·rw[e];refine RR.aZ (λh=>absurd h (by decide)) (λ_=>RR.aZ (λ_=>?_) (λh=>absurd h (by decide)));rw[u5,nQ,kC];refine AF (by simp) (by simp) hx (λu hu hs hk=>?_) (λu hk=>?_)
  ·have h5:u.aj.ai.Kind=5:=by simpa using hk
   obtain⟨p,hp⟩:=um (hu.2.1.du hs).1 h5;have k5:(u.aj.ai.Kind==5)=true:=by rw[h5];rfl
   rw[l4];refine RR.l (v:=u) rfl ?_;refine RR.f rfl (RR.f (by decide) (RR.t (by decide) (RR.r (cT 1) (RR.t k5 ?_))));rw[hp];refine RR.l (v:=p) rfl (RR.r (v:=p) rfl ?_);refine RR.aZ (λh2=>?_) (λh2=>RR.t (by simpa using h2) (RR.ret rfl));refine RR.f (by simpa using h2) (RR.r (v:=p) rfl ?_);refine RR.aZ (λh3=>RR.t (by simpa using h3) RR.fail) (λh3=>RR.f (by simpa using h3) (RR.ret rfl))
  ·have h5:(u.aj.ai.Kind==5)=false:=by simpa using hk
   simp[h5,cT,dR]
 ·rw[e];refine RR.aZ (λh=>absurd h (by decide)) (λ_=>RR.aZ (λh=>absurd h (by decide)) (λ_=>RR.aZ (λ_=>?_) (λh=>absurd h (by decide))));refine wT (by simp) (by simp) hx (λu hu=>?_) (λu hu=>?_)
  ·simp at hu;first|(rcases hu with hu|hu|hu<;>simp[hu,cT];done)|(rcases hu with hu|hu<;>simp[hu,cT];done)|simp[hu,cT]
  ·simp at hu;simp only[<-ne_eq,<-beq_eq_false_iff_ne]at hu;simp[hu,cT,dR]
 ·rw[e];refine RR.aZ (λh=>absurd h (by decide)) (λ_=>RR.aZ (λh=>absurd h (by decide)) (λ_=>RR.aZ (λh=>absurd h (by decide)) (λ_=>RR.aZ (λ_=>?_) (λh=>absurd h (by decide)))));refine wT (by simp) (by simp) hx (λu hu=>?_) (λu hu=>?_)
  ·simp at hu;first|(rcases hu with hu|hu|hu<;>simp[hu,cT];done)|(rcases hu with hu|hu<;>simp[hu,cT];done)|simp[hu,cT]
  ·simp at hu;simp only[<-ne_eq,<-beq_eq_false_iff_ne]at hu;simp[hu,cT,dR]
 ·rw[e];refine RR.aZ (λh=>absurd h (by decide)) (λ_=>RR.aZ (λh=>absurd h (by decide)) (λ_=>RR.aZ (λh=>absurd h (by decide)) (λ_=>RR.aZ (λh=>absurd h (by decide)) (λ_=>RR.aZ (λ_=>?_) (λh=>absurd h (by decide))))));refine wT (by simp) (by simp) hx (λu hu=>?_) (λu hu=>?_)
  ·simp at hu;first|(rcases hu with hu|hu|hu<;>simp[hu,cT];done)|(rcases hu with hu|hu<;>simp[hu,cT];done)|simp[hu,cT]
  ·simp at hu;simp only[<-ne_eq,<-beq_eq_false_iff_ne]at hu;simp[hu,cT,dR]
 ·rw[e];refine RR.aZ (λh=>absurd h (by decide)) (λ_=>RR.aZ (λh=>absurd h (by decide)) (λ_=>RR.aZ (λh=>absurd h (by decide)) (λ_=>RR.aZ (λh=>absurd h (by decide)) (λ_=>RR.aZ (λh=>absurd h (by decide)) (λ_=>RR.aZ (λ_=>?_) (λh=>absurd h (by decide)))))));refine wT (by simp) (by simp) hx (λu hu=>?_) (λu hu=>?_)
  ·simp at hu;first|(rcases hu with hu|hu|hu<;>simp[hu,cT];done)|(rcases hu with hu|hu<;>simp[hu,cT];done)|simp[hu,cT]
  ·simp at hu;simp only[<-ne_eq,<-beq_eq_false_iff_ne]at hu;simp[hu,cT,dR]
 ·rw[e];refine RR.aZ (λh=>absurd h (by decide)) (λ_=>RR.aZ (λh=>absurd h (by decide)) (λ_=>RR.aZ (λh=>absurd h (by decide)) (λ_=>RR.aZ (λh=>absurd h (by decide)) (λ_=>RR.aZ (λh=>absurd h (by decide)) (λ_=>RR.aZ (λh=>absurd h (by decide)) (λ_=>RR.aZ (λ_=>?_) (λh=>absurd h (by decide))))))));refine wT (by simp) (by simp) hx (λu hu=>?_) (λu hu=>?_)
  ·simp at hu;first|(rcases hu with hu|hu|hu<;>simp[hu,cT];done)|(rcases hu with hu|hu<;>simp[hu,cT];done)|simp[hu,cT]
  ·simp at hu;simp only[<-ne_eq,<-beq_eq_false_iff_ne]at hu;simp[hu,cT,dR]
 ·rw[e];refine RR.aZ (λh=>absurd h (by decide)) (λ_=>RR.aZ (λh=>absurd h (by decide)) (λ_=>RR.aZ (λh=>absurd h (by decide)) (λ_=>RR.aZ (λh=>absurd h (by decide)) (λ_=>RR.aZ (λh=>absurd h (by decide)) (λ_=>RR.aZ (λh=>absurd h (by decide)) (λ_=>RR.aZ (λh=>absurd h (by decide)) (λ_=>RR.aZ (λ_=>?_) (λh=>absurd h (by decide)))))))));rw[u5,nQ,kC];refine AF (by simp) (by simp) hx (λu hu hs hk=>?_) (λu hk=>?_)
  ·have h7:u.aj.ai.Kind=7:=by simpa using hk
   obtain⟨p,q,hp⟩:=uo (hu.2.1.du hs).1 h7;rw[l4];refine RR.l (v:=u) rfl ?_;rw[hp];refine RR.l (v:=q) rfl (RR.l (of_eq q) ?_);refine RR.same ?_;simp[h7,hp,lR];rfl
  ·have h7:(u.aj.ai.Kind==7)=false:=by simpa using hk
   simp[h7,dR]
 ·rw[e];refine RR.aZ (λh=>absurd h (by decide)) (λ_=>RR.aZ (λh=>absurd h (by decide)) (λ_=>RR.aZ (λh=>absurd h (by decide)) (λ_=>RR.aZ (λh=>absurd h (by decide)) (λ_=>RR.aZ (λh=>absurd h (by decide)) (λ_=>RR.aZ (λh=>absurd h (by decide)) (λ_=>RR.aZ (λh=>absurd h (by decide)) (λ_=>RR.aZ (λh=>absurd h (by decide)) (λ_=>?_))))))));rw[u5,nQ,kC];refine AF (by simp) (by simp) hx (λu hu hs hk=>?_) (λu hk=>?_)
  ·have h7:u.aj.ai.Kind=7:=by simpa using hk
   obtain⟨p,q,hp⟩:=uo (hu.2.1.du hs).1 h7;rw[l4];refine RR.l (v:=u) rfl ?_;rw[hp];refine RR.l (v:=p) rfl (RR.l (of_eq p) ?_);refine RR.same ?_;simp[h7,hp,lR];rfl
  ·have h7:(u.aj.ai.Kind==7)=false:=by simpa using hk
   simp[h7,dR]
end
section
variable {B:Nat} (hB:B<=1048576) {c:bJ}
theorem LP {s:cC} {n:af} {w:ay} {i:Int} {b:List ab} {f:aS} (hf:f.Code≠0):∃z',(lv Pu) s n w i b f=some (z',f):=by
 rw[E',qV,gE hf];cases decide (i<((af.rows n.Kids).length:Int))<;>exact⟨_,rfl⟩
include hB in
theorem Wn {n:af} {w:ay} (hn:n.Kids.length<=B) (ih:∀k∈n.Kids,RE B c k):∀(m i:Nat) (b:List ab),i+m=n.Kids.length->b.length=i->RR EQ ((gD Pu) c n w i b) ((lv Pu) (sc c) n w i b ⟨0,0⟩):=by
 intro m
 induction m with
 |zero=>
  intro i b hi hb;rw[pz,lu,E',qV,af.aB,aU];have:decide (i<n.Kids.length)=false:=by simp;omega
  rw[this];exact .inl ⟨_,_,rfl,rfl,rfl⟩
 |succ m im=>
  intro i b hi hb;rw[pz,lu,E',qV,af.aB,aU];have hl:i<n.Kids.length:=by omega
  have:decide (i<n.Kids.length)=true:=by simpa using hl
  obtain⟨e,he⟩:=bg hl;rw[this,aO,aO,bc he,aq,aq,bO i (by omega)];refine RR.t rfl ?_;have hlen:∀z:ab,decide ((b++[z]).length<=274877906944)=true:=λz=>by simp;omega
  refine RR.bind (ih e (bh he) (aL 0) (.inl rfl)) (λy u h=>?_) (λp q z hp=>?_)
  ·obtain⟨rfl,hu⟩:=h;have e1:(b++[ab.z])[b.length]? =some ab.z:=by simp
   have e2:IntKind.i64.wrap ((((ab.rows b++ab.rows [ab.z]).length:Nat):Int)-1)=(b.length:Int):=by
    rw[kA,ab.aB,ab.aB,wrap64 (by simp<;>omega) (by simp<;>omega)];simp
   have e3:(b++[u])[b.length]? =some u:=by simp
   rw[hlen,aO,ab.aB,lY,fv,ly,e1,aq,e2,lY,e3,aq];have go:RR EQ ((gD Pu) c n w ((i+1:Nat):Int) (b++[u])) (bif decide ((b++[u]).length<=274877906944)then(lv Pu) (sc c) n w ((i+1:Nat):Int) (b++[u]) ⟨0,0⟩else none):=by
    rw[hlen];exact im (i+1) (b++[u]) (by omega) (by simp[hb])
   refine RR.t rfl ?_;refine RR.aZ (λh3=>RR.t h3 ?_) (λh3=>RR.f h3 go);refine RR.aZ (λh4=>RR.t h4 ?_) (λh4=>RR.f h4 go);refine RR.r (v:=e) rfl (RR.r (dR 4 e.At) ?_);rw[lJ,iW];obtain⟨z',e4⟩:=LP (s:=sc c) (n:=n) (w:=w) (i:=((i+1:Nat):Int)) (b:=b++[u]) (f:=⟨4,e.At⟩) (by show(4:Int)≠0;decide);refine RR.t (hlen u) ?_;show RR EQ _ ((lv Pu) (sc c) n w ((i+1:Nat):Int) (b++[u]) ⟨4,e.At⟩);rw[e4];exact .inr ⟨4,e.At,z',by decide,rfl,rfl⟩
  ·obtain⟨z',e4⟩:=LP (s:=sc c) (n:=n) (w:=w) (i:=((i+1:Nat):Int)) (b:=b++[z]) (f:=⟨p,q⟩) hp;refine⟨z',?_⟩;show(bif (p==0)then _ else bif decide ((b++[z]).length<=274877906944)then _ else none)=_;rw[gE hp,hlen];exact e4
theorem LQ {s:cC} {n:af} {w:ay} {i:Int} {b:List ab} {f:aS} (hf:f.Code≠0):∃z',(lx Pu) s n w i b f=some (z',f):=by
 rw[Fa,qW,gE hf];cases decide (i<((af.rows n.Kids).length:Int))<;>exact⟨_,rfl⟩
include hB in
theorem Wo {n:af} {w:ay} (hn:n.Kids.length<=B) (ih:∀k∈n.Kids,RE B c k):∀(m i:Nat) (b:List ab),i+m=n.Kids.length->b.length=i->RR EQ ((gD Pu) c n w i b) ((lx Pu) (sc c) n w i b ⟨0,0⟩):=by
 intro m
 induction m with
 |zero=>
  intro i b hi hb;rw[pz,lu,Fa,qW,af.aB,aU];have:decide (i<n.Kids.length)=false:=by simp;omega
  rw[this];exact .inl ⟨_,_,rfl,rfl,rfl⟩
 |succ m im=>
  intro i b hi hb;rw[pz,lu,Fa,qW,af.aB,aU];have hl:i<n.Kids.length:=by omega
  have:decide (i<n.Kids.length)=true:=by simpa using hl
  obtain⟨e,he⟩:=bg hl;rw[this,aO,aO,bc he,aq,aq,bO i (by omega)];refine RR.t rfl ?_;have hlen:∀z:ab,decide ((b++[z]).length<=274877906944)=true:=λz=>by simp;omega
  refine RR.bind (ih e (bh he) (aL 0) (.inl rfl)) (λy u h=>?_) (λp q z hp=>?_)
  ·obtain⟨rfl,hu⟩:=h;have e1:(b++[ab.z])[b.length]? =some ab.z:=by simp
   have e2:IntKind.i64.wrap ((((ab.rows b++ab.rows [ab.z]).length:Nat):Int)-1)=(b.length:Int):=by
    rw[kA,ab.aB,ab.aB,wrap64 (by simp<;>omega) (by simp<;>omega)];simp
   have e3:(b++[u])[b.length]? =some u:=by simp
   rw[hlen,aO,ab.aB,lY,fv,ly,e1,aq,e2,lY,e3,aq];have go:RR EQ ((gD Pu) c n w ((i+1:Nat):Int) (b++[u])) (bif decide ((b++[u]).length<=274877906944)then(lx Pu) (sc c) n w ((i+1:Nat):Int) (b++[u]) ⟨0,0⟩else none):=by
    rw[hlen];exact im (i+1) (b++[u]) (by omega) (by simp[hb])
   refine RR.t rfl ?_;refine RR.aZ (λh3=>RR.t h3 ?_) (λh3=>RR.f h3 go);refine RR.aZ (λh4=>RR.t h4 ?_) (λh4=>RR.f h4 go);refine RR.r (v:=e) rfl (RR.r (dR 4 e.At) ?_);rw[lJ,iW];obtain⟨z',e4⟩:=LQ (s:=sc c) (n:=n) (w:=w) (i:=((i+1:Nat):Int)) (b:=b++[u]) (f:=⟨4,e.At⟩) (by show(4:Int)≠0;decide);refine RR.t (hlen u) ?_;show RR EQ _ ((lx Pu) (sc c) n w ((i+1:Nat):Int) (b++[u]) ⟨4,e.At⟩);rw[e4];exact .inr ⟨4,e.At,z',by decide,rfl,rfl⟩
  ·obtain⟨z',e4⟩:=LQ (s:=sc c) (n:=n) (w:=w) (i:=((i+1:Nat):Int)) (b:=b++[z]) (f:=⟨p,q⟩) hp;refine⟨z',?_⟩;show(bif (p==0)then _ else bif decide ((b++[z]).length<=274877906944)then _ else none)=_;rw[gE hp,hlen];exact e4
theorem Wq {s:cC} {n:af} {w:ay} {i:Int} {b:List ab} {f:aS} (hf:f.Code≠0):∃z',(qX Pu) s n w i b f=some (z',f):=by
 rw[Fb,qY,gE hf];cases decide (i<((af.rows n.Kids).length:Int))<;>exact⟨_,rfl⟩
include hB in
theorem Xq {n:af} {w:ay} {p:ah} (hp:w.ai.aw=[p]) (hwp:a7 B (bN p)) (hn:n.Kids.length<=B) (ih:∀e∈n.Kids,∃a b,e.Kids=[a,b]/\RE B c a/\RE B c b):∀(m i:Nat) (b:List ab),i+m=n.Kids.length->b.length=2*i->RR EQ ((jO Pu) c n w i b) ((qX Pu) (sc c) n w i b ⟨0,0⟩):=by
 intro m
 induction m with
 |zero=>
  intro i b hi hb;rw[tA,nb,Fb,qY,af.aB,aU];have:decide (i<n.Kids.length)=false:=by simp;omega
  rw[this];exact .inl ⟨_,_,rfl,rfl,rfl⟩
 |succ m im=>
  intro i b hi hb;rw[tA,nb,Fb,qY,af.aB,aU];have hl:i<n.Kids.length:=by omega
  have:decide (i<n.Kids.length)=true:=by simpa using hl
  obtain⟨e,he⟩:=bg hl;obtain⟨x,z,hxz,hx,hz⟩:=ih e (bh he);rw[this,aO,aO,bc he,aq,aq,bO i (by omega),hxz,hp];refine RR.t rfl (RR.l (v:=x) rfl (RR.l (bp 3) (RR.r (cT 3) (RR.r (v:=p) rfl (RR.r (lR p) ?_)))));have h2:∀ys:List ab,ys.length<=2->decide ((b++ys).length<=274877906944)=true:=λys h=>by simp;omega
  refine Cp hx (.inr (a7.sort (by simp))) hz (.inr hwp) (f:=λu v=>(jO Pu) c n w ((i+1:Nat):Int) (b++[u,v])) (λu hu=>?_) (λu v hu hv=>?_) (λa q ha=>?_)
  ·have e1:(b++[ab.z])[b.length]? =some ab.z:=by simp
   rw[h2 [ab.z] (by simp),aO,ab.aB,fv,ly,bc e1,aq];show((some z).bind _)=_;rw[aq];show((some p).bind _)=_;rw[aq,of_eq,aq];congr 1;funext v;have e2:(((ab.rows b++ab.rows [ab.z]).length:Nat):Int)=(((b++[u]).length:Nat):Int):=by
    rw[kA,ab.aB,ab.aB];simp
   have e3:((b++[u])++[ab.z])[(b++[u]).length]? =some ab.z:=by simp
   have h3:decide (((b++[u])++[ab.z]).length<=274877906944)=true:=by simp;omega
   rw[h3,aO,e2,bc e3,aq,fv,ly,kB];rfl
  ·refine RR.t (h2 [u,v] (by simp)) ?_;exact im (i+1) (b++[u,v]) (by omega) (by simp;omega)
  ·obtain⟨z',e4⟩:=Wq (s:=sc c) (n:=n) (w:=w) (i:=((i+1:Nat):Int)) (b:=b++[]) (f:=⟨a,q⟩) ha;refine⟨z',?_⟩;show(bif decide ((b++[]).length<=274877906944)then _ else none)=_;rw[h2 [] (by simp)];exact e4
end
theorem NS {D : Type} {L : Int → D} {F : Nat → D} {E : D} {a : List (List UInt8)} {t : List UInt8} (hs : ∀ (i : Nat) y, a[i]? = some y → L (i : Int) = bif t == y then F i else L ((i + 1 : Nat) : Int)) (he : L (a.length : Int) = E) :
    (idxOf (fun y => t == y) a 0 < 0 ∧ L 0 = E) ∨ ∃ (j : Nat) (y : List UInt8), idxOf (fun y => t == y) a 0 = (j : Int) ∧ a[j]? = some y ∧ t = y ∧ L 0 = F j := by
  rcases qC (fun y => t == y) a 0 with ⟨h1, h2⟩ | ⟨i, x, h1, h2, h3, h4⟩
  · have h1 : idxOf (fun y => t == y) a 0 = -1 := h1
    refine .inl ⟨by rw [h1]; decide, ?_⟩
    have key : ∀ m i : Nat, i + m = a.length → L (i : Int) = E := by
      intro m
      induction m with
      | zero => intro i hi; have : i = a.length := by omega
                rw [this]; exact he
      | succ m im =>
        intro i hi
        obtain ⟨y, hy⟩ := bg (l := a) (i := i) (by omega)
        rw [hs i y hy, h2 y (bh hy)]
        exact im (i + 1) (by omega)
    exact key a.length 0 (by omega)
  · have h1 : idxOf (fun y => t == y) a 0 = ((0 + i : Nat) : Int) := h1
    refine .inr ⟨i, x, by rw [h1]; simp, h2, by simpa using h3, ?_⟩
    have key : ∀ m k : Nat, k + m = i → L (k : Int) = F i := by
      intro m
      induction m with
      | zero => intro k hk; have : k = i := by omega
                rw [this, hs i x h2, h3]; rfl
      | succ m im =>
        intro k hk
        have hil := (cy.1 h2).1
        obtain ⟨y, hy⟩ := bg (l := a) (i := k) (by omega)
        rw [hs k y hy, h4 k y (by omega) hy]
        exact im (k + 1) (by omega)
    exact key i 0 (by omega)
theorem NP (a:List (List UInt8)) (t:List UInt8) (ha:a.length<1000000000):(sy Pu) a t=some (a.any λy=>y==t):=by
 rw[e56,vA];have key:∀m i:Nat,i+m=a.length->(xi Pu) a t (i:Int)=some ((a.drop i).any λy=>y==t):=by
  intro m
  induction m with
  |zero=>
   intro i hi;rw[Ov,ub,cv,aU];have:decide (i<a.length)=false:=by simp;omega
   rw[this,List.drop_of_length_le (by omega)];rfl
  |succ m im=>
   intro i hi;obtain⟨y,hy⟩:=bg (l:=a) (i:=i) (by omega);rw[Ov,ub,cv,aU];have hl:i<a.length:=by omega
   have:decide (i<a.length)=true:=by simpa using hl
   rw[this,aO,bc hy,aq,bO i (by omega),im (i+1) (by omega),List.drop_eq_getElem_cons hl,List.any_cons];have:a[i]=y:=by rw[acd hl]at hy;simpa using hy
   rw[this];cases y==t<;>rfl
 have:=key a.length 0 (by omega);simpa using this
section
variable {B:Nat} (hB:B<=1048576) {c:bJ}
def k9 (n:af) (p:ah):ab:=⟨6,bN p,0,[],n.At,[]⟩
include hB in
theorem fill_eq {s:cC} {n:af} {w:ay} (h6:w.ai.aw.length=w.ai.Names.length) (hl:w.ai.aw.length<=B):(q0 Pu) s n w 0 []=(nk Pu) s n w (w.ai.aw.length:Int) (w.ai.aw.map (k9 n)) [] 0 (w.ai.aw.map (k9 n)) aS.z:=by
 have key:∀m i:Nat,i+m=w.ai.aw.length->(q0 Pu) s n w (i:Int) ((w.ai.aw.take i).map (k9 n))=(nk Pu) s n w (w.ai.aw.length:Int) (w.ai.aw.map (k9 n)) [] 0 (w.ai.aw.map (k9 n)) aS.z:=by
  intro m
  induction m with
  |zero=>
   intro i hi;rw[M6,tM,cv,aU];have h0:i=w.ai.aw.length:=by omega
   have:decide (i<w.ai.Names.length)=false:=by simp;omega
   rw[this,a6,h0,jg]
  |succ m im=>
   intro i hi;rw[M6,tM,cv,aU];have hl':i<w.ai.aw.length:=by omega
   have:decide (i<w.ai.Names.length)=true:=by simp;omega
   obtain⟨p,hp⟩:=bg hl';rw[this,aO,bc hp,aq,lR,aq,bO i (by omega)];have h2:decide (((w.ai.aw.take i).map (k9 n)++[({Op:=6,aj:=bN p,N:=0,Text:=[],At:=n.At,Kids:=[]}:ab)]).length<=274877906944)=true:=by simp;omega
   rw[h2,aO];have h3:(w.ai.aw.take i).map (k9 n)++[({Op:=6,aj:=bN p,N:=0,Text:=[],At:=n.At,Kids:=[]}:ab)]=(w.ai.aw.take (i+1)).map (k9 n):=by
    rw[J7,hp];simp[k9]
   rw[h3];exact im (i+1) (by omega)
 have:=key w.ai.aw.length 0 (by omega);simpa using this
theorem Wp {s:cC} {n:af} {w:ay} {i0 i:Int} {b0 b:List ab} {gv:List (List UInt8)} {f:aS} (hf:f.Code≠0):∃z',(nk Pu) s n w i0 b0 gv i b f=some (z',f):=by
 rw[Fc,qZ,gE hf];cases decide (i<((af.rows n.Kids).length:Int))<;>exact⟨_,rfl⟩
include hB in
theorem Xs {n:af} {l:ah} (ho:l.ok B) {s4:List Bool} {s3 ys:List ab} (h4:s4.length=l.aw.length) (hy:ys.length=l.aw.length) (hI:∀(j:Nat) p x f,l.aw[j]? =some p->s3[j]? =some x->s4[j]? =some f->ys[j]? =some (bif f then x else k9 n p)):∀(m i:Nat) (s:List ab),i+m=l.aw.length->s.length=l.aw.length->(∀j,j<i->s[j]? =ys[j]?)->(∀j,i<=j->s[j]? =s3[j]?)->(jP Pu) n l s4 s (i:Int)=some (.ret ys):=by
 have hlen:l.aw.length<=B:=by rw[ah.cM]at ho;exact ho.2.2.2.2.1.1
 intro m
 induction m with
 |zero=>
  intro i s hi hs h1 _;rw[tB,nc,ah.aB,aU];have:decide (i<l.aw.length)=false:=by simp;omega
  have e:s=ys:=by
   apply DN;intro j;by_cases h:j<i
   ·exact h1 j h
   ·rw[pc (by omega),pc (by omega)]
  rw[this,a6,e]
 |succ m im=>
  intro i s hi hs h1 h2;rw[tB,nc,ah.aB,aU];have hil:i<l.aw.length:=by omega
  have:decide (i<l.aw.length)=true:=by simpa using hil
  obtain⟨p,hp⟩:=bg hil;obtain⟨f,hf⟩:=bg (l:=s4) (i:=i) (by omega);obtain⟨x,hx⟩:=bg (l:=s) (i:=i) (by omega);have hm:=bh hp;have hx3:s3[i]? =some x:=by rw[<-h2 i (by omega)];exact hx
  have hyi:=hI i p x f hp hx3 hf;rw[this,aO,bc hp,aq,bc hf,aq,bO i (by omega),fv];cases f with
  |false=>
   show(((r6 Pu) p).bind _)=_;rw[tc hB p (q8 ho hm),aq,of_eq,aq,bc hx,aq];refine im (i+1) _ (by omega) (by simp[hs]) (λj hj=>?_) (λj hj=>?_)
   ·by_cases e:j=i
    ·subst e;rw[mQ (by omega),hyi];rfl
    ·rw[ky (by omega)];exact h1 j (by omega)
   ·rw[ky (by omega)];exact h2 j (by omega)
  |true=>
   refine im (i+1) s (by omega) hs (λj hj=>?_) (λj hj=>h2 j (by omega));by_cases e:j=i
   ·subst e;rw[hx,hyi];rfl
   ·exact h1 j (by omega)
include hB in
theorem Xr {n:af} {w:ay} (hw:a7 B w) (hs0:w.aK=0) (h6:w.ai.Kind=6) (hd:∀(i j:Nat) t,w.ai.Names[i]? =some t->w.ai.Names[j]? =some t->i=j) (hn:n.Kids.length<=B) (h1:∀e∈n.Kids,∃k,e.Kids=[k]/\RE B c k) {i0:Int} {b0:List ab}:
  ∀(m i:Nat) (s3:List ab) (s4:List Bool) (gv:List (List UInt8)) (ks:List ab),i+m=n.Kids.length->s3.length=w.ai.aw.length->s4.length=w.ai.aw.length->ks.length=w.ai.aw.length->gv.length<=i->
   (∀(j:Nat) p x f,w.ai.aw[j]? =some p->s3[j]? =some x->s4[j]? =some f->ks[j]? =some (bif f then x else k9 n p))->
   (∀t,t∈gv↔∃j:Nat,w.ai.Names[j]? =some t/\s4[j]? =some true)->
   RR (λys z=>z=(⟨25,w,0,[],0,ys⟩:ab)) ((mb Pu) c n w.ai s3 s4 i) ((nk Pu) (sc c) n w i0 b0 gv i ks ⟨0,0⟩):=by
 have hl:=(hw.du hs0).1;have ho:=(hw.du hs0).2;have hlen:w.ai.aw.length<=B:=by rw[ah.cM]at ho;exact ho.2.2.2.2.1.1
 have hpn:=rq hl h6;intro m
 induction m with
 |zero=>
  intro i s3 s4 gv ks hi h3 h4 hk hg I1 I2;rw[tC,nf,Fc,qZ,af.aB,aU];have:decide (i<n.Kids.length)=false:=by simp;omega
  have e:=Xs hB (n:=n) ho h4 hk I1 w.ai.aw.length 0 s3 (by omega) h3 (λj hj=>by omega) (λj _=>rfl);have e0:((0:Nat):Int)=0:=rfl;rw[e0]at e;rw[this,a6,a6,e];exact .inl ⟨_,_,rfl,rfl,rfl⟩
 |succ m im=>
  intro i s3 s4 gv ks hi h3 h4 hk hg I1 I2;rw[tC,nf,Fc,qZ,af.aB,aU];have hil:i<n.Kids.length:=by omega
  have:decide (i<n.Kids.length)=true:=by simpa using hil
  obtain⟨e,he⟩:=bg hil;obtain⟨kd,hkd,hE⟩:=h1 e (bh he);rw[this,aO,aO,bc he,aq,qL _ _ (by omega),aq,bO i (by omega)];refine RR.t rfl ?_;have S:=NS (L:=λk=>(pF Pu) (sc c) n w i0 b0 gv i ks ⟨0,0⟩ k) (a:=w.ai.Names) (t:=e.Text)
   (E:=some (({Op:=25,aj:=w,N:=0,Text:=[],At:=0,Kids:=ks}:ab),({Code:=3,At:=e.At}:aS)))
   (F:=λk=>((sy Pu) gv e.Text).bind λy=>bif y then some (({Op:=25,aj:=w,N:=0,Text:=[],At:=0,Kids:=ks}:ab),({Code:=3,At:=e.At}:aS))else(ao w.ai.aw (k:Int)).bind λp=>((eb Pu) (sc c) kd (bN p)).bind λr=>(ao ks (k:Int)).bind λ_=>(nk Pu) (sc c) n w i0 b0 (gv++[e.Text]) ((i+1:Nat):Int) (ks.set k r.fst) r.snd)
   (λk y hy=>by
    show(pF Pu) (sc c) n w i0 b0 gv i ks ⟨0,0⟩ (k:Int)=_;have hkl:=(cy.1 hy).1;have d1:decide (k<w.ai.Names.length)=true:=by simpa using hkl
    have d2:((k:Int)==(w.ai.Names.length:Int))=false:=by simp;omega
    have d3:decide ((gv++[e.Text]).length<=274877906944)=true:=by simp;omega
    have d4:(y==e.Text)=(e.Text==y):=by rw[iP,beq_iff_eq,beq_iff_eq];exact eq_comm
    have d5:ao e.Kids 0=some kd:=by rw[hkd];rfl
    rw[M5,tK,cv,aU,d1,aO,bc hy,aq,bc he];simp only[aq,d2,d3,d4,d5,dR,lR,aO,a6,fv,bO i (show i<9223372036854775807 by omega),bO k (show k<9223372036854775807 by omega)];cases e.Text==y<;>rfl)
   (by
    show(pF Pu) (sc c) n w i0 b0 gv i ks ⟨0,0⟩ (w.ai.Names.length:Int)=_;have d1:decide (w.ai.Names.length<w.ai.Names.length)=false:=by simp
    have d2:((w.ai.Names.length:Int)==(w.ai.Names.length:Int))=true:=by simp
    rw[M5,tK,cv,aU,d1,a6,d2,aO,bc he,aq,dR];rfl)
  have F3:∀{q:Option (ab×aS)},q=some (({Op:=25,aj:=w,N:=0,Text:=[],At:=0,Kids:=ks}:ab),({Code:=3,At:=e.At}:aS))->RR (λys z=>z=(⟨25,w,0,[],0,ys⟩:ab)) (Bw.aA ((dg Pu) 3 e.At) λ_=>(none:Option (aR (List ab)))) q:=λh=>by
   rw[lJ,iW,h];exact .inr ⟨3,e.At,_,by decide,rfl,rfl⟩
  rcases S with⟨hneg,hL⟩|⟨j,y,hj,hy,hty,hL⟩
  ·exact RR.aZ (λ_=>F3 hL) (λh=>by simp at h;omega)
  ·have hL:(pF Pu) (sc c) n w i0 b0 gv i ks ⟨0,0⟩ 0=_:=hL;rw[hL,NP gv _ (by omega),aq,hj];have hjl:j<w.ai.aw.length:=by rw[hpn];exact(cy.1 hy).1
   obtain⟨f,hf⟩:=bg (l:=s4) (i:=j) (by omega);obtain⟨x,hx⟩:=bg (l:=s3) (i:=j) (by omega);obtain⟨p,hp⟩:=bg hjl;obtain⟨k0,hk0⟩:=bg (l:=ks) (i:=j) (by omega);have hm:=bh hp;have hfg:(gv.any λz=>z==e.Text)=f:=by
    rw[iP,ln];constructor
    ·rintro ⟨z,hz,e1⟩;have e1:z=e.Text:=by simpa using e1
     rw[e1]at hz;obtain⟨j',h5,h6⟩:=(I2 _).1 hz;have:j'=j:=hd j' j e.Text h5 (by rw[hty];exact hy);rw[this,hf]at h6;simpa using h6
    ·intro h;exact⟨e.Text,(I2 _).2 ⟨j,by rw[hty];exact hy,by rw[hf,h]⟩,by simp⟩
   rw[hfg];refine RR.aZ (λh=>by simp at h;omega) (λ_=>RR.l (eo hf) ?_);cases f with
   |true=>exact F3 rfl
   |false=>
    rw[hkd,a6,a6];refine RR.l (v:=kd) rfl (RR.l (eo hp) (RR.l (of_eq p) (RR.r (eo hp) ?_)));refine RR.bind (hE (bN p) (.inr (a7.of (hl.part hm) (q8 ho hm)))) (λy2 u h=>?_) (λa b z ha=>?_)
    ·obtain⟨rfl,hu⟩:=h;refine RR.l (eo hx) (RR.l (eo hf) (RR.r (eo hk0) ?_));rw[fv];refine im (i+1) (s3.set j u) (s4.set j true) (gv++[e.Text]) (ks.set j u) (by omega) (by simp[h3]) (by simp[h4]) (by simp[hk]) (by simp;omega) (λq r x f g1 g2 g3=>?_) (λt=>?_)
     ·by_cases e1:q=j
      ·subst e1;rw[mQ (by omega)]at g2 g3⊢;cases g2;cases g3;rfl
      ·rw[ky (by omega)]at g2 g3⊢;exact I1 q r x f g1 g2 g3
     ·rw[cL,I2 t];constructor
      ·rintro (⟨q,g1,g2⟩|g)
       ·refine⟨q,g1,?_⟩;by_cases e1:q=j
        ·subst e1;rw[mQ (by omega)]
        ·rw[ky (by omega)];exact g2
       ·have g:t=e.Text:=by simpa using g
        exact⟨j,by rw[g,hty];exact hy,by rw[mQ (by omega)]⟩
      ·rintro ⟨q,g1,g2⟩;by_cases e1:q=j
       ·subst e1;rw[hy]at g1;cases g1;exact .inr (by simp[hty])
       ·rw[ky (by omega)]at g2;exact .inl ⟨q,g1,g2⟩
    ·obtain⟨z',e4⟩:=Wp (s:=sc c) (n:=n) (w:=w) (i0:=i0) (i:=((i+1:Nat):Int)) (b0:=b0) (b:=ks.set j z) (gv:=gv++[e.Text]) (f:=⟨a,b⟩) ha;refine⟨z',?_⟩;show(Option.bind (ao ks (j:Int)) _)=_;rw[bc hk0,aq];exact e4
end
section
variable {B:Nat} (hB:B<=1048576) {c:bJ} (hc:CE B c)
include hB in
theorem Wm {n:af} {w:ay} (hw:bW B w) (hA:ae ((lH Pu) c n w) (AP B c w) dX) (hR:RR EQ ((lH Pu) c n w) ((se Pu) (sc c) n w)):RR (λy z=>z=y/\EP B c n w y) ((bR Pu) c n w) ((eb Pu) (sc c) n w):=by
 refine RR.and ?_ (NO hB hw hA);rw[JR,sv,ab8,yO];refine RR.bind (RR.and hR hA) (λy u h=>?_);obtain⟨rfl,hu⟩:=h;refine RR.t rfl (RR.l (tc hB _ hu.1.ok) (RR.l (fK w) (RR.r (pZ w) ?_)));cases isNone w with
 |true=>exact .inl ⟨_,_,rfl,rfl,rfl⟩
 |false=>
  obtain⟨r,e1,h1⟩:=wE (b:=u.aj) hB hw.ok;obtain⟨r',e2,h2⟩:=AZ (b:=w) hB hu.1.ok;have:r'=r:=by rw[iP,h1,h2];exact eq_comm
  subst this;refine RR.l e1 (RR.r e2 ?_);cases r' with
  |true=>exact .inl ⟨_,_,rfl,rfl,rfl⟩
  |false=>
   show RR EQ (Bw.aA ((dg Pu) 4 n.At) λ_=>none) _;refine RR.r (dR 4 n.At) ?_;rw[lJ,iW];exact .inr ⟨4,n.At,_,by decide,rfl,rfl⟩
theorem TG {n:af} {w:ay} (hw:bW B w) (hB:B<=1048576) (hs:dL n) (hk:n.Kind=30\/n.Kind=36\/n.Kind=38\/n.Kind=39\/n.Kind=42\/n.Kind=43) (hW:∀k∈n.Kids,WN B k) (ih:∀k∈n.Kids,RE B c k):RR EQ (Bw.aA ((yx Pu) c n w) λy=>some (.ret y)) ((se Pu) (sc c) n w):=by
 have s2:bW B (aL 2):= .inr (a7.sort (by simp));have s3:bW B (aL 3):= .inr (a7.sort (by simp));have z0:ay.z=aL 0:=rfl;have F4:∀{f} {a:Int} {z:ab},RR (EQ (D:=ab)) (Bw.aA ((dg Pu) 4 a) f) (some (z,⟨4,a⟩)):=λ{f a z}=>by
  rw[lJ,iW];exact .inr ⟨4,a,z,by decide,rfl,rfl⟩
 have F3:∀{f} {a:Int} {z:ab},RR (EQ (D:=ab)) (Bw.aA ((dg Pu) 3 a) f) (some (z,⟨3,a⟩)):=λ{f a z}=>by
  rw[lJ,iW];exact .inr ⟨3,a,z,by decide,rfl,rfl⟩
 rw[kV,iK,Rq,vc];rcases hk with h|h|h|h|h|h
 ·obtain⟨x,y,z,hx⟩:=nH (l:=n.Kids) (by unfold dL at hs;omega);simp only[bp,cT,dR,pZ,fK,aq,h,Int.reduceBEq,aO,a6,kC,pj,mV,l4];rw[hx]at hW ih⊢;refine RR.l (v:=x) rfl (RR.r (v:=x) rfl (RR.bind (ih x (by simp) _ s2) λy1 u hh=>?_));obtain⟨rfl,hu⟩:=hh;refine RR.f rfl ?_;cases isNone w with
  |true=>
   rw[aO,aO];refine RR.l (v:=y) rfl ?_;refine RR.l (v:=z) rfl ?_;refine RR.r (v:=y) rfl ?_;refine RR.r (v:=z) rfl ?_;refine RR.bind (D5 (n:=n) (hW y (by simp)) (hW z (by simp)) (ih y (by simp)) (ih z (by simp))) (λr ks hr=>?_);obtain⟨rfl,_⟩:=hr;exact .inl ⟨_,_,rfl,rfl,rfl⟩
  |false=>
   rw[a6,a6];refine RR.l (v:=y) rfl ?_;refine RR.r (v:=[y,z]) rfl ?_;exact Cp (ih y (by simp)) hw (ih z (by simp)) hw (f:=λv t=>some (.ret ⟨7,v.aj,0,[],0,[u,v,t]⟩)) (λv hv=>rfl) (λv t hv ht=> .inl ⟨_,_,rfl,rfl,rfl⟩)
 ·obtain⟨x,y,hx⟩:=gJ (l:=n.Kids) (by unfold dL at hs;omega);simp only[bp,cT,dR,pZ,fK,aq,h,Int.reduceBEq,aO,a6,kC,pj,mV,l4];rw[hx]at hW ih⊢;refine RR.l (v:=x) rfl ?_;refine RR.r (v:=x) rfl ?_;refine RR.bind (ih x (by simp) _ (.inl rfl)) (λy1 u hh=>?_);obtain⟨rfl,hu⟩:=hh;refine RR.f rfl ?_;refine RR.aZ (λh0=>RR.t h0 ?_) (λh0=>RR.f h0 ?_)
  ·refine RR.l (v:=x) rfl ?_;refine RR.r (v:=x) rfl ?_;exact F4
  ·refine RR.l (v:=y) rfl ?_;refine RR.r (v:=y) rfl ?_;refine RR.bind (ih y (by simp) _ (.inr hu.2.1)) (λy1 v hh=>?_);obtain⟨rfl,hv⟩:=hh;exact .inl ⟨_,_,rfl,rfl,rfl⟩
 ·obtain⟨x,y,hx⟩:=gJ (l:=n.Kids) (by unfold dL at hs;omega);simp only[bp,cT,dR,pZ,fK,aq,h,Int.reduceBEq,aO,a6,kC,pj,mV,l4];rw[hx]at hW ih⊢;refine RR.l (v:=x) rfl ?_;refine RR.l (v:=y) rfl ?_;refine RR.r (v:=x) rfl ?_;refine RR.r (v:=y) rfl ?_;refine RR.bind (D5 (n:=n) (hW x (by simp)) (hW y (by simp)) (ih x (by simp)) (ih y (by simp))) (λr ks hr=>?_);obtain⟨rfl,_⟩:=hr;exact .inl ⟨_,_,rfl,rfl,rfl⟩
 ·obtain⟨x,y,hx⟩:=gJ (l:=n.Kids) (by unfold dL at hs;omega);simp only[bp,cT,dR,pZ,fK,aq,h,Int.reduceBEq,aO,a6,kC,pj,mV,l4];cases hn:isNone w with
  |true=>
   rw[hx]at hW ih⊢;simp only[qx,a6,aO];refine RR.l (v:=x) rfl ?_;refine RR.l (v:=y) rfl ?_;refine RR.r (v:=x) rfl ?_;refine RR.r (v:=y) rfl ?_;refine RR.bind (D5 (n:=n) (hW x (by simp)) (hW y (by simp)) (ih x (by simp)) (ih y (by simp))) (λr ks hr=>?_);obtain⟨rfl,_⟩:=hr;exact .inl ⟨_,_,rfl,rfl,rfl⟩
  |false=>
   simp only[vJ,a6,aO];refine RR.aZ (λh0=>RR.t h0 F4) (λh0=>RR.f h0 ?_);refine Mx hx (ih x (by rw[hx];simp)) (ih y (by rw[hx];simp)) hw hw (λu v hu hv=>?_);have e:u.aj=w:=(hu.2.2.1 hn).symm;exact .inl ⟨⟨16,w,0,[],0,[u,v]⟩,⟨16,w,0,[],0,[u,v]⟩,rfl,rfl,by rw[<-e];rfl⟩
 ·obtain⟨x,hx⟩:=ju (l:=n.Kids) (by unfold dL at hs;omega);simp only[bp,cT,dR,pZ,fK,aq,h,Int.reduceBEq,aO,a6,kC,pj,mV,l4];rw[hx]at hW ih⊢;refine RR.l (v:=x) rfl ?_;rw[yD,oJ];simp only[kC,pj,mV,l4];refine xA (ih x (by simp)) (.inl rfl) (λu hu=>?_);refine RR.f rfl (RR.r (v:=u) rfl ?_);have bad:u.aj.ai.Kind≠6->((nN Pu) [6] u.aj.ai.Kind)=some false:=λh=>by
   rw[kJ _ _ (by simp)];have:(u.aj.ai.Kind==6)=false:=by simpa using h
   simp[this]
  have good:u.aj.ai.Kind=6->((nN Pu) [6] u.aj.ai.Kind)=some true:=λh=>by
   rw[kJ _ _ (by simp),h];rfl
  by_cases hk:u.aj.ai.Kind=6
  case neg=>
   refine RR.t (by simpa using hk) ?_;refine RR.aZ (λ_=>F4) (λ_=>RR.l (bad hk) ?_);exact F4
  refine RR.f (by simp[hk]) ?_;have hs0:u.aj.aK=0:=by
   by_cases h0:u.aj.aK=0
   ·exact h0
   ·have:=hu.2.1.rG h0;rw[hk]at this;cases this
  have hl:=hu.2.1.du hs0;refine RR.aZ (λh0=>by simp[hs0]at h0) (λ_=>RR.l (good hk) ?_);refine RR.aZ (λh0=>by cases h0) (λ_=>?_);have hnl:u.aj.ai.Names.length<=B:=by have:=hl.2;rw[ah.cM]at this;exact this.2.2.2.1.1
  have S:=NS (L:=λk=>(oh Pu) n ([u],⟨0,0⟩) u k) (a:=u.aj.ai.Names) (t:=n.Text)
   (E:=some (({Op:=0,aj:=ay.z,N:=0,Text:=[],At:=0,Kids:=[u]}:ab),({Code:=3,At:=n.At}:aS)))
   (F:=λk=>(ao u.aj.ai.aw (k:Int)).bind λp=>some (({Op:=19,aj:=bN p,N:=k,Text:=[],At:=0,Kids:=[u]}:ab),({Code:=0,At:=0}:aS)))
   (λk y hy=>by
    show(oh Pu) n ([u],⟨0,0⟩) u (k:Int)=_;have hkl:=(cy.1 hy).1;have d1:decide (k<u.aj.ai.Names.length)=true:=by simpa using hkl
    have d4:(y==n.Text)=(n.Text==y):=by rw[iP,beq_iff_eq,beq_iff_eq];exact eq_comm
    rw[M3,tI,cv,aU,d1,aO,bc hy,aq,d4,bO k (by omega)];simp only[lR,aq])
   (by
    show(oh Pu) n ([u],⟨0,0⟩) u (u.aj.ai.Names.length:Int)=_;have d1:decide (u.aj.ai.Names.length<u.aj.ai.Names.length)=false:=by simp
    rw[M3,tI,cv,aU,d1,a6,dR,aq])
  rw[qL _ _ (by omega),aq];rcases S with⟨hneg,hL⟩|⟨j,y,hj,hy,hty,hL⟩
  ·refine RR.aZ (λ_=>?_) (λh=>by simp at h;omega);have hL:(oh Pu) n ([u],⟨0,0⟩) u 0=_:=hL;rw[hL];exact F3
  ·have hL:(oh Pu) n ([u],⟨0,0⟩) u 0=_:=hL;rw[hL,hj];refine RR.aZ (λh=>by simp at h;omega) (λ_=>?_);obtain⟨p,hp⟩:=bg (l:=u.aj.ai.aw) (i:=j) (by rw[rq hl.1 hk];exact(cy.1 hy).1);refine RR.l (eo hp) (RR.l (of_eq p) (RR.r (eo hp) ?_));exact .inl ⟨_,_,rfl,rfl,rfl⟩
 ·obtain⟨x,y,hx⟩:=gJ (l:=n.Kids) (by unfold dL at hs;omega);simp only[bp,cT,dR,pZ,fK,aq,h,Int.reduceBEq,aO,a6,kC,pj,mV,l4];rw[hx]at hW ih⊢;refine RR.l (v:=x) rfl ?_;refine RR.r (v:=x) rfl ?_;rw[yD,oJ];simp only[kC,pj,mV,l4];refine RR.bind (ih x (by simp) _ (.inl rfl)) (λy1 u hh=>?_);obtain⟨rfl,hu⟩:=hh;refine RR.f rfl ?_;have bad:u.aj.ai.Kind≠5->((nN Pu) [5] u.aj.ai.Kind)=some false:=λh=>by
   rw[kJ _ _ (by simp)];have:(u.aj.ai.Kind==5)=false:=by simpa using h
   simp[this]
  have good:u.aj.ai.Kind=5->((nN Pu) [5] u.aj.ai.Kind)=some true:=λh=>by
   rw[kJ _ _ (by simp),h];rfl
  by_cases hk:u.aj.ai.Kind=5
  case neg=>
   refine RR.t (by simpa using hk) ?_;refine RR.aZ (λ_=>F4) (λ_=>RR.l (bad hk) ?_);exact F4
  refine RR.f (by simp[hk]) ?_;have hs0:u.aj.aK=0:=by
   by_cases h0:u.aj.aK=0
   ·exact h0
   ·have:=hu.2.1.rG h0;rw[hk]at this;cases this
  have hl:=hu.2.1.du hs0;refine RR.aZ (λh0=>by simp[hs0]at h0) (λ_=>RR.l (good hk) ?_);refine RR.aZ (λh0=>by cases h0) (λ_=>?_);obtain⟨p,hp⟩:=um hl.1 hk;refine RR.l (v:=y) rfl ?_;refine RR.r (v:=y) rfl ?_;have hp0:ao u.aj.ai.aw 0=some p:=by rw[hp];rfl
  refine RR.bind (ih y (by simp) _ s3) (λy1 v hh=>?_) (λa b z ha=>?_)
  ·obtain⟨rfl,hv⟩:=hh;refine RR.l hp0 (RR.l (of_eq p) (RR.r hp0 (RR.r (lR p) ?_)));exact .inl ⟨_,_,rfl,rfl,rfl⟩
  ·refine⟨⟨20,bN p,0,[],0,[u,z]⟩,?_⟩;show(ao u.aj.ai.aw 0).bind _=_;rw[hp0,aq,lR];rfl
