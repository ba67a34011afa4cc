/- The reference of types: equality of descriptions, sorts, open expressions; the relation of an elaboration to the reference's. -/
import Derived.Test.YtfgnmgbiijpkiaaGreatKVa9
set_option linter.all false
namespace Go.Proofs.YtfgnmgbiijpkiaaGreat
open Go Go.Bw
section
variable {B:Nat} (hB:B<=1048576)
include hB
theorem Lv {a b:List (List UInt8)} (ha:a.length<=B):(f69 Pf) a b=some (a==b):=KK hB e69 YN ha
theorem WM {a b:ah} (hl:a.ax.length<=B) (h:a.ax.length=b.ax.length) (ih:∀k∈a.ax,∀b,(f29 Pf) k b=some (iJ k b)):(qO Pf) a b 0=some (ja a.ax b.ax):=by
 rw[qt (a:=a.ax) (b:=b.ax) (L:=(qO Pf) a b) iJ true h ?_ ?_]
 ·rw[C4 h,rZ]
 ·intro i x y hx hy hi;rw[NY,tA,ah.aD,o9 (by omega)];have h1:decide ((i:Int)<(a.ax.length:Int))=true:=by simpa using hi
  rw[h1,bj hx,bj hy];show(((f29 Pf) x y).bind _)=_;rw[ih x (bw hx) y];show(bif !(iJ x y)then _ else _)=_;cases iJ x y<;>rfl
 ·rw[NY,tA,ah.aD];simp
theorem WO {a b:ah} {s:Bool} (hl:a.aZ.length<=B) (hr:∀x∈a.aZ,x.ok B) (h:a.aZ.length=b.aZ.length) {p:Bool} (hp:(qO Pf) a b 0=some p):(tB Pf) a b s 0=some ((a.aZ.zip b.aZ).all (λq=>ji q.1 q.2)&&p):=by
 rw[qt (a:=a.aZ) (b:=b.aZ) (L:=(tB Pf) a b s) ji p h ?_ ?_]
 ·intro i x y hx hy hi;rw[NZ,tC,aU.aD,o9 (by omega)];have h1:decide ((i:Int)<(a.aZ.length:Int))=true:=by simpa using hi
  rw[h1,aV,bj hx,aw,bj hy,aw];simp only[aw];rw[Lv hB (hr x (bw hx)).1.1,aw,ji];cases x.eP==y.eP<;>cases x.If==y.If<;>rfl
 ·rw[NZ,tC,aU.aD];simp[hp]
theorem WQ:∀a b:ah,a.ok B->(f29 Pf) a b=some (iJ a b):=by
 refine ah.ind ?_;intro a ih b ha;rw[ah.c8]at ha;obtain⟨_,_,_,hn,hp,hr⟩:=ha;rw[e29,xm,Lv hB hn.1];have e:iJ a b=(a.Kind==b.Kind&&(a.Lo==b.Lo&&(a.Hi==b.Hi&&(a.Names==b.Names&&((a.aZ.length==b.aZ.length&&(a.aZ.zip b.aZ).all (λq=>ji q.1 q.2))&&ja a.ax b.ax))))):=by
  cases a;cases b;rw[iJ]
 rw[e,ah.aD,ah.aD,aU.aD,aU.aD];simp only[aw,bne];by_cases h1:a.ax.length=b.ax.length
 ·by_cases h2:a.aZ.length=b.aZ.length
  ·rw[WO hB hr.1 hr.2 h2 (WM hB hp.1 h1 λk hk b=>ih k hk b (ah.iS hp.2 hk)),h1,h2];simp only[beq_self_eq_true,Bool.true_and];cases a.Kind==b.Kind<;>cases a.Lo==b.Lo<;>cases a.Hi==b.Hi<;>cases a.Names==b.Names<;>rfl
  ·have h3:((a.aZ.length:Int)==(b.aZ.length:Int))=false:=by simpa usingλh=>h2 (by omega)
   have h4:(a.aZ.length==b.aZ.length)=false:=by simpa using h2
   rw[h3,h4];simp only[Bool.false_and,UD];cases a.Kind==b.Kind<;>cases a.Lo==b.Lo<;>cases a.Hi==b.Hi<;>cases a.Names==b.Names<;>cases ((a.ax.length:Int)==(b.ax.length:Int))<;>rfl
 ·have h3:((a.ax.length:Int)==(b.ax.length:Int))=false:=by simpa usingλh=>h1 (by omega)
  rw[h3,C6 h1];simp only[UD];cases a.Kind==b.Kind<;>cases a.Lo==b.Lo<;>cases a.Hi==b.Hi<;>cases a.Names==b.Names<;>rfl
theorem Ls {a b:az} (ha:a.aj.ok B):∃r,(f50 Pf) a b=some r/\(r=true↔a=b):=by
 rw[e50,xn];cases a with|mk s l=>cases b with|mk s' l'=>
 by_cases h:s=s'
 ·have:(s==s')=true:=by simpa using h
  show∃r,(bif s==s' then _ else _)=some r/\_;rw[this,aV,WQ hB _ _ ha,aw];exact⟨_,rfl,by rw[Ds,h];simp⟩
 ·have:(s==s')=false:=by simpa using h
  show∃r,(bif s==s' then _ else _)=some r/\_;rw[this];exact⟨_,rfl,by constructor;intro e;cases e;intro e;cases e;exact absurd rfl h⟩
end
theorem cY (n:Int):(f88 Pf) n=some (aL n):=e88 n
theorem lA (l:ah):(f87 Pf) l=some (b7 l):=e87 l
theorem dR (a b:Int):(f41 Pf) a b=some ⟨a,b⟩:=e41 a b
theorem pP (t:az):(f95 Pf) t=some (isNone t):=by
 rw[e95,xl,isNone];cases t.aP==0<;>rfl
theorem Md {B:Nat} {n:ab} (h:WN B n):∃b,(f238 Pf) n=some b/\(f209 Pf) n=some b:=by
 induction h with
 |mk hs hl h44 h47 hk ih=>
  rename_i n;rw[GL,rp,nw,jJ];have bf:∀{D:Type} {c:Bool} {x y z w:Option D},(c=true->∃b,x=some b/\z=some b)->(c=false->∃b,y=some b/\w=some b)->∃b,(bif c then x else y)=some b/\(bif c then z else w)=some b:=by
   intro D c x y z w h1 h2;cases c with|true=>exact h1 rfl|false=>exact h2 rfl
  have bd:∀{x z:Option Bool} {f g:Bool->Option Bool},(∃b,x=some b/\z=some b)->(∀b,∃c,f b=some c/\g b=some c)->∃b,x.bind f=some b/\z.bind g=some b:=by
   rintro x z f g ⟨b,rfl,rfl⟩ h;exact h b
  refine bf (λ_=>⟨_,rfl,rfl⟩) (λ_=>?_);refine bf (λ_=>?_) (λh51=>?_)
  ·repeat' (first|exact⟨_,rfl,rfl⟩|refine bf (λ_=>?_) (λ_=>?_))
  rw[nb (by simpa using h51)]at ih;refine bf (λh=>?_) (λ_=>?_)
  ·have h:n.Kind=39:=by simpa using h
   obtain⟨x,y,e⟩:=gC (l:=n.Kids) (by unfold dJ at hs;omega);rw[e]at ih⊢;refine bd (ih x (by simp)) (λb=>bf (λ_=>?_) (λ_=>⟨_,rfl,rfl⟩));exact bd (ih y (by simp)) (λb=>⟨_,rfl,rfl⟩)
  refine bf (λh=>?_) (λ_=>⟨_,rfl,rfl⟩);have h:n.Kind=30:=by simpa using h
  obtain⟨x,y,z,e⟩:=ni (l:=n.Kids) (by unfold dJ at hs;omega);rw[e]at ih⊢;refine bd (ih y (by simp)) (λb=>bf (λ_=>?_) (λ_=>⟨_,rfl,rfl⟩));exact bd (ih z (by simp)) (λb=>⟨_,rfl,rfl⟩)
def FF (a b:Int):AV:= .bB 28 (.agg [.v (.int .i64 a),.v (.int .i64 b)])
def RR {D β:Type} (Q:D->β->Prop) (o:Option (aX D)) (q:Option (β×aM)):Prop:=
 (∃y z,Q y z/\o=some (.ret y)/\q=some (z,⟨0,0⟩))\/(∃a b z,a≠0/\o=some (.aO (FF a b))/\q=some (z,⟨a,b⟩))
section
variable {D β γ δ:Type} {Q:D->β->Prop} {Q':γ->δ->Prop}
theorem RR.ret {y:D} {z:β} (h:Q y z):RR Q (some (.ret y)) (some (z,aM.z)):= .inl ⟨y,z,h,rfl,rfl⟩
theorem RR.fail {a b:Int} {z:β} (ha:a≠0:=by decide):RR Q (Bw.aA ((f80 Pf) a b) λ_=>(none:Option (aX D))) (((f41 Pf) a b).bind λy=>some (z,y)):=by
 rw[lq,iL,dR];exact .inr ⟨a,b,z,ha,rfl,rfl⟩
theorem gN {D:Type} {a:Int} {x y:D} (h:a≠0):(bif (a !=0)then x else y)=x:=by
 have:(a !=0)=true:=by simpa using h
 rw[this];rfl
theorem gE {D:Type} {a:Int} {x y:D} (h:a≠0):(bif (a==0)then x else y)=y:=by
 have:(a==0)=false:=by simpa using h
 rw[this];rfl
theorem RR.bind {o:Option (aX D)} {q:Option (β×aM)} {f:D->Option (aX γ)} {g:β×aM->Option (δ×aM)} (h:RR Q o q) (hf:∀y z,Q y z->RR Q' (f y) (g (z,⟨0,0⟩)))
  (hg:∀a b z,a≠0->∃z',g (z,⟨a,b⟩)=some (z',⟨a,b⟩):=by intro a b z ha;first|exact⟨_,rfl⟩|exact⟨_,gN ha⟩|exact⟨_,gE ha⟩):RR Q' (Bw.aA o f) (q.bind g):=by
 rcases h with⟨y,z,h,rfl,rfl⟩|⟨a,b,z,ha,rfl,rfl⟩
 ·exact hf y z h
 ·obtain⟨z',e⟩:=hg a b z ha;exact .inr ⟨a,b,z',ha,rfl,e⟩
theorem RR.l {ε:Type} {o:Option ε} {v:ε} {f:ε->Option (aX γ)} {q:Option (δ×aM)} (e:o=some v) (h:RR Q' (f v) q):RR Q' (o.bind f) q:=by rw[e];exact h
theorem RR.r {ε:Type} {o:Option ε} {v:ε} {p:Option (aX γ)} {g:ε->Option (δ×aM)} (e:o=some v) (h:RR Q' p (g v)):RR Q' p (o.bind g):=by rw[e];exact h
theorem RR.bc {c:Bool} {a b:Option (aX γ)} {q:Option (δ×aM)} (h1:c=true->RR Q' a q) (h2:c=false->RR Q' b q):RR Q' (bif c then a else b) q:=by
 cases c with|true=>exact h1 rfl|false=>exact h2 rfl
theorem RR.t {c:Bool} {p:Option (aX γ)} {a b:Option (δ×aM)} (h:c=true) (h1:RR Q' p a):RR Q' p (bif c then a else b):=by rw[h];exact h1
theorem RR.f {c:Bool} {p:Option (aX γ)} {a b:Option (δ×aM)} (h:c=false) (h1:RR Q' p b):RR Q' p (bif c then a else b):=by rw[h];exact h1
end
def sc (c:bO):cA:=⟨c.l,c.params⟩
def RE (B:Nat) (c:bO) (n:ab):Prop:=∀w,bY B w->RR (λy z=>z=y/\EP B c n w y) ((f48 Pf) c n w) ((f49 Pf) (sc c) n w)
theorem sw {s:cA} {ks:List ab} {ws:List az} {b:List ae} {a:List ae} {i:Nat} {k:ab} {w:az} (hk:ks[i]? =some k) (hw:ws[i]? =some w) (hb:b.length<=i) (hi:ws.length<1000000):
  (kn Pf) s ks ws a b (i:Int)=((f49 Pf) s k w).bind λy=>bif y.snd.Code !=0 then some ([],y.snd)else(kn Pf) s ks ws a (b++[y.fst]) ((i+1:Nat):Int):=by
 rw[Ms,sU,az.aD,aY];have hl:=(cr.1 hw).1;have h1:decide (i<ws.length)=true:=by simpa using hl
 rw[h1,aV,bj hk,aw,bj hw,aw,bP i (by omega)];congr 1;funext y;have h2:decide ((b++[y.fst]).length<=274877906944)=true:=by simp;omega
 rw[h2,aV]
theorem C3 {s:cA} {ks:List ab} {ws:List az} {a b:List ae} {i:Nat} (hi:ws.length=i):(kn Pf) s ks ws a b (i:Int)=some (b,aM.z):=by
 rw[Ms,sU,az.aD,aY,hi];have:decide (i<i)=false:=by simp
 rw[this];rfl
section
variable {B:Nat} (hB:B<=1048576) {c:bO} (hc:CE B c) {γ δ:Type} {Q':γ->δ->Prop}
theorem wI {x:ab} {a:az} {r:List ab} {f:ae->Option (aX γ)} {g:List ae×aM->Option (δ×aM)} (hx:RE B c x) (ha:bY B a)
  (hf:∀u,EP B c x a u->RR Q' (f u) (g ([u],⟨0,0⟩)))
  (hg:∀a b,a≠0->∃z',g ([],⟨a,b⟩)=some (z',⟨a,b⟩):=by intro a b ha;first|exact⟨_,rfl⟩|exact⟨_,gN ha⟩|exact⟨_,gE ha⟩):
  RR Q' (Bw.aA ((f48 Pf) c x a) f) (((f163 Pf) (sc c) (x::r) [a]).bind g):=by
 rw[GR,pU];have e:=sw (s:=sc c) (ks:=x::r) (ws:=[a]) (a:=[]) (b:=[]) (i:=0) rfl rfl (by simp) (by simp);have e0:((0:Nat):Int)=0:=rfl;rw[e0]at e;rw[e,xR];refine RR.bind (hx a ha) (λy z h=>?_) (λp q z hp=>?_)
 ·obtain⟨rfl,h⟩:=h;have e2:=C3 (s:=sc c) (ks:=x::r) (ws:=[a]) (a:=[]) (b:=[]++[z]) (i:=0+1) rfl;show RR Q' (f z) (Option.bind ((kn Pf) (sc c) (x::r) [a] [] ([]++[z]) ((0+1:Nat):Int)) g);rw[e2];exact hf z h
 ·obtain⟨z',e3⟩:=hg p q hp;refine⟨z',?_⟩;show Option.bind (bif p !=0 then _ else _) g=_;rw[gN hp];exact e3
theorem A7 {x z:ab} {a b:az} {r:List ab} {o:ae->Option (aX γ)} {g:List ae×aM->Option (δ×aM)} (hx:RE B c x) (ha:bY B a)
  (hz:RE B c z) (hb:bY B b) {f:ae->ae->Option (aX γ)} (ho:∀u,EP B c x a u->o u=Bw.aA ((f48 Pf) c z b) (f u))
  (hf:∀u v,EP B c x a u->EP B c z b v->RR Q' (f u v) (g ([u,v],⟨0,0⟩)))
  (hg:∀a b,a≠0->∃z',g ([],⟨a,b⟩)=some (z',⟨a,b⟩):=by intro a b ha;first|exact⟨_,rfl⟩|exact⟨_,gN ha⟩|exact⟨_,gE ha⟩):
  RR Q' (Bw.aA ((f48 Pf) c x a) o) (((f163 Pf) (sc c) (x::z::r) [a,b]).bind g):=by
 rw[GR,pU];have e:=sw (s:=sc c) (ks:=x::z::r) (ws:=[a,b]) (a:=[]) (b:=[]) (i:=0) rfl rfl (by simp) (by simp);have e0:((0:Nat):Int)=0:=rfl;rw[e0]at e;rw[e,xR];refine RR.bind (hx a ha) (λy u h=>?_) (λp q z hp=>?_)
 ·obtain⟨rfl,h⟩:=h;show RR Q' (o u) (Option.bind ((kn Pf) (sc c) (x::z::r) [a,b] [] ([]++[u]) ((0+1:Nat):Int)) g);rw[ho u h,sw (s:=sc c) (ks:=x::z::r) (ws:=[a,b]) (a:=[]) (b:=[]++[u]) (i:=0+1) rfl rfl (by simp) (by simp),xR];refine RR.bind (hz b hb) (λy v h2=>?_) (λp q z hp=>?_)
  ·obtain⟨rfl,h2⟩:=h2;show RR Q' (f u v) (Option.bind ((kn Pf) (sc c) (x::z::r) [a,b] [] ([]++[u]++[v]) ((0+1+1:Nat):Int)) g);rw[C3 (s:=sc c) (ks:=x::z::r) (ws:=[a,b]) (a:=[]) (b:=[]++[u]++[v]) (i:=0+1+1) rfl];exact hf u v h h2
  ·obtain⟨z',e3⟩:=hg p q hp;refine⟨z',?_⟩;show Option.bind (bif p !=0 then _ else _) g=_;rw[gN hp];exact e3
 ·obtain⟨z',e3⟩:=hg p q hp;refine⟨z',?_⟩;show Option.bind (bif p !=0 then _ else _) g=_;rw[gN hp];exact e3
theorem Mc {n x z:ab} {a b t:az} {op:Int} (hn:n.Kids=[x,z]) (hx:RE B c x) (hz:RE B c z) (ha:bY B a) (hb:bY B b) {f:ae->Option (aX γ)} {g:List ae×aM->Option (δ×aM)}
  (hf:∀u v,EP B c x a u->EP B c z b v->RR Q' (f ⟨op,t,0,[],0,[u,v]⟩) (g ([u,v],⟨0,0⟩)))
  (hg:∀a b,a≠0->∃z',g ([],⟨a,b⟩)=some (z',⟨a,b⟩):=by intro a b ha;first|exact⟨_,rfl⟩|exact⟨_,gN ha⟩|exact⟨_,gE ha⟩):
  RR Q' (Bw.aA ((f158 Pf) c op n a b t) f) (((f163 Pf) (sc c) n.Kids [a,b]).bind g):=by
 rw[GM,rq,hn];have e:∀{o:ae->Option (aX ae)},Bw.aA ((au [x,z] 0).bind λx1=>Bw.aA ((f48 Pf) c x1 a) o) f=Bw.aA ((f48 Pf) c x a) λu=>Bw.aA (o u) f:=by
  intro o;show Bw.aA (Bw.aA ((f48 Pf) c x a) o) f=_;cases (f48 Pf) c x a with
  |none=>rfl
  |some r=>cases r<;>rfl
 rw[e];refine A7 hx ha hz hb (f:=λu v=>f ⟨op,t,0,[],0,[u,v]⟩) (λu hu=>?_) (λu v hu hv=>hf u v hu hv) hg;show Bw.aA (Bw.aA ((f48 Pf) c z b) _) f=_;cases (f48 Pf) c z b with
 |none=>rfl
 |some r=>cases r<;>rfl
end
theorem ke {D β γ:Type} (o:Option (aX D)) (f:D->Option (aX β)) (g:β->Option (aX γ)):Bw.aA (Bw.aA o f) g=Bw.aA o λy=>Bw.aA (f y) g:=by
 cases o with
 |none=>rfl
 |some r=>cases r<;>rfl
theorem oX {ε β γ:Type} (o:Option ε) (f:ε->Option (aX β)) (g:β->Option (aX γ)):Bw.aA (o.bind f) g=o.bind λy=>Bw.aA (f y) g:=by
 cases o<;>rfl
theorem mH {β γ:Type} (b:Bool) (x y:Option (aX β)) (g:β->Option (aX γ)):Bw.aA (bif b then x else y) g=bif b then Bw.aA x g else Bw.aA y g:=by
 cases b<;>rfl
theorem lL {β γ:Type} (x:β) (g:β->Option (aX γ)):Bw.aA (some (.ret x)) g=g x:=rfl
section
variable {B:Nat} (hB:B<=1048576) {c:bO} (hc:CE B c) {γ δ:Type} {Q':γ->δ->Prop}
theorem Ct {n x z:ab} {lt:Bool} (wx:WN B x) (wz:WN B z) (hx:RE B c x) (hz:RE B c z):RR (λr ks=>ks=[r.1,r.2]/\TP B c x z lt r) ((f203 Pf) c n x z lt) ((f162 Pf) (sc c) x z n.At lt):=by
 rw[GO,rz,acg,wW];obtain⟨ox,e1,e2⟩:=Md wx;obtain⟨oz,e3,e4⟩:=Md wz;rw[e1,e2,e3,e4];simp only[aw];cases ox with
 |true=>
  simp only[aV];cases oz with
  |true=>exact RR.fail
  |false=>
   simp only[bp];refine RR.bind (hz (aL 0) (.inl rfl)) (λy u h=>?_);obtain⟨rfl,hu⟩:=h;refine RR.f rfl ?_;have two:(lt=true->u.ai.aP=0)->RR (λr ks=>ks=[r.1,r.2]/\TP B c x z lt r) (Bw.aA ((f48 Pf) c x u.ai) λy=>some (.ret (y,u))) (((f49 Pf) (sc c) x u.ai).bind λy=>bif y.snd.Code !=0 then some ([],y.snd)else some ([y.fst,u],y.snd)):=λhl=>by
    refine RR.bind (hx _ (.inr hu.2.1)) (λy v h=>?_);obtain⟨rfl,hv⟩:=h;exact RR.f rfl (RR.ret ⟨rfl,.inr ⟨hu,hv,hl⟩⟩)
   cases lt with
   |true=>
    simp only[aV];by_cases hs:u.ai.aP=0
    ·have:(u.ai.aP !=0)=false:=by simp[hs]
     refine RR.bc (λh=>by rw[this]at h;cases h) (λ_=>RR.f this (two λ_=>hs))
    ·have:(u.ai.aP !=0)=true:=by simpa using hs
     refine RR.bc (λ_=>RR.t this RR.fail) (λh=>by rw[this]at h;cases h)
   |false=>exact two λh=>by cases h
 |false=>
  simp only[bp];refine RR.bind (hx (aL 0) (.inl rfl)) (λy u h=>?_);obtain⟨rfl,hu⟩:=h;refine RR.f rfl ?_;have two:(lt=true->u.ai.aP=0)->RR (λr ks=>ks=[r.1,r.2]/\TP B c x z lt r) (Bw.aA ((f48 Pf) c z u.ai) λy=>some (.ret (u,y))) (((f49 Pf) (sc c) z u.ai).bind λy=>bif y.snd.Code !=0 then some ([],y.snd)else some ([u,y.fst],y.snd)):=λhl=>by
   refine RR.bind (hz _ (.inr hu.2.1)) (λy v h=>?_);obtain⟨rfl,hv⟩:=h;exact RR.f rfl (RR.ret ⟨rfl,.inl ⟨hu,hv,hl⟩⟩)
  cases lt with
  |true=>
   simp only[aV];by_cases hs:u.ai.aP=0
   ·have:(u.ai.aP !=0)=false:=by simp[hs]
    refine RR.bc (λh=>by rw[this]at h;cases h) (λ_=>RR.f this (two λ_=>hs))
   ·have:(u.ai.aP !=0)=true:=by simpa using hs
    refine RR.bc (λ_=>RR.t this RR.fail) (λh=>by rw[this]at h;cases h)
  |false=>exact two λh=>by cases h
end
def EQ {D:Type}:D->D->Prop:=λy z=>z=y
theorem RR.and {D:Type} {P:D->Prop} {o:Option (aX D)} {q:Option (D×aM)} (h:RR EQ o q) (hp:af o P dW):RR (λy z=>z=y/\P y) o q:=by
 rcases h with⟨y,z,h,rfl,rfl⟩|h
 ·obtain⟨r,e,hr⟩:=hp;cases e;exact .inl ⟨y,z,⟨h,hr⟩,rfl,rfl⟩
 ·obtain⟨a,b,z,ha,rfl,rfl⟩:=h;exact .inr ⟨a,b,z,ha,rfl,rfl⟩
theorem RR.same {D:Type} {y:D} {q:Option (D×aM)} (h:q=some (y,⟨0,0⟩)):RR EQ (some (.ret y)) q:= .inl ⟨y,y,rfl,rfl,h⟩
section
variable {B:Nat} (hB:B<=1048576) {c:bO} (hc:CE B c) {γ δ:Type} {Q':γ->δ->Prop}
theorem bq.rh {t:az} (h:bq B t) (hs:t.aP≠0):t.aj.Kind=0:=by
 rcases h with⟨_,_,h⟩|⟨h,_⟩
 ·rw[h];rfl
 ·exact absurd h hs
theorem yx {n x:ab} {ks:List Int} (hk:ks.length<9223372036854775807) (h0:(0:Int)∉ks) (hx:RE B c x) {f:ae->Option (aX γ)} {g:ae×aM->Option (δ×aM)}
  (h1:∀u,EP B c x (aL 0) u->u.ai.aP=0->u.ai.aj.Kind∈ks->RR Q' (f u) (g (u,⟨0,0⟩)))
  (h2:∀u,u.ai.aj.Kind∉ks->∃z',g (u,⟨0,0⟩)=some (z',⟨4,n.At⟩))
  (hg:∀a b z,a≠0->∃z',g (z,⟨a,b⟩)=some (z',⟨a,b⟩):=by intro a b z ha;first|exact⟨_,rfl⟩|exact⟨_,gN ha⟩|exact⟨_,gE ha⟩):
  RR Q' (Bw.aA ((f204 Pf) c n x ks) f) (((f49 Pf) (sc c) x (aL 0)).bind g):=by
 rw[wT,og,ke];refine RR.bind (hx (aL 0) (.inl rfl)) (λy u h=>?_) hg;obtain⟨rfl,hu⟩:=h;have bad:u.ai.aj.Kind∉ks->RR Q' (Bw.aA (Bw.aA ((f80 Pf) 4 n.At) λ_=>(none:Option (aX ae))) f) (g (u,⟨0,0⟩)):=λh=>by
  obtain⟨z',e⟩:=h2 u h;rw[lq,iL,e];exact .inr ⟨4,n.At,z',by decide,rfl,rfl⟩
 rw[mH];refine RR.bc (λhs=>bad ?_) (λhs=>?_)
 ·rw[hu.2.1.rh (by simpa using hs)];exact h0
 ·rw[kq ks _ hk,aw,mH];refine RR.bc (λhm=>bad λh=>?_) (λhm=>?_)
  ·have:(ks.any λy=>u.ai.aj.Kind==y)=true:=ka.2 ⟨_,h,by simp⟩;rw[this]at hm;cases hm
  ·refine h1 u hu (by simpa using hs) ?_;simp only[r6,ka,beq_iff_eq]at hm;obtain⟨k,h3,h4⟩:=hm;rw[h4];exact h3
theorem vS {n x:ab} {op:Int} {t:az} {ks:List Int} (hk:ks.length<9223372036854775807) (h0:(0:Int)∉ks) (hx:RE B c x) {g:ae×aM->Option (ae×aM)}
  (h1:∀u,u.ai.aj.Kind∈ks->g (u,⟨0,0⟩)=some (⟨op,t,0,[],0,[u]⟩,⟨0,0⟩))
  (h2:∀u,u.ai.aj.Kind∉ks->∃z',g (u,⟨0,0⟩)=some (z',⟨4,n.At⟩))
  (hg:∀a b z,a≠0->∃z',g (z,⟨a,b⟩)=some (z',⟨a,b⟩):=by intro a b z ha;first|exact⟨_,rfl⟩|exact⟨_,gN ha⟩|exact⟨_,gE ha⟩):
  RR EQ (Bw.aA ((f237 Pf) op t ks c n x) λy=>some (.ret y)) (((f49 Pf) (sc c) x (aL 0)).bind g):=by
 rw[uC,nr,ke];refine yx hk h0 hx (λu _ _ h=>?_) h2 hg;rw[h1 u h];exact .inl ⟨_,_,rfl,rfl,rfl⟩
theorem U4 {n x:ab} (hn:n.Kids=[x]) (hx:RE B c x) (ht:n.Text∈[[115,105,122,101],[115,117,109],[110,117,109,98,101,114],[111,110],[107,101,121,115],[118,97,108,117,101,115],[99,111,110,102,108,105,99,116],[115,101,99,111,110,100],[102,105,114,115,116]]):
  RR EQ ((f202 Pf) c n) ((f212 Pf) (sc c) n):=by
 rw[mc,jc,aci,wX,hn];refine RR.l (v:=x) rfl (RR.r (v:=x) rfl ?_);refine RR.l (bC 2) (RR.l (bC 1) (RR.l (bC 4) ?_));have z0:az.z=aL 0:=rfl;simp only[cm,fM,or_false]at ht;rcases ht with e|e|e|e|e|e|e|e|e
 ·rw[e];refine RR.bc (λ_=>?_) (λh=>absurd h (by decide));refine RR.bind (hx (aL 0) (.inl rfl)) (λy u h=>?_);obtain⟨rfl,hu⟩:=h;refine RR.f rfl (RR.t (by decide) (RR.r (cY 1) ?_));have bad:u.ai.aP≠4->u.ai.aj.Kind∉[(4:Int),5,9,10]->∀{p q r s t:Option (ae×aM)},RR EQ (Bw.aA ((f80 Pf) 4 n.At) λ_=>(none:Option (aX ae))) (bif u.ai.aP==4 then p else bif u.ai.aj.Kind==4 then q else bif u.ai.aj.Kind==5 then r else bif u.ai.aj.Kind==9 then s else bif !(u.ai.aj.Kind==10)then((f41 Pf) 4 n.At).bind λy=>some (ae.z,y)else t):=λh4 h=>by
   intro p q r s t;simp at h;simp only[<-ne_eq,<-beq_eq_false_iff_ne]at h h4;rw[h4,h.1,h.2.1,h.2.2.1,h.2.2.2];exact RR.fail
  refine RR.bc (λh4=>?_) (λh4=>RR.t (by simpa using h4) (RR.ret rfl));have h4:u.ai.aP≠4:=by simpa using h4
  refine RR.bc (λhs=>bad h4 ?_) (λhs=>?_)
  ·rw[hu.2.1.rh (by simpa using hs)];decide
  refine RR.l (kq _ _ (by simp)) (RR.bc (λhm=>bad h4 λh=>?_) (λhm=>?_))
  ·have:(List.any [4,5,9,10] λy=>u.ai.aj.Kind==y)=true:=ka.2 ⟨_,h,by simp⟩;rw[this]at hm;cases hm
  ·have h4:(u.ai.aP==4)=false:=by simpa using h4
   refine RR.f h4 (RR.same ?_);simp only[r6,ka,beq_iff_eq]at hm;obtain⟨k,h3,hm⟩:=hm;rw[<-hm]at h3;simp at h3;rcases h3 with h|h|h|h<;>simp[h]
 ·rw[e];refine RR.bc (λh=>absurd h (by decide)) (λ_=>RR.bc (λ_=>?_) (λh=>absurd h (by decide)));rw[uC,nr,ke];refine yx (by simp) (by simp) hx (λu hu hs hk=>?_) (λu hk=>?_)
  ·have h5:u.ai.aj.Kind=5:=by simpa using hk
   obtain⟨p,hp⟩:=tX (hu.2.1.dy hs).1 h5;have k5:(u.ai.aj.Kind==5)=true:=by rw[h5];rfl
   rw[lL];refine RR.l (v:=u) rfl ?_;refine RR.f rfl (RR.f (by decide) (RR.t (by decide) (RR.r (cY 1) (RR.t k5 ?_))));rw[hp];refine RR.l (v:=p) rfl (RR.r (v:=p) rfl ?_);refine RR.bc (λh2=>?_) (λh2=>RR.t (by simpa using h2) (RR.ret rfl));refine RR.f (by simpa using h2) (RR.r (v:=p) rfl ?_);refine RR.bc (λh3=>RR.t (by simpa using h3) RR.fail) (λh3=>RR.f (by simpa using h3) (RR.ret rfl))
  ·have h5:(u.ai.aj.Kind==5)=false:=by simpa using hk
   simp[h5,cY,dR]
 ·rw[e];refine RR.bc (λh=>absurd h (by decide)) (λ_=>RR.bc (λh=>absurd h (by decide)) (λ_=>RR.bc (λ_=>?_) (λh=>absurd h (by decide))));refine vS (by simp) (by simp) hx (λu hu=>?_) (λu hu=>?_)
  ·simp at hu;first|(rcases hu with hu|hu|hu<;>simp[hu,cY];done)|(rcases hu with hu|hu<;>simp[hu,cY];done)|simp[hu,cY]
  ·simp at hu;simp only[<-ne_eq,<-beq_eq_false_iff_ne]at hu;simp[hu,cY,dR]
 ·rw[e];refine RR.bc (λh=>absurd h (by decide)) (λ_=>RR.bc (λh=>absurd h (by decide)) (λ_=>RR.bc (λh=>absurd h (by decide)) (λ_=>RR.bc (λ_=>?_) (λh=>absurd h (by decide)))));refine vS (by simp) (by simp) hx (λu hu=>?_) (λu hu=>?_)
  ·simp at hu;first|(rcases hu with hu|hu|hu<;>simp[hu,cY];done)|(rcases hu with hu|hu<;>simp[hu,cY];done)|simp[hu,cY]
  ·simp at hu;simp only[<-ne_eq,<-beq_eq_false_iff_ne]at hu;simp[hu,cY,dR]
 ·rw[e];refine RR.bc (λh=>absurd h (by decide)) (λ_=>RR.bc (λh=>absurd h (by decide)) (λ_=>RR.bc (λh=>absurd h (by decide)) (λ_=>RR.bc (λh=>absurd h (by decide)) (λ_=>RR.bc (λ_=>?_) (λh=>absurd h (by decide))))));refine vS (by simp) (by simp) hx (λu hu=>?_) (λu hu=>?_)
  ·simp at hu;first|(rcases hu with hu|hu|hu<;>simp[hu,cY];done)|(rcases hu with hu|hu<;>simp[hu,cY];done)|simp[hu,cY]
  ·simp at hu;simp only[<-ne_eq,<-beq_eq_false_iff_ne]at hu;simp[hu,cY,dR]
 ·rw[e];refine RR.bc (λh=>absurd h (by decide)) (λ_=>RR.bc (λh=>absurd h (by decide)) (λ_=>RR.bc (λh=>absurd h (by decide)) (λ_=>RR.bc (λh=>absurd h (by decide)) (λ_=>RR.bc (λh=>absurd h (by decide)) (λ_=>RR.bc (λ_=>?_) (λh=>absurd h (by decide)))))));refine vS (by simp) (by simp) hx (λu hu=>?_) (λu hu=>?_)
  ·simp at hu;first|(rcases hu with hu|hu|hu<;>simp[hu,cY];done)|(rcases hu with hu|hu<;>simp[hu,cY];done)|simp[hu,cY]
  ·simp at hu;simp only[<-ne_eq,<-beq_eq_false_iff_ne]at hu;simp[hu,cY,dR]
 ·rw[e];refine RR.bc (λh=>absurd h (by decide)) (λ_=>RR.bc (λh=>absurd h (by decide)) (λ_=>RR.bc (λh=>absurd h (by decide)) (λ_=>RR.bc (λh=>absurd h (by decide)) (λ_=>RR.bc (λh=>absurd h (by decide)) (λ_=>RR.bc (λh=>absurd h (by decide)) (λ_=>RR.bc (λ_=>?_) (λh=>absurd h (by decide))))))));refine vS (by simp) (by simp) hx (λu hu=>?_) (λu hu=>?_)
  ·simp at hu;first|(rcases hu with hu|hu|hu<;>simp[hu,cY];done)|(rcases hu with hu|hu<;>simp[hu,cY];done)|simp[hu,cY]
  ·simp at hu;simp only[<-ne_eq,<-beq_eq_false_iff_ne]at hu;simp[hu,cY,dR]
 ·rw[e];refine RR.bc (λh=>absurd h (by decide)) (λ_=>RR.bc (λh=>absurd h (by decide)) (λ_=>RR.bc (λh=>absurd h (by decide)) (λ_=>RR.bc (λh=>absurd h (by decide)) (λ_=>RR.bc (λh=>absurd h (by decide)) (λ_=>RR.bc (λh=>absurd h (by decide)) (λ_=>RR.bc (λh=>absurd h (by decide)) (λ_=>RR.bc (λ_=>?_) (λh=>absurd h (by decide)))))))));rw[uC,nr,ke];refine yx (by simp) (by simp) hx (λu hu hs hk=>?_) (λu hk=>?_)
  ·have h7:u.ai.aj.Kind=7:=by simpa using hk
   obtain⟨p,q,hp⟩:=tY (hu.2.1.dy hs).1 h7;rw[lL];refine RR.l (v:=u) rfl ?_;rw[hp];refine RR.l (v:=q) rfl (RR.l (of_eq q) ?_);refine RR.same ?_;simp[h7,hp,lA];rfl
  ·have h7:(u.ai.aj.Kind==7)=false:=by simpa using hk
   simp[h7,dR]
 ·rw[e];refine RR.bc (λh=>absurd h (by decide)) (λ_=>RR.bc (λh=>absurd h (by decide)) (λ_=>RR.bc (λh=>absurd h (by decide)) (λ_=>RR.bc (λh=>absurd h (by decide)) (λ_=>RR.bc (λh=>absurd h (by decide)) (λ_=>RR.bc (λh=>absurd h (by decide)) (λ_=>RR.bc (λh=>absurd h (by decide)) (λ_=>RR.bc (λh=>absurd h (by decide)) (λ_=>?_))))))));rw[uC,nr,ke];refine yx (by simp) (by simp) hx (λu hu hs hk=>?_) (λu hk=>?_)
  ·have h7:u.ai.aj.Kind=7:=by simpa using hk
   obtain⟨p,q,hp⟩:=tY (hu.2.1.dy hs).1 h7;rw[lL];refine RR.l (v:=u) rfl ?_;rw[hp];refine RR.l (v:=p) rfl (RR.l (of_eq p) ?_);refine RR.same ?_;simp[h7,hp,lA];rfl
  ·have h7:(u.ai.aj.Kind==7)=false:=by simpa using hk
   simp[h7,dR]
end
section
variable {B:Nat} (hB:B<=1048576) {c:bO}
theorem Lt {s:cA} {n:ab} {w:az} {i:Int} {b:List ae} {f:aM} (hf:f.Code≠0):∃z',(kU Pf) s n w i b f=some (z',f):=by
 rw[DG,qC,gE hf];cases decide (i<((ab.rows n.Kids).length:Int))<;>exact⟨_,rfl⟩
include hB in
theorem XB {n:ab} {w:az} (hn:n.Kids.length<=B) (ih:∀k∈n.Kids,RE B c k):∀(m i:Nat) (b:List ae),i+m=n.Kids.length->b.length=i->RR EQ ((gz Pf) c n w i b) ((kU Pf) (sc c) n w i b ⟨0,0⟩):=by
 intro m
 induction m with
 |zero=>
  intro i b hi hb;rw[pe,kT,DG,qC,ab.aD,aY];have:decide (i<n.Kids.length)=false:=by simp;omega
  rw[this];exact .inl ⟨_,_,rfl,rfl,rfl⟩
 |succ m im=>
  intro i b hi hb;rw[pe,kT,DG,qC,ab.aD,aY];have hl:i<n.Kids.length:=by omega
  have:decide (i<n.Kids.length)=true:=by simpa using hl
  obtain⟨e,he⟩:=bh hl;rw[this,aV,aV,bj he,aw,aw,bP i (by omega)];refine RR.t rfl ?_;have hlen:∀z:ae,decide ((b++[z]).length<=274877906944)=true:=λz=>by simp;omega
  refine RR.bind (ih e (bw he) (aL 0) (.inl rfl)) (λy u h=>?_) (λp q z hp=>?_)
  ·obtain⟨rfl,hu⟩:=h;have e1:(b++[ae.z])[b.length]? =some ae.z:=by simp
   have e2:IntKind.i64.wrap ((((ae.rows b++ae.rows [ae.z]).length:Nat):Int)-1)=(b.length:Int):=by
    rw[jV,ae.aD,ae.aD,wrap64 (by simp<;>omega) (by simp<;>omega)];simp
   have e3:(b++[u])[b.length]? =some u:=by simp
   rw[hlen,aV,ae.aD,lI,fj,kX,e1,aw,e2,lI,e3,aw];have go:RR EQ ((gz Pf) c n w ((i+1:Nat):Int) (b++[u])) (bif decide ((b++[u]).length<=274877906944)then(kU Pf) (sc c) n w ((i+1:Nat):Int) (b++[u]) ⟨0,0⟩else none):=by
    rw[hlen];exact im (i+1) (b++[u]) (by omega) (by simp[hb])
   refine RR.t rfl ?_;refine RR.bc (λh3=>RR.t h3 ?_) (λh3=>RR.f h3 go);refine RR.bc (λh4=>RR.t h4 ?_) (λh4=>RR.f h4 go);refine RR.r (v:=e) rfl (RR.r (dR 4 e.At) ?_);rw[lq,iL];obtain⟨z',e4⟩:=Lt (s:=sc c) (n:=n) (w:=w) (i:=((i+1:Nat):Int)) (b:=b++[u]) (f:=⟨4,e.At⟩) (by show(4:Int)≠0;decide);refine RR.t (hlen u) ?_;show RR EQ _ ((kU Pf) (sc c) n w ((i+1:Nat):Int) (b++[u]) ⟨4,e.At⟩);rw[e4];exact .inr ⟨4,e.At,z',by decide,rfl,rfl⟩
  ·obtain⟨z',e4⟩:=Lt (s:=sc c) (n:=n) (w:=w) (i:=((i+1:Nat):Int)) (b:=b++[z]) (f:=⟨p,q⟩) hp;refine⟨z',?_⟩;show(bif (p==0)then _ else bif decide ((b++[z]).length<=274877906944)then _ else none)=_;rw[gE hp,hlen];exact e4
theorem Lu {s:cA} {n:ab} {w:az} {i:Int} {b:List ae} {f:aM} (hf:f.Code≠0):∃z',(kV Pf) s n w i b f=some (z',f):=by
 rw[DH,qD,gE hf];cases decide (i<((ab.rows n.Kids).length:Int))<;>exact⟨_,rfl⟩
include hB in
theorem XC {n:ab} {w:az} (hn:n.Kids.length<=B) (ih:∀k∈n.Kids,RE B c k):∀(m i:Nat) (b:List ae),i+m=n.Kids.length->b.length=i->RR EQ ((gz Pf) c n w i b) ((kV Pf) (sc c) n w i b ⟨0,0⟩):=by
 intro m
 induction m with
 |zero=>
  intro i b hi hb;rw[pe,kT,DH,qD,ab.aD,aY];have:decide (i<n.Kids.length)=false:=by simp;omega
  rw[this];exact .inl ⟨_,_,rfl,rfl,rfl⟩
 |succ m im=>
  intro i b hi hb;rw[pe,kT,DH,qD,ab.aD,aY];have hl:i<n.Kids.length:=by omega
  have:decide (i<n.Kids.length)=true:=by simpa using hl
  obtain⟨e,he⟩:=bh hl;rw[this,aV,aV,bj he,aw,aw,bP i (by omega)];refine RR.t rfl ?_;have hlen:∀z:ae,decide ((b++[z]).length<=274877906944)=true:=λz=>by simp;omega
  refine RR.bind (ih e (bw he) (aL 0) (.inl rfl)) (λy u h=>?_) (λp q z hp=>?_)
  ·obtain⟨rfl,hu⟩:=h;have e1:(b++[ae.z])[b.length]? =some ae.z:=by simp
   have e2:IntKind.i64.wrap ((((ae.rows b++ae.rows [ae.z]).length:Nat):Int)-1)=(b.length:Int):=by
    rw[jV,ae.aD,ae.aD,wrap64 (by simp<;>omega) (by simp<;>omega)];simp
   have e3:(b++[u])[b.length]? =some u:=by simp
   rw[hlen,aV,ae.aD,lI,fj,kX,e1,aw,e2,lI,e3,aw];have go:RR EQ ((gz Pf) c n w ((i+1:Nat):Int) (b++[u])) (bif decide ((b++[u]).length<=274877906944)then(kV Pf) (sc c) n w ((i+1:Nat):Int) (b++[u]) ⟨0,0⟩else none):=by
    rw[hlen];exact im (i+1) (b++[u]) (by omega) (by simp[hb])
   refine RR.t rfl ?_;refine RR.bc (λh3=>RR.t h3 ?_) (λh3=>RR.f h3 go);refine RR.bc (λh4=>RR.t h4 ?_) (λh4=>RR.f h4 go);refine RR.r (v:=e) rfl (RR.r (dR 4 e.At) ?_);rw[lq,iL];obtain⟨z',e4⟩:=Lu (s:=sc c) (n:=n) (w:=w) (i:=((i+1:Nat):Int)) (b:=b++[u]) (f:=⟨4,e.At⟩) (by show(4:Int)≠0;decide);refine RR.t (hlen u) ?_;show RR EQ _ ((kV Pf) (sc c) n w ((i+1:Nat):Int) (b++[u]) ⟨4,e.At⟩);rw[e4];exact .inr ⟨4,e.At,z',by decide,rfl,rfl⟩
  ·obtain⟨z',e4⟩:=Lu (s:=sc c) (n:=n) (w:=w) (i:=((i+1:Nat):Int)) (b:=b++[z]) (f:=⟨p,q⟩) hp;refine⟨z',?_⟩;show(bif (p==0)then _ else bif decide ((b++[z]).length<=274877906944)then _ else none)=_;rw[gE hp,hlen];exact e4
theorem XE {s:cA} {n:ab} {w:az} {i:Int} {b:List ae} {f:aM} (hf:f.Code≠0):∃z',(qE Pf) s n w i b f=some (z',f):=by
 rw[DI,qF,gE hf];cases decide (i<((ab.rows n.Kids).length:Int))<;>exact⟨_,rfl⟩
include hB in
theorem YG {n:ab} {w:az} {p:ah} (hp:w.aj.ax=[p]) (hwp:bq B (b7 p)) (hn:n.Kids.length<=B) (ih:∀e∈n.Kids,∃a b,e.Kids=[a,b]/\RE B c a/\RE B c b):∀(m i:Nat) (b:List ae),i+m=n.Kids.length->b.length=2*i->RR EQ ((jy Pf) c n w i b) ((qE Pf) (sc c) n w i b ⟨0,0⟩):=by
 intro m
 induction m with
 |zero=>
  intro i b hi hb;rw[sP,mL,DI,qF,ab.aD,aY];have:decide (i<n.Kids.length)=false:=by simp;omega
  rw[this];exact .inl ⟨_,_,rfl,rfl,rfl⟩
 |succ m im=>
  intro i b hi hb;rw[sP,mL,DI,qF,ab.aD,aY];have hl:i<n.Kids.length:=by omega
  have:decide (i<n.Kids.length)=true:=by simpa using hl
  obtain⟨e,he⟩:=bh hl;obtain⟨x,z,hxz,hx,hz⟩:=ih e (bw he);rw[this,aV,aV,bj he,aw,aw,bP i (by omega),hxz,hp];refine RR.t rfl (RR.l (v:=x) rfl (RR.l (bC 3) (RR.r (cY 3) (RR.r (v:=p) rfl (RR.r (lA p) ?_)))));have h2:∀ys:List ae,ys.length<=2->decide ((b++ys).length<=274877906944)=true:=λys h=>by simp;omega
  refine A7 hx (.inr (bq.sort (by simp))) hz (.inr hwp) (f:=λu v=>(jy Pf) c n w ((i+1:Nat):Int) (b++[u,v])) (λu hu=>?_) (λu v hu hv=>?_) (λa q ha=>?_)
  ·have e1:(b++[ae.z])[b.length]? =some ae.z:=by simp
   rw[h2 [ae.z] (by simp),aV,ae.aD,fj,kX,bj e1,aw];show((some z).bind _)=_;rw[aw];show((some p).bind _)=_;rw[aw,of_eq,aw];congr 1;funext v;have e2:(((ae.rows b++ae.rows [ae.z]).length:Nat):Int)=(((b++[u]).length:Nat):Int):=by
    rw[jV,ae.aD,ae.aD];simp
   have e3:((b++[u])++[ae.z])[(b++[u]).length]? =some ae.z:=by simp
   have h3:decide (((b++[u])++[ae.z]).length<=274877906944)=true:=by simp;omega
   rw[h3,aV,e2,bj e3,aw,fj,kX,jZ];rfl
  ·refine RR.t (h2 [u,v] (by simp)) ?_;exact im (i+1) (b++[u,v]) (by omega) (by simp;omega)
  ·obtain⟨z',e4⟩:=XE (s:=sc c) (n:=n) (w:=w) (i:=((i+1:Nat):Int)) (b:=b++[]) (f:=⟨a,q⟩) ha;refine⟨z',?_⟩;show(bif decide ((b++[]).length<=274877906944)then _ else none)=_;rw[h2 [] (by simp)];exact e4
end
theorem NP {D : Type} {L : Int → D} {F : Nat → D} {E : D} {a : List (List UInt8)} {t : List UInt8} (hs : ∀ (i : Nat) y, a[i]? = some y → L (i : Int) = bif t == y then F i else L ((i + 1 : Nat) : Int)) (he : L (a.length : Int) = E) :
    (idxOf (fun y => t == y) a 0 < 0 ∧ L 0 = E) ∨ ∃ (j : Nat) (y : List UInt8), idxOf (fun y => t == y) a 0 = (j : Int) ∧ a[j]? = some y ∧ t = y ∧ L 0 = F j := by
  rcases qk (fun y => t == y) a 0 with ⟨h1, h2⟩ | ⟨i, x, h1, h2, h3, h4⟩
  · have h1 : idxOf (fun y => t == y) a 0 = -1 := h1
    refine .inl ⟨by rw [h1]; decide, ?_⟩
    have key : ∀ m i : Nat, i + m = a.length → L (i : Int) = E := by
      intro m
      induction m with
      | zero => intro i hi; have : i = a.length := by omega
                rw [this]; exact he
      | succ m im =>
        intro i hi
        obtain ⟨y, hy⟩ := bh (l := a) (i := i) (by omega)
        rw [hs i y hy, h2 y (bw hy)]
        exact im (i + 1) (by omega)
    exact key a.length 0 (by omega)
  · have h1 : idxOf (fun y => t == y) a 0 = ((0 + i : Nat) : Int) := h1
    refine .inr ⟨i, x, by rw [h1]; simp, h2, by simpa using h3, ?_⟩
    have key : ∀ m k : Nat, k + m = i → L (k : Int) = F i := by
      intro m
      induction m with
      | zero => intro k hk; have : k = i := by omega
                rw [this, hs i x h2, h3]; rfl
      | succ m im =>
        intro k hk
        have hil := (cr.1 h2).1
        obtain ⟨y, hy⟩ := bh (l := a) (i := k) (by omega)
        rw [hs k y hy, h4 k y (by omega) hy]
        exact im (k + 1) (by omega)
    exact key i 0 (by omega)
theorem Ek (a:List (List UInt8)) (t:List UInt8) (ha:a.length<1000000000):(f42 Pf) a t=some (a.any λy=>y==t):=by
 rw[e42,uQ];have key:∀m i:Nat,i+m=a.length->(vY Pf) a t (i:Int)=some ((a.drop i).any λy=>y==t):=by
  intro m
  induction m with
  |zero=>
   intro i hi;rw[NX,tz,cj,aY];have:decide (i<a.length)=false:=by simp;omega
   rw[this,List.drop_of_length_le (by omega)];rfl
  |succ m im=>
   intro i hi;obtain⟨y,hy⟩:=bh (l:=a) (i:=i) (by omega);rw[NX,tz,cj,aY];have hl:i<a.length:=by omega
   have:decide (i<a.length)=true:=by simpa using hl
   rw[this,aV,bj hy,aw,bP i (by omega),im (i+1) (by omega),List.drop_eq_getElem_cons hl,List.any_cons];have:a[i]=y:=by rw[adi hl]at hy;simpa using hy
   rw[this];cases y==t<;>rfl
 have:=key a.length 0 (by omega);simpa using this
section
variable {B:Nat} (hB:B<=1048576) {c:bO}
def kJ (n:ab) (p:ah):ae:=⟨6,b7 p,0,[],n.At,[]⟩
include hB in
theorem fill_eq {s:cA} {n:ab} {w:az} (h6:w.aj.ax.length=w.aj.Names.length) (hl:w.aj.ax.length<=B):(qH Pf) s n w 0 []=(mR Pf) s n w (w.aj.ax.length:Int) (w.aj.ax.map (kJ n)) [] 0 (w.aj.ax.map (kJ n)) aM.z:=by
 have key:∀m i:Nat,i+m=w.aj.ax.length->(qH Pf) s n w (i:Int) ((w.aj.ax.take i).map (kJ n))=(mR Pf) s n w (w.aj.ax.length:Int) (w.aj.ax.map (kJ n)) [] 0 (w.aj.ax.map (kJ n)) aM.z:=by
  intro m
  induction m with
  |zero=>
   intro i hi;rw[Mu,sW,cj,aY];have h0:i=w.aj.ax.length:=by omega
   have:decide (i<w.aj.Names.length)=false:=by simp;omega
   rw[this,bp,h0,jW]
  |succ m im=>
   intro i hi;rw[Mu,sW,cj,aY];have hl':i<w.aj.ax.length:=by omega
   have:decide (i<w.aj.Names.length)=true:=by simp;omega
   obtain⟨p,hp⟩:=bh hl';rw[this,aV,bj hp,aw,lA,aw,bP i (by omega)];have h2:decide (((w.aj.ax.take i).map (kJ n)++[({Op:=6,ai:=b7 p,N:=0,Text:=[],At:=n.At,Kids:=[]}:ae)]).length<=274877906944)=true:=by simp;omega
   rw[h2,aV];have h3:(w.aj.ax.take i).map (kJ n)++[({Op:=6,ai:=b7 p,N:=0,Text:=[],At:=n.At,Kids:=[]}:ae)]=(w.aj.ax.take (i+1)).map (kJ n):=by
    rw[List.take_add_one,hp];simp[kJ]
   rw[h3];exact im (i+1) (by omega)
 have:=key w.aj.ax.length 0 (by omega);simpa using this
theorem XD {s:cA} {n:ab} {w:az} {i0 i:Int} {b0 b:List ae} {gv:List (List UInt8)} {f:aM} (hf:f.Code≠0):∃z',(mR Pf) s n w i0 b0 gv i b f=some (z',f):=by
 rw[DJ,qG,gE hf];cases decide (i<((ab.rows n.Kids).length:Int))<;>exact⟨_,rfl⟩
include hB in
theorem YI {n:ab} {l:ah} (ho:l.ok B) {s4:List Bool} {s3 ys:List ae} (h4:s4.length=l.ax.length) (hy:ys.length=l.ax.length) (hI:∀(j:Nat) p x f,l.ax[j]? =some p->s3[j]? =some x->s4[j]? =some f->ys[j]? =some (bif f then x else kJ n p)):∀(m i:Nat) (s:List ae),i+m=l.ax.length->s.length=l.ax.length->(∀j,j<i->s[j]? =ys[j]?)->(∀j,i<=j->s[j]? =s3[j]?)->(jz Pf) n l s4 s (i:Int)=some (.ret ys):=by
 have hlen:l.ax.length<=B:=by rw[ah.c8]at ho;exact ho.2.2.2.2.1.1
 intro m
 induction m with
 |zero=>
  intro i s hi hs h1 _;rw[sQ,mM,ah.aD,aY];have:decide (i<l.ax.length)=false:=by simp;omega
  have e:s=ys:=by
   apply Cf;intro j;by_cases h:j<i
   ·exact h1 j h
   ·rw[oT (by omega),oT (by omega)]
  rw[this,bp,e]
 |succ m im=>
  intro i s hi hs h1 h2;rw[sQ,mM,ah.aD,aY];have hil:i<l.ax.length:=by omega
  have:decide (i<l.ax.length)=true:=by simpa using hil
  obtain⟨p,hp⟩:=bh hil;obtain⟨f,hf⟩:=bh (l:=s4) (i:=i) (by omega);obtain⟨x,hx⟩:=bh (l:=s) (i:=i) (by omega);have hm:=bw hp;have hx3:s3[i]? =some x:=by rw[<-h2 i (by omega)];exact hx
  have hyi:=hI i p x f hp hx3 hf;rw[this,aV,bj hp,aw,bj hf,aw,bP i (by omega),fj];cases f with
  |false=>
   show(((f66 Pf) p).bind _)=_;rw[sH hB p (pw ho hm),aw,of_eq,aw,bj hx,aw];refine im (i+1) _ (by omega) (by simp[hs]) (λj hj=>?_) (λj hj=>?_)
   ·by_cases e:j=i
    ·subst e;rw[mA (by omega),hyi];rfl
    ·rw[jX (by omega)];exact h1 j (by omega)
   ·rw[jX (by omega)];exact h2 j (by omega)
  |true=>
   refine im (i+1) s (by omega) hs (λj hj=>?_) (λj hj=>h2 j (by omega));by_cases e:j=i
   ·subst e;rw[hx,hyi];rfl
   ·exact h1 j (by omega)
include hB in
theorem YH {n:ab} {w:az} (hw:bq B w) (hs0:w.aP=0) (h6:w.aj.Kind=6) (hd:∀(i j:Nat) t,w.aj.Names[i]? =some t->w.aj.Names[j]? =some t->i=j) (hn:n.Kids.length<=B) (h1:∀e∈n.Kids,∃k,e.Kids=[k]/\RE B c k) {i0:Int} {b0:List ae}:
  ∀(m i:Nat) (s3:List ae) (s4:List Bool) (gv:List (List UInt8)) (ks:List ae),i+m=n.Kids.length->s3.length=w.aj.ax.length->s4.length=w.aj.ax.length->ks.length=w.aj.ax.length->gv.length<=i->
   (∀(j:Nat) p x f,w.aj.ax[j]? =some p->s3[j]? =some x->s4[j]? =some f->ks[j]? =some (bif f then x else kJ n p))->
   (∀t,t∈gv↔∃j:Nat,w.aj.Names[j]? =some t/\s4[j]? =some true)->
   RR (λys z=>z=(⟨25,w,0,[],0,ys⟩:ae)) ((lQ Pf) c n w.aj s3 s4 i) ((mR Pf) (sc c) n w i0 b0 gv i ks ⟨0,0⟩):=by
 have hl:=(hw.dy hs0).1;have ho:=(hw.dy hs0).2;have hlen:w.aj.ax.length<=B:=by rw[ah.c8]at ho;exact ho.2.2.2.2.1.1
 have hpn:=qZ hl h6;intro m
 induction m with
 |zero=>
  intro i s3 s4 gv ks hi h3 h4 hk hg I1 I2;rw[sR,mN,DJ,qG,ab.aD,aY];have:decide (i<n.Kids.length)=false:=by simp;omega
  have e:=YI hB (n:=n) ho h4 hk I1 w.aj.ax.length 0 s3 (by omega) h3 (λj hj=>by omega) (λj _=>rfl);have e0:((0:Nat):Int)=0:=rfl;rw[e0]at e;rw[this,bp,bp,e];exact .inl ⟨_,_,rfl,rfl,rfl⟩
 |succ m im=>
  intro i s3 s4 gv ks hi h3 h4 hk hg I1 I2;rw[sR,mN,DJ,qG,ab.aD,aY];have hil:i<n.Kids.length:=by omega
  have:decide (i<n.Kids.length)=true:=by simpa using hil
  obtain⟨e,he⟩:=bh hil;obtain⟨kd,hkd,hE⟩:=h1 e (bw he);rw[this,aV,aV,bj he,aw,qw _ _ (by omega),aw,bP i (by omega)];refine RR.t rfl ?_;have S:=NP (L:=λk=>(po Pf) (sc c) n w i0 b0 gv i ks ⟨0,0⟩ k) (a:=w.aj.Names) (t:=e.Text)
   (E:=some (({Op:=25,ai:=w,N:=0,Text:=[],At:=0,Kids:=ks}:ae),({Code:=3,At:=e.At}:aM)))
   (F:=λk=>((f42 Pf) gv e.Text).bind λy=>bif y then some (({Op:=25,ai:=w,N:=0,Text:=[],At:=0,Kids:=ks}:ae),({Code:=3,At:=e.At}:aM))else(au w.aj.ax (k:Int)).bind λp=>((f49 Pf) (sc c) kd (b7 p)).bind λr=>(au ks (k:Int)).bind λ_=>(mR Pf) (sc c) n w i0 b0 (gv++[e.Text]) ((i+1:Nat):Int) (ks.set k r.fst) r.snd)
   (λk y hy=>by
    show(po Pf) (sc c) n w i0 b0 gv i ks ⟨0,0⟩ (k:Int)=_;have hkl:=(cr.1 hy).1;have d1:decide (k<w.aj.Names.length)=true:=by simpa using hkl
    have d2:((k:Int)==(w.aj.Names.length:Int))=false:=by simp;omega
    have d3:decide ((gv++[e.Text]).length<=274877906944)=true:=by simp;omega
    have d4:(y==e.Text)=(e.Text==y):=by rw[gu,beq_iff_eq,beq_iff_eq];exact eq_comm
    have d5:au e.Kids 0=some kd:=by rw[hkd];rfl
    rw[Mt,sV,cj,aY,d1,aV,bj hy,aw,bj he];simp only[aw,d2,d3,d4,d5,dR,lA,aV,bp,fj,bP i (show i<9223372036854775807 by omega),bP k (show k<9223372036854775807 by omega)];cases e.Text==y<;>rfl)
   (by
    show(po Pf) (sc c) n w i0 b0 gv i ks ⟨0,0⟩ (w.aj.Names.length:Int)=_;have d1:decide (w.aj.Names.length<w.aj.Names.length)=false:=by simp
    have d2:((w.aj.Names.length:Int)==(w.aj.Names.length:Int))=true:=by simp
    rw[Mt,sV,cj,aY,d1,bp,d2,aV,bj he,aw,dR];rfl)
  have F3:∀{q:Option (ae×aM)},q=some (({Op:=25,ai:=w,N:=0,Text:=[],At:=0,Kids:=ks}:ae),({Code:=3,At:=e.At}:aM))->RR (λys z=>z=(⟨25,w,0,[],0,ys⟩:ae)) (Bw.aA ((f80 Pf) 3 e.At) λ_=>(none:Option (aX (List ae)))) q:=λh=>by
   rw[lq,iL,h];exact .inr ⟨3,e.At,_,by decide,rfl,rfl⟩
  rcases S with⟨hneg,hL⟩|⟨j,y,hj,hy,hty,hL⟩
  ·exact RR.bc (λ_=>F3 hL) (λh=>by simp at h;omega)
  ·have hL:(po Pf) (sc c) n w i0 b0 gv i ks ⟨0,0⟩ 0=_:=hL;rw[hL,Ek gv _ (by omega),aw,hj];have hjl:j<w.aj.ax.length:=by rw[hpn];exact(cr.1 hy).1
   obtain⟨f,hf⟩:=bh (l:=s4) (i:=j) (by omega);obtain⟨x,hx⟩:=bh (l:=s3) (i:=j) (by omega);obtain⟨p,hp⟩:=bh hjl;obtain⟨k0,hk0⟩:=bh (l:=ks) (i:=j) (by omega);have hm:=bw hp;have hfg:(gv.any λz=>z==e.Text)=f:=by
    rw[gu,ka];constructor
    ·rintro ⟨z,hz,e1⟩;have e1:z=e.Text:=by simpa using e1
     rw[e1]at hz;obtain⟨j',h5,h6⟩:=(I2 _).1 hz;have:j'=j:=hd j' j e.Text h5 (by rw[hty];exact hy);rw[this,hf]at h6;simpa using h6
    ·intro h;exact⟨e.Text,(I2 _).2 ⟨j,by rw[hty];exact hy,by rw[hf,h]⟩,by simp⟩
   rw[hfg];refine RR.bc (λh=>by simp at h;omega) (λ_=>RR.l (er hf) ?_);cases f with
   |true=>exact F3 rfl
   |false=>
    rw[hkd,bp,bp];refine RR.l (v:=kd) rfl (RR.l (er hp) (RR.l (of_eq p) (RR.r (er hp) ?_)));refine RR.bind (hE (b7 p) (.inr (bq.of (hl.part hm) (pw ho hm)))) (λy2 u h=>?_) (λa b z ha=>?_)
    ·obtain⟨rfl,hu⟩:=h;refine RR.l (er hx) (RR.l (er hf) (RR.r (er hk0) ?_));rw[fj];refine im (i+1) (s3.set j u) (s4.set j true) (gv++[e.Text]) (ks.set j u) (by omega) (by simp[h3]) (by simp[h4]) (by simp[hk]) (by simp;omega) (λq r x f g1 g2 g3=>?_) (λt=>?_)
     ·by_cases e1:q=j
      ·subst e1;rw[mA (by omega)]at g2 g3⊢;cases g2;cases g3;rfl
      ·rw[jX (by omega)]at g2 g3⊢;exact I1 q r x f g1 g2 g3
     ·rw[cJ,I2 t];constructor
      ·rintro (⟨q,g1,g2⟩|g)
       ·refine⟨q,g1,?_⟩;by_cases e1:q=j
        ·subst e1;rw[mA (by omega)]
        ·rw[jX (by omega)];exact g2
       ·have g:t=e.Text:=by simpa using g
        exact⟨j,by rw[g,hty];exact hy,by rw[mA (by omega)]⟩
      ·rintro ⟨q,g1,g2⟩;by_cases e1:q=j
       ·subst e1;rw[hy]at g1;cases g1;exact .inr (by simp[hty])
       ·rw[jX (by omega)]at g2;exact .inl ⟨q,g1,g2⟩
    ·obtain⟨z',e4⟩:=XD (s:=sc c) (n:=n) (w:=w) (i0:=i0) (i:=((i+1:Nat):Int)) (b0:=b0) (b:=ks.set j z) (gv:=gv++[e.Text]) (f:=⟨a,b⟩) ha;refine⟨z',?_⟩;show(Option.bind (au ks (j:Int)) _)=_;rw[bj hk0,aw];exact e4
end
section
variable {B:Nat} (hB:B<=1048576) {c:bO} (hc:CE B c)
include hB in
theorem XA {n:ab} {w:az} (hw:bY B w) (hA:af ((f91 Pf) c n w) (AP B c w) dW) (hR:RR EQ ((f91 Pf) c n w) ((f94 Pf) (sc c) n w)):RR (λy z=>z=y/\EP B c n w y) ((f48 Pf) c n w) ((f49 Pf) (sc c) n w):=by
 refine RR.and ?_ (NO hB hw hA);rw[I3,rS,e49,xo];refine RR.bind (RR.and hR hA) (λy u h=>?_);obtain⟨rfl,hu⟩:=h;refine RR.t rfl (RR.l (sH hB _ hu.1.ok) (RR.l (fD w) (RR.r (pP w) ?_)));cases isNone w with
 |true=>exact .inl ⟨_,_,rfl,rfl,rfl⟩
 |false=>
  obtain⟨r,e1,h1⟩:=zJ (b:=u.ai) hB hw.ok;obtain⟨r',e2,h2⟩:=Ls (b:=w) hB hu.1.ok;have:r'=r:=by rw[gu,h1,h2];exact eq_comm
  subst this;refine RR.l e1 (RR.r e2 ?_);cases r' with
  |true=>exact .inl ⟨_,_,rfl,rfl,rfl⟩
  |false=>
   show RR EQ (Bw.aA ((f80 Pf) 4 n.At) λ_=>none) _;refine RR.r (dR 4 n.At) ?_;rw[lq,iL];exact .inr ⟨4,n.At,_,by decide,rfl,rfl⟩
theorem U5 {n:ab} {w:az} (hw:bY B w) (hB:B<=1048576) (hs:dJ n) (hk:n.Kind=30\/n.Kind=36\/n.Kind=38\/n.Kind=39\/n.Kind=42\/n.Kind=43) (hW:∀k∈n.Kids,WN B k) (ih:∀k∈n.Kids,RE B c k):RR EQ (Bw.aA ((f160 Pf) c n w) λy=>some (.ret y)) ((f94 Pf) (sc c) n w):=by
 have s2:bY B (aL 2):= .inr (bq.sort (by simp));have s3:bY B (aL 3):= .inr (bq.sort (by simp));have z0:az.z=aL 0:=rfl;have F4:∀{f} {a:Int} {z:ae},RR (EQ (D:=ae)) (Bw.aA ((f80 Pf) 4 a) f) (some (z,⟨4,a⟩)):=λ{f a z}=>by
  rw[lq,iL];exact .inr ⟨4,a,z,by decide,rfl,rfl⟩
 have F3:∀{f} {a:Int} {z:ae},RR (EQ (D:=ae)) (Bw.aA ((f80 Pf) 3 a) f) (some (z,⟨3,a⟩)):=λ{f a z}=>by
  rw[lq,iL];exact .inr ⟨3,a,z,by decide,rfl,rfl⟩
 rw[kA,ie,TW,uX];rcases hk with h|h|h|h|h|h
 ·obtain⟨x,y,z,hx⟩:=ni (l:=n.Kids) (by unfold dJ at hs;omega);simp only[bC,cY,dR,pP,fD,aw,h,Int.reduceBEq,aV,bp,ke,oX,mH,lL];rw[hx]at hW ih⊢;refine RR.l (v:=x) rfl (RR.r (v:=x) rfl (RR.bind (ih x (by simp) _ s2) λy1 u hh=>?_));obtain⟨rfl,hu⟩:=hh;refine RR.f rfl ?_;cases isNone w with
  |true=>
   rw[aV,aV];refine RR.l (v:=y) rfl ?_;refine RR.l (v:=z) rfl ?_;refine RR.r (v:=y) rfl ?_;refine RR.r (v:=z) rfl ?_;refine RR.bind (Ct (n:=n) (hW y (by simp)) (hW z (by simp)) (ih y (by simp)) (ih z (by simp))) (λr ks hr=>?_);obtain⟨rfl,_⟩:=hr;exact .inl ⟨_,_,rfl,rfl,rfl⟩
  |false=>
   rw[bp,bp];refine RR.l (v:=y) rfl ?_;refine RR.r (v:=[y,z]) rfl ?_;exact A7 (ih y (by simp)) hw (ih z (by simp)) hw (f:=λv t=>some (.ret ⟨7,v.ai,0,[],0,[u,v,t]⟩)) (λv hv=>rfl) (λv t hv ht=> .inl ⟨_,_,rfl,rfl,rfl⟩)
 ·obtain⟨x,y,hx⟩:=gC (l:=n.Kids) (by unfold dJ at hs;omega);simp only[bC,cY,dR,pP,fD,aw,h,Int.reduceBEq,aV,bp,ke,oX,mH,lL];rw[hx]at hW ih⊢;refine RR.l (v:=x) rfl ?_;refine RR.r (v:=x) rfl ?_;refine RR.bind (ih x (by simp) _ (.inl rfl)) (λy1 u hh=>?_);obtain⟨rfl,hu⟩:=hh;refine RR.f rfl ?_;refine RR.bc (λh0=>RR.t h0 ?_) (λh0=>RR.f h0 ?_)
  ·refine RR.l (v:=x) rfl ?_;refine RR.r (v:=x) rfl ?_;exact F4
  ·refine RR.l (v:=y) rfl ?_;refine RR.r (v:=y) rfl ?_;refine RR.bind (ih y (by simp) _ (.inr hu.2.1)) (λy1 v hh=>?_);obtain⟨rfl,hv⟩:=hh;exact .inl ⟨_,_,rfl,rfl,rfl⟩
 ·obtain⟨x,y,hx⟩:=gC (l:=n.Kids) (by unfold dJ at hs;omega);simp only[bC,cY,dR,pP,fD,aw,h,Int.reduceBEq,aV,bp,ke,oX,mH,lL];rw[hx]at hW ih⊢;refine RR.l (v:=x) rfl ?_;refine RR.l (v:=y) rfl ?_;refine RR.r (v:=x) rfl ?_;refine RR.r (v:=y) rfl ?_;refine RR.bind (Ct (n:=n) (hW x (by simp)) (hW y (by simp)) (ih x (by simp)) (ih y (by simp))) (λr ks hr=>?_);obtain⟨rfl,_⟩:=hr;exact .inl ⟨_,_,rfl,rfl,rfl⟩
 ·obtain⟨x,y,hx⟩:=gC (l:=n.Kids) (by unfold dJ at hs;omega);simp only[bC,cY,dR,pP,fD,aw,h,Int.reduceBEq,aV,bp,ke,oX,mH,lL];cases hn:isNone w with
  |true=>
   rw[hx]at hW ih⊢;simp only[xQ,bp,aV];refine RR.l (v:=x) rfl ?_;refine RR.l (v:=y) rfl ?_;refine RR.r (v:=x) rfl ?_;refine RR.r (v:=y) rfl ?_;refine RR.bind (Ct (n:=n) (hW x (by simp)) (hW y (by simp)) (ih x (by simp)) (ih y (by simp))) (λr ks hr=>?_);obtain⟨rfl,_⟩:=hr;exact .inl ⟨_,_,rfl,rfl,rfl⟩
  |false=>
   simp only[u5,bp,aV];refine RR.bc (λh0=>RR.t h0 F4) (λh0=>RR.f h0 ?_);refine Mc hx (ih x (by rw[hx];simp)) (ih y (by rw[hx];simp)) hw hw (λu v hu hv=>?_);have e:u.ai=w:=(hu.2.2.1 hn).symm;exact .inl ⟨⟨16,w,0,[],0,[u,v]⟩,⟨16,w,0,[],0,[u,v]⟩,rfl,rfl,by rw[<-e];rfl⟩
 ·obtain⟨x,hx⟩:=iZ (l:=n.Kids) (by unfold dJ at hs;omega);simp only[bC,cY,dR,pP,fD,aw,h,Int.reduceBEq,aV,bp,ke,oX,mH,lL];rw[hx]at hW ih⊢;refine RR.l (v:=x) rfl ?_;rw[wT,og];simp only[ke,oX,mH,lL];refine wI (ih x (by simp)) (.inl rfl) (λu hu=>?_);refine RR.f rfl (RR.r (v:=u) rfl ?_);have bad:u.ai.aj.Kind≠6->((f199 Pf) [6] u.ai.aj.Kind)=some false:=λh=>by
   rw[kq _ _ (by simp)];have:(u.ai.aj.Kind==6)=false:=by simpa using h
   simp[this]
  have good:u.ai.aj.Kind=6->((f199 Pf) [6] u.ai.aj.Kind)=some true:=λh=>by
   rw[kq _ _ (by simp),h];rfl
  by_cases hk:u.ai.aj.Kind=6
  case neg=>
   refine RR.t (by simpa using hk) ?_;refine RR.bc (λ_=>F4) (λ_=>RR.l (bad hk) ?_);exact F4
  refine RR.f (by simp[hk]) ?_;have hs0:u.ai.aP=0:=by
   by_cases h0:u.ai.aP=0
   ·exact h0
   ·have:=hu.2.1.rh h0;rw[hk]at this;cases this
  have hl:=hu.2.1.dy hs0;refine RR.bc (λh0=>by simp[hs0]at h0) (λ_=>RR.l (good hk) ?_);refine RR.bc (λh0=>by cases h0) (λ_=>?_);have hnl:u.ai.aj.Names.length<=B:=by have:=hl.2;rw[ah.c8]at this;exact this.2.2.2.1.1
  have S:=NP (L:=λk=>(nS Pf) n ([u],⟨0,0⟩) u k) (a:=u.ai.aj.Names) (t:=n.Text)
   (E:=some (({Op:=0,ai:=az.z,N:=0,Text:=[],At:=0,Kids:=[u]}:ae),({Code:=3,At:=n.At}:aM)))
   (F:=λk=>(au u.ai.aj.ax (k:Int)).bind λp=>some (({Op:=19,ai:=b7 p,N:=k,Text:=[],At:=0,Kids:=[u]}:ae),({Code:=0,At:=0}:aM)))
   (λk y hy=>by
    show(nS Pf) n ([u],⟨0,0⟩) u (k:Int)=_;have hkl:=(cr.1 hy).1;have d1:decide (k<u.ai.aj.Names.length)=true:=by simpa using hkl
    have d4:(y==n.Text)=(n.Text==y):=by rw[gu,beq_iff_eq,beq_iff_eq];exact eq_comm
    rw[N0,tD,cj,aY,d1,aV,bj hy,aw,d4,bP k (by omega)];simp only[lA,aw])
   (by
    show(nS Pf) n ([u],⟨0,0⟩) u (u.ai.aj.Names.length:Int)=_;have d1:decide (u.ai.aj.Names.length<u.ai.aj.Names.length)=false:=by simp
    rw[N0,tD,cj,aY,d1,bp,dR,aw])
  rw[qw _ _ (by omega),aw];rcases S with⟨hneg,hL⟩|⟨j,y,hj,hy,hty,hL⟩
  ·refine RR.bc (λ_=>?_) (λh=>by simp at h;omega);have hL:(nS Pf) n ([u],⟨0,0⟩) u 0=_:=hL;rw[hL];exact F3
  ·have hL:(nS Pf) n ([u],⟨0,0⟩) u 0=_:=hL;rw[hL,hj];refine RR.bc (λh=>by simp at h;omega) (λ_=>?_);obtain⟨p,hp⟩:=bh (l:=u.ai.aj.ax) (i:=j) (by rw[qZ hl.1 hk];exact(cr.1 hy).1);refine RR.l (er hp) (RR.l (of_eq p) (RR.r (er hp) ?_));exact .inl ⟨_,_,rfl,rfl,rfl⟩
 ·obtain⟨x,y,hx⟩:=gC (l:=n.Kids) (by unfold dJ at hs;omega);simp only[bC,cY,dR,pP,fD,aw,h,Int.reduceBEq,aV,bp,ke,oX,mH,lL];rw[hx]at hW ih⊢;refine RR.l (v:=x) rfl ?_;refine RR.r (v:=x) rfl ?_;rw[wT,og];simp only[ke,oX,mH,lL];refine RR.bind (ih x (by simp) _ (.inl rfl)) (λy1 u hh=>?_);obtain⟨rfl,hu⟩:=hh;refine RR.f rfl ?_;have bad:u.ai.aj.Kind≠5->((f199 Pf) [5] u.ai.aj.Kind)=some false:=λh=>by
   rw[kq _ _ (by simp)];have:(u.ai.aj.Kind==5)=false:=by simpa using h
   simp[this]
  have good:u.ai.aj.Kind=5->((f199 Pf) [5] u.ai.aj.Kind)=some true:=λh=>by
   rw[kq _ _ (by simp),h];rfl
  by_cases hk:u.ai.aj.Kind=5
  case neg=>
   refine RR.t (by simpa using hk) ?_;refine RR.bc (λ_=>F4) (λ_=>RR.l (bad hk) ?_);exact F4
  refine RR.f (by simp[hk]) ?_;have hs0:u.ai.aP=0:=by
   by_cases h0:u.ai.aP=0
   ·exact h0
   ·have:=hu.2.1.rh h0;rw[hk]at this;cases this
  have hl:=hu.2.1.dy hs0;refine RR.bc (λh0=>by simp[hs0]at h0) (λ_=>RR.l (good hk) ?_);refine RR.bc (λh0=>by cases h0) (λ_=>?_);obtain⟨p,hp⟩:=tX hl.1 hk;refine RR.l (v:=y) rfl ?_;refine RR.r (v:=y) rfl ?_;have hp0:au u.ai.aj.ax 0=some p:=by rw[hp];rfl
  refine RR.bind (ih y (by simp) _ s3) (λy1 v hh=>?_) (λa b z ha=>?_)
  ·obtain⟨rfl,hv⟩:=hh;refine RR.l hp0 (RR.l (of_eq p) (RR.r hp0 (RR.r (lA p) ?_)));exact .inl ⟨_,_,rfl,rfl,rfl⟩
  ·refine⟨⟨20,b7 p,0,[],0,[u,z]⟩,?_⟩;show(au u.ai.aj.ax 0).bind _=_;rw[hp0,aw,lA];rfl
