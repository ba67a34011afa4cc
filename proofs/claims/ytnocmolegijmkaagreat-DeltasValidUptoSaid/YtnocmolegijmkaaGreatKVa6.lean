/- Trees of expressions that are well formed; types.bare answers, and what it answers is one. -/
import Derived.Test.YtnocmolegijmkaaGreatKVa1
set_option linter.all false
section
namespace Go.Proofs.YtnocmolegijmkaaGreat
open Go Go.Bw
def dR:List UInt8:=[109,97,112]
def dv:List UInt8:=[114,101,99]
def iI (n:af):List af:=bif n.Kind==51&&(n.Text==dR||n.Text==dv)then n.Kids.flatMap (·.Kids)else n.Kids
def ir (n:af):Prop:=
 (n.Kind=30/\n.Kids.length=3)\/((n.Kind=33\/n.Kind=42)/\n.Kids.length=1)\/
 ((31<=n.Kind/\n.Kind<=43/\n.Kind≠33/\n.Kind≠42)/\n.Kids.length=2)\/(44<=n.Kind/\n.Kind<=50)\/
 (n.Kind=51/\(n.Text=dR->∀e∈n.Kids,e.Kids.length=2)/\(n.Text=dv->∀e∈n.Kids,e.Kids.length=1))
inductive WN (B:Nat):af->Prop
 |mk {n:af}:ir n->n.Kids.length<=B->(n.Kind=44-> -1000000000000000<=n.N/\n.N<=1000000000000000)->(n.Kind=47->NV n.Text)->(∀k∈iI n,WN B k)->WN B n
theorem np {D:Type} (l:List D) (z y:D):(l++[z]).set l.length y=l++[y]:=by simp
theorem ab.ind {P:ab->Prop} (h:∀x:ab,(∀k∈x.Kids,P k)->P x):∀x,P x:=by
 intro x;refine ab.rec (motive_1:=P) (motive_2:=λks=>∀k∈ks,P k) ?_ ?_ ?_ x
 ·intro op ty n t a ks ih;exact h ⟨op,ty,n,t,a,ks⟩ ih
 ·intro k hk;cases hk
 ·intro k ks h1 h2 x hx;rcases cu.1 hx with rfl|hx
  ·exact h1
  ·exact h2 x hx
theorem oX {B:Nat} {n:af} (h:44<=n.Kind/\n.Kind<=50) (hk:n.Kids=[]) (h1:n.Kind=44-> -1000000000000000<=n.N/\n.N<=1000000000000000) (h2:n.Kind=47->NV n.Text):WN B n:=by
 refine .mk (.inr (.inr (.inr (.inl h)))) (by rw[hk];simp) h1 h2 λk hm=>?_;have:(n.Kind==51)=false:=by simp;omega
 rw[iI,this,hk]at hm;simp at hm
variable {B:Nat} (hB:B<=1048576)
theorem P3 {ps:List TParam} {x:ab} (hx:x.Text.length<9223372036854775807):ah ((se Pu) ps x) (λr=>r.2=true->WN B r.1):=by
 rw[pS,lj,ab.aH,TParam.aH];have no:∀n:af,ah (some (n,false)) (λr=>r.2=true->WN B r.1):=λn=>ah.ret λe=>by cases e
 refine ah.bif (λ_=>no _) (λ_=>?_);refine ah.bif (λ_=>?_) (λ_=>?_)
 ·refine ah.bif (λh1=>?_) (λ_=>no _);refine ah.bif (λh2=>?_) (λ_=>no _);refine ah.ret λ_=>oX (by simp) rfl (λ_=>?_) (λe=>by simp at e);simp at h1 h2;exact⟨h1,h2⟩
 refine ah.bif (λ_=>?_) (λ_=>?_)
 ·refine ah.bif (λ_=>ah.ret λ_=>oX (by simp) rfl (λe=>by simp at e) (λe=>by simp at e)) (λ_=>?_);exact ah.bif (λ_=>ah.ret λ_=>oX (by simp) rfl (λe=>by simp at e) (λe=>by simp at e)) (λ_=>no _)
 refine ah.bif (λ_=>?_) (λ_=>?_)
 ·rw[lE _ hx,aE];exact ah.bif (λh=>ah.ret λ_=>oX (by simp) rfl (λe=>by simp at e) (λ_=>BF.1 h)) (λ_=>no _)
 refine ah.bif (λ_=>?_) (λ_=>no _);refine ah.bif (λh1=>?_) (λ_=>no _);refine ah.bif (λh2=>?_) (λ_=>no _);refine ah.bind (ah.idx (by simpa using h1) (by simpa using h2)) (λy _=>?_);exact ah.ret λ_=>oX (by simp) rfl (λe=>by simp at e) (λe=>by simp at e)
theorem Nt (op:Int):ah ((jm Pu) op) (λr=>r.1≠0->(r.1=30/\r.2=3)\/((r.1=33\/r.1=42)/\r.2=1)\/((31<=r.1/\r.1<=43/\r.1≠33/\r.1≠42)/\r.2=2)\/((r.1=49\/r.1=50)/\r.2=0)):=by
 rw[ll,iK]
 repeat' (first|refine ah.bif (λ_=>?_) (λ_=>?_)|refine ah.ret ?_)
 all_goals simp
theorem O' (op:Int):ah ((lk Pu) op) (λr=>(r=dR↔op=24)/\(r=dv↔op=25)):=by
 rw[Fp,pM]
 repeat' (first|refine ah.bif (λh=>?_) (λh=>?_)|refine ah.ret ?_)
 all_goals (simp at*;simp[dR,dv, *])
include hB
theorem NS {x:ab} {ks:List af} {y:List UInt8} (hy:y=dR) (he:ks.length%2=0) (hl:ks.length<=B) (hk:∀k∈ks,WN B k):ah ((jH Pu) x ks y [] 0) (λr=>r.2=true->WN B r.1):=by
 have h:=iU (L:=λi (b:List af)=>(jH Pu) x ks y b (2*i)) (P:=λr=>r.2=true->WN B r.1) (len:=ks.length/2) (λi b=>b.length=i/\∀e∈b,e.Kids.length=2/\∀k∈e.Kids,WN B k) (λi b hi hI k=>by
   show ah ((jH Pu) x ks y b _) _;have e0:(2*(i:Int))=((2*i:Nat):Int):=by omega
   rw[xC,nE,af.aH,e0,bq];have:decide (2*i<ks.length)=true:=by simp;omega
   obtain⟨p,hp⟩:=bu (by omega:2*i<ks.length);obtain⟨q,hq⟩:=bu (by omega:2*i+1<ks.length);have e2:IntKind.i64.wrap (((2*i:Nat):Int)+2)=2*((i+1:Nat):Int):=by rw[wrap64 (by omega) (by omega)];omega
   rw[this,a6,bw hp,aE,cw _ (by omega),bw hq,aE,e2];have hlen:decide ((b++[({Kind:=52,Text:=[],N:=0,At:=0,Kids:=[p,q]}:af)]).length<=274877906944)=true:=by simp;omega
   rw[hlen,a6];refine k _ ⟨by simp[hI.1],λe hm=>?_⟩;rcases cD.1 hm with hm|hm
   ·exact hI.2 e hm
   ·simp at hm;subst hm;refine⟨rfl,λz hz=>?_⟩;simp at hz;rcases hz with rfl|rfl
    ·exact hk _ (br hp)
    ·exact hk _ (br hq)) (λb hI=>by
   show ah ((jH Pu) x ks y b _) _;have e0:(2*((ks.length/2:Nat):Int))=((ks.length:Nat):Int):=by omega
   rw[xC,nE,af.aH,e0,bq];have:decide (ks.length<ks.length)=false:=by simp
   rw[this,bl];refine ah.ret λ_=> .mk (.inr (.inr (.inr (.inr ⟨rfl,λ_ e he=>(hI.2 e he).1,λe=>?_⟩)))) (by show b.length<=B;omega) (λe=>by simp at e) (λe=>by simp at e) λk hm=>?_
   ·have e:y=dv:=e;rw[hy]at e;exact absurd e (by decide)
   ·have:((y==dR)=true):=by simp[hy]
    simp only[iI]at hm;rw[this]at hm;simp at hm;obtain⟨e,h1,h2⟩:=hm;exact(hI.2 e h1).2 k h2) 0 [] (by omega) ⟨rfl,by simp⟩
 simpa using h
theorem Ox {x:ab} {ks:List af} {y:List UInt8} (hy:y=dv) (he:x.aq.aw.Names.length=ks.length) (hl:ks.length<=B) (hk:∀k∈ks,WN B k):ah ((il Pu) x ks y [] 0) (λr=>r.2=true->WN B r.1):=by
 have h:=iU (L:=λi (b:List af)=>(il Pu) x ks y b i) (P:=λr=>r.2=true->WN B r.1) (len:=ks.length) (λi b=>b.length<=i/\∀e∈b,e.Kids.length=1/\∀k∈e.Kids,WN B k) (λi b hi hI k=>by
   show ah ((il Pu) x ks y b _) _;rw[xD,nF,af.aH,bq];have:decide (i<ks.length)=true:=by simpa using hi
   obtain⟨p,hp⟩:=bu hi;obtain⟨t,ht⟩:=bu (by omega:i<x.aq.aw.Names.length);rw[this,a6,bw hp,aE,bw ht,cw i (by omega)];simp only[aE];have hlen:decide ((b++[({Kind:=52,Text:=t,N:=0,At:=0,Kids:=[p]}:af)]).length<=274877906944)=true:=by simp;omega
   rw[hlen];simp only[a6];have more:ah ((il Pu) x ks y (b++[{Kind:=52,Text:=t,N:=0,At:=0,Kids:=[p]}]) ((i+1:Nat):Int)) (λr=>r.2=true->WN B r.1):=by
    refine k _ ⟨by simp;omega,λe hm=>?_⟩;rcases cD.1 hm with hm|hm
    ·exact hI.2 e hm
    ·simp at hm;subst hm;refine⟨rfl,λz hz=>?_⟩;simp at hz;subst hz;exact hk _ (br hp)
   refine ah.bif (λ_=>more) (λ_=>ah.bif (λ_=>more) (λ_=>k b ⟨by omega,hI.2⟩))) (λb hI=>by
   show ah ((il Pu) x ks y b _) _;rw[xD,nF,af.aH,bq];have:decide (ks.length<ks.length)=false:=by simp
   rw[this,bl];refine ah.ret λ_=> .mk (.inr (.inr (.inr (.inr ⟨rfl,λe=>?_,λ_ e he=>(hI.2 e he).1⟩)))) (by show b.length<=B;omega) (λe=>by simp at e) (λe=>by simp at e) λk hm=>?_
   ·have e:y=dR:=e;rw[hy]at e;exact absurd e (by decide)
   ·have:((y==dv)=true):=by simp[hy]
    simp only[iI]at hm;rw[this]at hm;simp at hm;obtain⟨e,h1,h2⟩:=hm;exact(hI.2 e h1).2 k h2) 0 [] (by omega) ⟨by simp,by simp⟩
 simpa using h
theorem PZ {ps:List TParam}:∀x:ab,x.ok B->ah ((mc Pu) ps x) (λr=>r.2=true->WN B r.1):=by
 refine ab.ind λx ih hx=>?_;rw[ab.cY]at hx;obtain⟨_,_,_,ht,_,hkl,hkk⟩:=hx;rw[Fq,pN];refine ah.bind (P3 (B:=B) (by omega)) (λy hy=>?_);refine ah.bif (λh=>ah.ret λ_=>hy h) (λ_=>?_);have no:∀n:af,ah (some (n,false)) (λr=>r.2=true->WN B r.1):=λn=>ah.ret λe=>by cases e
 have h:=iU (L:=λi (b:List af)=>(gy Pu) ps x false i b) (P:=λr=>r.2=true->WN B r.1) (len:=x.Kids.length) (λi b=>b.length=i/\∀k∈b,WN B k) (λi b hi hI k=>by
   show ah ((gy Pu) ps x false i b) _;rw[xE,nD,ab.aH,bq];have:decide (i<x.Kids.length)=true:=by simpa using hi
   obtain⟨p,hp⟩:=bu hi;have hm:=br hp;rw[this,a6,bw hp,aE];refine ah.bind (ih p hm (ab.gO hkk hm)) (λy hy=>?_);refine ah.bif (λ_=>no _) (λh1=>?_);have hlen:decide ((b++[af.z]).length<=274877906944)=true:=by simp;omega
   rw[hlen,a6,af.aH,ox,cw i (by omega),iR,np];have e1:(b++[af.z])[b.length]? =some af.z:=by simp
   rw[e1,aE];refine k _ ⟨by simp[hI.1],λz hz=>?_⟩;rcases cD.1 hz with hz|hz
   ·exact hI.2 z hz
   ·simp at hz;subst hz;exact hy (by simpa using h1)) (λb hI=>by
   show ah ((gy Pu) ps x false _ b) _;rw[xE,nD,ab.aH,bq];have:decide (x.Kids.length<x.Kids.length)=false:=by simp
   rw[this,bl,af.aH];refine ah.bind (Nt x.Op) (λo ho=>?_);refine ah.bif (λh1=>?_) (λh1=>?_)
   ·have ho:=ho (by simpa using h1);refine ah.bif (λ_=>no _) (λh2=>?_);have h2:o.2=(x.Kids.length:Int):=by simpa using h2
    have good:∀t:List UInt8,WN B {Kind:=o.1,Text:=t,N:=0,At:=x.At,Kids:=b}:=λt=>by
     refine .mk ?_ (by show b.length<=B;omega) (λe=>by have e:o.1=44:=e;omega) (λe=>by have e:o.1=47:=e;omega) λk hm=>?_
     ·rcases ho with⟨a,c⟩|⟨a,c⟩|⟨a,c⟩|⟨a,c⟩
      ·exact .inl ⟨a,by show b.length=3;omega⟩
      ·exact .inr (.inl ⟨a,by show b.length=1;omega⟩)
      ·exact .inr (.inr (.inl ⟨a,by show b.length=2;omega⟩))
      ·exact .inr (.inr (.inr (.inl (by show 44<=o.1/\o.1<=50;omega))))
     ·have:(o.1==51)=false:=by simp;omega
      simp only[iI]at hm;rw[this]at hm;simp at hm;exact hI.2 k hm
    refine ah.bif (λh3=>?_) (λ_=>ah.ret λ_=>good _);have h3:o.1=42:=by simpa using h3
    have h4:0<x.Kids.length:=by omega
    obtain⟨p,hp⟩:=bu h4;have e0:aA x.Kids 0=some p:=hp;rw[e0,aE];refine ah.bif (λ_=>no _) (λh5=>?_);refine ah.bif (λ_=>no _) (λh6=>?_);refine ah.bind (ah.idx (by simpa using h5) (by rw[eh]at h6;simpa using h6)) (λt _=>ah.ret λ_=>good _)
   ·refine ah.bind (O' x.Op) (λt ht=>?_);refine ah.bif (λh2=>?_) (λh2=>?_)
    ·refine ah.bif (λ_=>no _) (λh3=>?_);refine NS hB (ht.1.2 (by simpa using h2)) ?_ (by omega) hI.2;have h3:((b.length:Int)).tmod 2=0:=by simpa using h3
     rw[Ng (by omega)]at h3;omega
    refine ah.bif (λh3=>?_) (λh3=>?_)
    ·refine ah.bif (λ_=>no _) (λh4=>?_);refine Ox hB (ht.2.2 (by simpa using h3)) ?_ (by omega) hI.2;rw[eh]at h4;have h4:(x.aq.aw.Names.length:Int)=b.length:=by simpa using h4
     omega
    ·refine ah.ret λ_=> .mk (.inr (.inr (.inr (.inr ⟨rfl,λe=>?_,λe=>?_⟩)))) (by show b.length<=B;omega) (λe=>by simp at e) (λe=>by simp at e) λk hm=>?_
     ·have:=ht.1.1 e;simp at h2;omega
     ·have:=ht.2.1 e;simp at h3;omega
     ·have e1:(t==dR)=false:=by
       rw[beq_eq_false_iff_ne];intro e;have:=ht.1.1 e;simp at h2;omega
      have e2:(t==dv)=false:=by
       rw[beq_eq_false_iff_ne];intro e;have:=ht.2.1 e;simp at h3;omega
      simp only[iI]at hm;rw[e1,e2]at hm;simp at hm;exact hI.2 k hm) 0 [] (by omega) ⟨rfl,by simp⟩
 simpa using h
end Go.Proofs.YtnocmolegijmkaaGreat
end

section
namespace Go.Proofs.YtnocmolegijmkaaGreat
open Go Go.Bw
def dI (z:AV):Prop:=∃a b:Int,a≠0/\z= .bd 75 (.agg [.v (.int .i64 a),.v (.int .i64 b)])
theorem dI.ref {z:AV} (h:dI z):cE z=true:=by obtain⟨a,b,_,rfl⟩:=h;rfl
theorem eW {D:Type} {Q:D->Prop} (a b:Int) (ha:a≠0:=by decide):ae (Bw.aF ((ee Pu) a b) λ_=>(none:Option (aU D))) Q dI:=by
 rw[VI,uB];exact⟨_,rfl,a,b,ha,rfl⟩
theorem XO {D β:Type} {o:Option (aU D)} {g:Int->Int->Option β} {f:D->Option β} {P:D->Prop} {Q:β->Prop} (h:ae o P dI) (hg:∀a b,a≠0->ah (g a b) Q) (hf:∀y,P y->ah (f y) Q):ah (Bw.fP 75 o g f) Q:=by
 obtain⟨r,rfl,h⟩:=h;cases r with
 |ret x=>exact hf x h
 |aJ z=>obtain⟨a,b,ha,rfl⟩:=h;simpa[Bw.fP,oL]using hg a b ha
theorem qI (a:List Int) (x:Int) (ha:a.length<9223372036854775807):(rJ Pu) a x=some (a.any λy=>x==y):=by
 have:(yB Pu) a x=some (idxOf (λy=>x==y) a 0):=by
  rw[VK,rF];refine wN (λy=>x==y) (λi y hy hi=>?_) ?_
  ·rw[Ix,qC];have:decide ((i:Int)<((dL IntKind.i64 a).length:Int))=true:=by rw[oy];simp;omega
   rw[this,a6,bw hy,aE,cw i (by omega)]
  ·rw[Ix,qC];have:decide ((a.length:Int)<((dL IntKind.i64 a).length:Int))=false:=by rw[oy];simp
   rw[this];rfl
 rw[VL,uD,this,aE,Aq]
theorem J0 (a:List TParam) (n:af) (ha:a.length<9223372036854775807):(wg Pu) a n=some (idxOf (λp:TParam=>p.Name==n.Text) a 0):=by
 rw[O2,qm];refine wN (λp:TParam=>p.Name==n.Text) (λi y hy hi=>?_) ?_
 ·rw[FW,p3,TParam.aH,bq];have:decide (i<a.length)=true:=by simpa using hi
  rw[this,a6,bw hy,aE,VH,uA,aE,cw i (by omega)]
 ·rw[FW,p3,TParam.aH,bq];have:decide (a.length<a.length)=false:=by simp
  rw[this];rfl
theorem Aw {D : Type} {p : D → Bool} {a : List D} (h : ¬ idxOf p a 0 < 0) : ∃ (i : Nat) (x : D), idxOf p a 0 = (i : Int) ∧ a[i]? = some x ∧ p x = true := by
  rcases sJ p a 0 with ⟨h1, _⟩ | ⟨i, x, h1, h2, h3, _⟩
  · have e : idxOf p a 0 = -1 := h1
    rw [e] at h; simp at h
  · exact ⟨i, x, by have e : idxOf p a 0 = ((0 + i : Nat) : Int) := h1
                    rw [e]; simp, h2, h3⟩
def a7 (B:Nat) (t:ay):Prop:=(1<=t.aL/\t.aL<=4/\t.aw=l0)\/(t.aL=0/\dO t.aw/\t.aw.ok B)
def cS (B:Nat) (t:ay):Prop:=t=aK 0\/a7 B t
theorem KF (B:Nat):l0.ok B:=by rw[ai.cY];simp[l0,ai.fS,Lit.wf];decide
theorem dO.kind {l:ai} (h:dO l):1<=l.Kind/\l.Kind<=10:=by
 have h:=h.shape;unfold iX at h;omega
theorem tm {B:Nat} {l p:ai} (h:l.ok B) (hp:p∈l.aB):p.ok B:=by
 rw[ai.cY]at h;exact ai.gO h.2.2.2.2.1.2 hp
theorem a7.ok {B:Nat} {t:ay} (h:a7 B t):t.aw.ok B:=by
 rcases h with⟨_,_,h⟩|⟨_,_,h⟩
 ·rw[h];exact KF B
 ·exact h
theorem a7.fJ {B:Nat} {t:ay} (h:a7 B t):isNone t=false:=by
 rcases h with⟨h1,h2,_⟩|⟨_,h,_⟩
 ·unfold isNone;have:(t.aL==0)=false:=by simp;omega
  rw[this];rfl
 ·have:=h.kind;unfold isNone;have:(t.aw.Kind==0)=false:=by simp;omega
  rw[this];simp
theorem a7.sort {B:Nat} {n:Int} (h:1<=n/\n<=4):a7 B (aK n):= .inl ⟨h.1,h.2,rfl⟩
theorem a7.of {B:Nat} {l:ai} (h:dO l) (ho:l.ok B):a7 B (bY l):= .inr ⟨rfl,h,ho⟩
theorem a7.eT {B:Nat} {t:ay} (h:a7 B t) (hs:t.aL=0):dO t.aw/\t.aw.ok B:=by
 rcases h with⟨h1,_⟩|⟨_,h⟩
 ·omega
 ·exact h
theorem cS.ok {B:Nat} {t:ay} (h:cS B t):t.aw.ok B:=by
 rcases h with rfl|h
 ·exact KF B
 ·exact h.ok
theorem cS.some {B:Nat} {t:ay} (h:cS B t) (hn:isNone t=false):a7 B t:=by
 rcases h with rfl|h
 ·cases hn
 ·exact h
theorem cS.kind {B:Nat} {t:ay} (h:cS B t) (hs:t.aL=0) (hk:t.aw.Kind≠0):dO t.aw/\t.aw.ok B/\isNone t=false:=by
 rcases h with rfl|h
 ·exact absurd rfl hk
 ·exact⟨(h.eT hs).1,(h.eT hs).2,h.fJ⟩
theorem wK:dO eO:=⟨.mk (.inl ⟨.inr rfl,rfl,rfl,rfl,rfl,rfl⟩) (by simp[yK,eO]) ⟨by simp[eO],by simp[eO,rising],by simp[eO],by simp[eO]⟩ (by simp[eO]) (by simp[eO]) (by simp[eO]),by simp[xm,eO,fj],by simp[tn,eO,lV]⟩
theorem xl (B:Nat):eO.ok B:=by rw[ai.cY];simp[eO,ai.fS,Lit.wf];decide
theorem fU {D:Type} {l:List D} {i:Nat} {x:D} (h:l[i]? =some x):aA l (i:Int)=some x:=h
theorem xH {n:af} (h:n.Kind≠51):iI n=n.Kids:=by
 have:(n.Kind==51)=false:=by simpa using h
 rw[iI,this];rfl
theorem nM {D:Type} {l:List D} (h:l.length=1):∃a,l=[a]:=by
 match l,h with|[a],_=>exact⟨a,rfl⟩
theorem kY {D:Type} {l:List D} (h:l.length=2):∃a b,l=[a,b]:=by
 match l,h with|[a,b],_=>exact⟨a,b,rfl⟩
theorem pd {D:Type} {l:List D} (h:l.length=3):∃a b c,l=[a,b,c]:=by
 match l,h with|[a,b,c],_=>exact⟨a,b,c,rfl⟩
theorem HX {B:Nat} {n:af} (h:WN B n):ah ((l5 Pu) n) (λ_=>True):=by
 induction h with
 |mk hs hl h44 h47 hk ih=>
  rename_i n;rw[LP,rH];refine ah.bif (λ_=>ah.ret trivial) (λ_=>?_);refine ah.bif (λ_=>?_) (λh51=>?_)
  ·repeat' (first|refine ah.bif (λ_=>ah.ret trivial) (λ_=>?_)|exact ah.ret trivial)
  have h51:n.Kind≠51:=by simpa using h51
  rw[xH h51]at ih;refine ah.bif (λh39=>?_) (λ_=>?_)
  ·have h39:n.Kind=39:=by simpa using h39
   obtain⟨a,b,e⟩:=kY (l:=n.Kids) (by unfold ir at hs;omega);rw[e]at ih⊢;refine ah.au (v:=a) rfl (ah.bind (ih a (by simp)) λy _=>?_);refine ah.bif (λ_=>?_) (λ_=>ah.ret trivial);exact ah.au (v:=b) rfl (ah.bind (ih b (by simp)) λ_ _=>ah.ret trivial)
  refine ah.bif (λh30=>?_) (λ_=>ah.ret trivial);have h30:n.Kind=30:=by simpa using h30
  obtain⟨a,b,c,e⟩:=pd (l:=n.Kids) (by unfold ir at hs;omega);rw[e]at ih⊢;refine ah.au (v:=b) rfl (ah.bind (ih b (by simp)) λy _=>?_);refine ah.bif (λ_=>?_) (λ_=>ah.ret trivial);exact ah.au (v:=c) rfl (ah.bind (ih c (by simp)) λ_ _=>ah.ret trivial)
structure CE (B:Nat) (c:bm):Prop where
 eT:dO c.l
 ok:c.l.ok B
 par:∀p∈c.params,1<=p.aL/\p.aL<=4
 num:c.params.length<=B
def EP (B:Nat) (c:bm) (n:af) (w:ay) (y:ab):Prop:=y.At=n.At/\a7 B y.aq/\Fit w y.aq/\W c.l c.params y w
def AP (B:Nat) (c:bm) (w:ay) (y:ab):Prop:=a7 B y.aq/\∀a,Fit w y.aq->W c.l c.params ⟨y.Op,y.aq,y.N,y.Text,a,y.Kids⟩ w
def EE (B:Nat) (c:bm) (n:af):Prop:=∀w,cS B w->ae ((cn Pu) c n w) (EP B c n w) dI
theorem fv {t:ay}:Fit (aK 0) t:=λh=>by cases h
theorem mW {D β : Type} {L : Int → β → Option (aU D)} {P : D → Prop} {E : AV → Prop} {len : Nat} (Inv : Nat → β → Prop)
    (step : ∀ (i : Nat) b, i < len → Inv i b → (∀ b', Inv (i + 1) b' → ae (L ((i + 1 : Nat) : Int) b') P E) → ae (L (i : Int) b) P E)
    (stop : ∀ b, Inv len b → ae (L (len : Int) b) P E) : ∀ (i : Nat) b, i ≤ len → Inv i b → ae (L (i : Int) b) P E := by
  intro i b hi hI
  obtain ⟨k, hk⟩ : ∃ k, len = i + k := ⟨len - i, by omega⟩
  induction k generalizing i b with
  | zero => have : i = len := by omega
            subst this; exact stop b hI
  | succ k ih => exact step i b (by omega) hI fun b' hb' => ih (i + 1) b' (by omega) hb' (by omega)
section
variable {B:Nat} (hB:B<=1048576) {c:bm} (hc:CE B c)
include hB in
theorem Q3 {n:af} {w:ay} (hw:cS B w) (hA:ae ((nS Pu) c n w) (AP B c w) dI):ae ((cn Pu) c n w) (EP B c n w) dI:=by
 rw[MM,r9];refine ae.aF hA (λy hy=>?_);refine ae.au (wh hB _ hy.1.ok) ?_;refine ae.au (jD w) ?_;refine ae.bif (λh=>?_) (λh=>?_)
 ·refine ae.bind (wL hB hw.ok) (λb hb=>?_);refine ae.bif (λ_=>eW _ _) (λhb'=>?_);have e:w=y.aq:=hb.1 (by simpa using hb');exact ae.ret ⟨rfl,hy.1,λ_=>e,hy.2 _ (λ_=>e)⟩
 ·have hf:Fit w y.aq:=λe=>by simp[e]at h
  exact ae.ret ⟨rfl,hy.1,hf,hy.2 _ hf⟩
theorem HW {n x z:af} {a b t:ay} {op:Int} (hn:n.Kids=[x,z]) (hx:EE B c x) (hz:EE B c z) (ha:cS B a) (hb:cS B b):
  ae ((iF Pu) c op n a b t) (λy=>∃u v,y=⟨op,t,0,[],0,[u,v]⟩/\EP B c x a u/\EP B c z b v) dI:=by
 rw[LQ,rI,hn];refine ae.au (v:=x) rfl (ae.aF (hx a ha) λu hu=>?_);refine ae.au (v:=z) rfl (ae.aF (hz b hb) λv hv=>?_);exact ae.ret ⟨u,v,rfl,hu,hv⟩
def TP (B:Nat) (c:bm) (x z:af) (lt:Bool) (r:ab×ab):Prop:=
 (EP B c x (aK 0) r.1/\EP B c z r.1.aq r.2/\(lt=true->r.1.aq.aL=0))\/(EP B c z (aK 0) r.2/\EP B c x r.2.aq r.1/\(lt=true->r.2.aq.aL=0))
theorem Ap {n x z:af} {lt:Bool} (wx:WN B x) (wz:WN B z) (hx:EE B c x) (hz:EE B c z):ae ((pC Pu) c n x z lt) (TP B c x z lt) dI:=by
 rw[LV,rQ];refine ae.bind (HX wx) (λo _=>?_);refine ae.bif (λ_=>?_) (λ_=>?_)
 ·refine ae.bind (HX wz) (λo _=>?_);refine ae.bif (λ_=>eW _ _) (λ_=>?_);refine ae.aF (hz (aK 0) (.inl rfl)) (λy hy=>?_);refine ae.bif (λhl=>?_) (λhl=>?_)
  ·refine ae.bif (λ_=>eW _ _) (λhs=>?_);exact ae.aF (hx _ (.inr hy.2.1)) λu hu=>ae.ret (.inr ⟨hy,hu,λ_=>by simpa using hs⟩)
  ·exact ae.aF (hx _ (.inr hy.2.1)) λu hu=>ae.ret (.inr ⟨hy,hu,λe=>by rw[e]at hl;cases hl⟩)
 ·refine ae.aF (hx (aK 0) (.inl rfl)) (λy hy=>?_);refine ae.bif (λhl=>?_) (λhl=>?_)
  ·refine ae.bif (λ_=>eW _ _) (λhs=>?_);exact ae.aF (hz _ (.inr hy.2.1)) λu hu=>ae.ret (.inl ⟨hy,hu,λ_=>by simpa using hs⟩)
  ·exact ae.aF (hz _ (.inr hy.2.1)) λu hu=>ae.ret (.inl ⟨hy,hu,λe=>by rw[e]at hl;cases hl⟩)
def OP (B:Nat) (c:bm) (x:af) (ks:List Int) (y:ab):Prop:=EP B c x (aK 0) y/\y.aq.aL=0/\y.aq.aw.Kind∈ks
theorem Av {n x:af} {ks:List Int} (hk:ks.length<9223372036854775807) (hx:EE B c x):ae ((mE Pu) c n x ks) (OP B c x ks) dI:=by
 rw[LU,rP];refine ae.aF (hx (aK 0) (.inl rfl)) (λy hy=>?_);refine ae.bif (λ_=>eW _ _) (λhs=>?_);refine ae.au (qI ks _ hk) ?_;refine ae.bif (λ_=>eW _ _) (λhm=>ae.ret ⟨hy,by simpa using hs,?_⟩);simp only[FI,vD,beq_iff_eq]at hm;obtain⟨k,h1,h2⟩:=hm;rw[h2];exact h1
theorem wM {op:Int} {t:ay} {n x:af} {ks:List Int} (hk:ks.length<9223372036854775807) (hx:EE B c x):ae ((jM Pu) op t ks c n x) (λy=>∃u,y=⟨op,t,0,[],0,[u]⟩/\OP B c x ks u) dI:=by
 rw[LS,rO];exact ae.aF (Av hk hx) λu hu=>ae.ret ⟨u,rfl,hu⟩
theorem gP {t:ay} (h:a7 B t) (hs:t.aL=0) {p:ai} (hp:p∈t.aw.aB):a7 B (bY p):= .of ((h.eT hs).1.part hp) (tm (h.eT hs).2 hp)
theorem BV {l:ai} (h:dO l) (hk:l.Kind=5):∃p,l.aB=[p]:=nM (by have:=h.shape;unfold iX at this;omega)
theorem BW {l:ai} (h:dO l) (hk:l.Kind=7):∃p q,l.aB=[p,q]:=kY (by have:=h.shape;unfold iX at this;omega)
theorem xG {l:ai} (h:dO l) (hk:l.Kind=6):l.aB.length=l.Names.length:=by have:=h.shape;unfold iX at this;omega
theorem NG {n x:af} {w:ay} (hn:n.Kids=[x]) (hx:EE B c x):ae ((uS Pu) c n) (AP B c w) dI:=by
 rw[l6,jh,hn];refine ae.au (v:=x) rfl ?_;refine ae.au (bz 2) (ae.au (bz 1) (ae.au (bz 4) ?_));have seeN:∀(op s:Int) (ks:List Int),(op,s,ks)∈[((31:Int),(1:Int),[(2:Int),3]),(32,2,[1]),(33,4,[5,4,10]),(34,4,[8,9]),(37,2,[8,9])]->ae (Bw.aF ((jM Pu) op (aK s) ks c n x) λy=>some (.ret y)) (AP B c w) dI:=by
  intro op s ks hm;refine ae.aF (wM (by simp at hm;rcases hm with⟨_,_,rfl⟩|⟨_,_,rfl⟩|⟨_,_,rfl⟩|⟨_,_,rfl⟩|⟨_,_,rfl⟩<;>simp) hx) (λy hy=>?_);obtain⟨u,rfl,hu⟩:=hy;exact ae.ret ⟨a7.sort (by simp at hm;omega),λa hf=> .kE hm hu.1.2.2.2 hu.2.1 hu.2.2 hf⟩
 refine ae.bif (λ_=>?_) (λ_=>?_)
 ·refine ae.aF (hx (aK 0) (.inl rfl)) (λy hy=>?_);refine ae.bif (λh4=>?_) (λh4=>?_)
  ·refine ae.bif (λ_=>eW _ _) (λh0=>?_);refine ae.au (qI _ _ (by simp)) ?_;refine ae.bif (λ_=>eW _ _) (λhm=>ae.ret ⟨a7.sort (by simp),λa hf=> .size hy.2.2.2 (.inr ⟨by simpa using h0,?_⟩) hf⟩);simp at hm;simp;omega
  ·exact ae.ret ⟨a7.sort (by simp),λa hf=> .size hy.2.2.2 (.inl (by simpa using h4)) hf⟩
 refine ae.bif (λ_=>?_) (λ_=>?_)
 ·refine ae.aF (wM (by simp) hx) (λy hy=>?_);obtain⟨u,rfl,hu⟩:=hy;refine ae.au (v:=u) rfl ?_;have h5:u.aq.aw.Kind=5:=by simpa using hu.2.2
  obtain⟨p,hp⟩:=BV (hu.1.2.1.eT hu.2.1).1 h5;rw[hp];refine ae.au (v:=p) rfl ?_;have good:(p.Kind=2\/p.Kind=3)->ae (some (aU.ret (⟨30,aK 1,0,[],0,[u]⟩:ab))) (AP B c w) dI:=λhk=>
   ae.ret ⟨a7.sort (by simp),λa hf=> .sum (p:=p) hu.1.2.2.2 hu.2.1 h5 (by rw[hp];rfl) hk hf⟩
  refine ae.bif (λ_=>?_) (λh=>good (.inl (by simpa using h)));exact ae.bif (λ_=>eW _ _) (λh=>good (.inr (by simpa using h)))
 refine ae.bif (λ_=>seeN 31 1 _ (by simp)) (λ_=>?_);refine ae.bif (λ_=>seeN 32 2 _ (by simp)) (λ_=>?_);refine ae.bif (λ_=>seeN 33 4 _ (by simp)) (λ_=>?_);refine ae.bif (λ_=>seeN 34 4 _ (by simp)) (λ_=>?_);refine ae.bif (λ_=>seeN 37 2 _ (by simp)) (λ_=>?_);refine ae.bif (λ_=>?_) (λ_=>?_)
 ·refine ae.aF (wM (by simp) hx) (λy hy=>?_);obtain⟨u,rfl,hu⟩:=hy;refine ae.au (v:=u) rfl ?_;have h7:u.aq.aw.Kind=7:=by simpa using hu.2.2
  obtain⟨p,q,hp⟩:=BW (hu.1.2.1.eT hu.2.1).1 h7;rw[hp];refine ae.au (v:=q) rfl (ae.au (of_eq q) ?_);exact ae.ret ⟨gP hu.1.2.1 hu.2.1 (by rw[hp];simp),λa hf=> .part (i:=1) (p:=q) (.inr ⟨rfl,rfl⟩) hu.1.2.2.2 hu.2.1 h7 (by rw[hp];rfl) hf⟩
 ·refine ae.aF (wM (by simp) hx) (λy hy=>?_);obtain⟨u,rfl,hu⟩:=hy;refine ae.au (v:=u) rfl ?_;have h7:u.aq.aw.Kind=7:=by simpa using hu.2.2
  obtain⟨p,q,hp⟩:=BW (hu.1.2.1.eT hu.2.1).1 h7;rw[hp];refine ae.au (v:=p) rfl (ae.au (of_eq p) ?_);exact ae.ret ⟨gP hu.1.2.1 hu.2.1 (by rw[hp];simp),λa hf=> .part (i:=0) (p:=p) (.inl ⟨rfl,rfl⟩) hu.1.2.2.2 hu.2.1 h7 (by rw[hp];rfl) hf⟩
theorem HY {n:Nat} (h:n<=274877906944):tV (n:Int)=some n:=by
 show(bif Nat.ble n 274877906944 then some n else none)=some n;rw[zX h];rfl
def LW (c:bm) (l:ai) (s3:List ab) (s4:List Bool):Prop:=s3.length=l.aB.length/\s4.length=l.aB.length/\∀(i:Nat) x p,s4[i]? =some true->s3[i]? =some x->l.aB[i]? =some p->W c.l c.params x (bY p)
def RP (c:bm) (l:ai) (ys:List ab):Prop:=ys.length=l.aB.length/\∀(i:Nat) x p,ys[i]? =some x->l.aB[i]? =some p->W c.l c.params x (bY p)
include hB in
theorem P2 {n:af} {l:ai} (hl:dO l) (ho:l.ok B) {s4:List Bool} {s3:List ab} (hI:LW c l s3 s4):ae ((jC Pu) n l s4 s3 0) (RP c l) dI:=by
 have hlen:l.aB.length<=B:=by rw[ai.cY]at ho;exact ho.2.2.2.2.1.1
 have h:=mW (L:=λi (b:List ab)=>(jC Pu) n l s4 b i) (P:=RP c l) (E:=dI) (len:=l.aB.length) (λi b=>b.length=l.aB.length/\∀(j:Nat) x p,(j<i\/s4[j]? =some true)->b[j]? =some x->l.aB[j]? =some p->W c.l c.params x (bY p)) (λi b hi hJ k=>by
   show ae ((jC Pu) n l s4 b i) _ _;rw[xe,nk,ai.aH,bq];have:decide (i<l.aB.length)=true:=by simpa using hi
   obtain⟨p,hp⟩:=bu hi;obtain⟨f,hf⟩:=bu (l:=s4) (i:=i) (by rw[hI.2.1];exact hi);obtain⟨x,hx⟩:=bu (l:=b) (i:=i) (by rw[hJ.1];exact hi);have hm:=br hp;rw[this,a6,bw hp,aE,bw hf,aE,cw i (by omega)];refine ae.bif (λh1=>?_) (λh1=>?_)
   ·refine ae.au (wh hB p (tm ho hm)) (ae.au (of_eq p) (ae.au (fU hx) ?_));rw[iR];refine k _ ⟨by simp[hJ.1],λj y q hj hy hq=>?_⟩;by_cases e:j=i
    ·subst e;rw[ss (by rw[hJ.1];exact hi)]at hy;cases hy;rw[hp]at hq;cases hq;exact .iq rfl (a7.of (hl.part hm) (tm ho hm)).fJ
    ·rw[pV (by omega)]at hy;exact hJ.2 j y q (by rcases hj with hj|hj;exact .inl (by omega);exact .inr hj) hy hq
   ·refine k _ ⟨hJ.1,λj y q hj hy hq=>?_⟩;by_cases e:j=i
    ·subst e;have:f=true:=by simpa using h1
     exact hJ.2 j y q (.inr (by rw[hf,this])) hy hq
    ·exact hJ.2 j y q (by rcases hj with hj|hj;exact .inl (by omega);exact .inr hj) hy hq) (λb hJ=>by
   show ae ((jC Pu) n l s4 b _) _ _;rw[xe,nk,ai.aH,bq];have:decide (l.aB.length<l.aB.length)=false:=by simp
   rw[this,bl];exact ae.ret ⟨hJ.1,λj x p hx hp=>hJ.2 j x p (.inl (cX.1 hp).1) hx hp⟩) 0 s3 (by omega) ⟨hI.1,λj x p hj hx hp=>by
    rcases hj with hj|hj
    ·omega
    ·exact hI.2.2 j x p hj hx hp⟩
 exact h
include hB in
theorem Ow {n:af} {l:ai} (hl:dO l) (ho:l.ok B) (h6:l.Kind=6) (hn:n.Kids.length<=B) (h1:∀e∈n.Kids,∃k,e.Kids=[k]/\EE B c k):ae ((rM Pu) c n l) (RP c l) dI:=by
 have hlen:l.aB.length<=B:=by rw[ai.cY]at ho;exact ho.2.2.2.2.1.1
 have hpn:=xG hl h6;rw[LR,rN,ai.aH,HY (by omega),aE,aE];have h:=mW (L:=λi (b:List ab×List Bool)=>(lI Pu) c n l b.1 b.2 i) (P:=RP c l) (E:=dI) (len:=n.Kids.length) (λi b=>LW c l b.1 b.2) (λi b hi hI k=>by
   show ae ((lI Pu) c n l b.1 b.2 i) _ _;rw[xf,nn,af.aH,bq];have:decide (i<n.Kids.length)=true:=by simpa using hi
   obtain⟨e,he⟩:=bu hi;obtain⟨kd,hk,hE⟩:=h1 e (br he);rw[this,a6,bw he,aE,sV _ _ (by omega),aE,cw i (by omega)];refine ae.bif (λ_=>eW _ _) (λh2=>?_);obtain⟨j,t,hj,ht,_⟩:=Aw (by simpa using h2);rw[hj];have hjl:j<l.aB.length:=by rw[hpn];exact(cX.1 ht).1
   obtain⟨f,hf⟩:=bu (l:=b.2) (i:=j) (by rw[hI.2.1];exact hjl);obtain⟨x,hx⟩:=bu (l:=b.1) (i:=j) (by rw[hI.1];exact hjl);obtain⟨p,hp⟩:=bu hjl;have hm:=br hp;refine ae.au (fU hf) ?_;refine ae.bif (λ_=>eW _ _) (λ_=>?_);rw[hk];refine ae.au (v:=kd) rfl (ae.au (fU hp) (ae.au (of_eq p) ?_));refine ae.aF (hE (bY p) (.inr (a7.of (hl.part hm) (tm ho hm)))) (λy hy=>?_);refine ae.au (fU hx) (ae.au (fU hf) ?_);rw[iR];refine k (b.1.set j y,b.2.set j true) ⟨by simp[hI.1],by simp[hI.2.1],λq z r h3 h4 h5=>?_⟩;by_cases e:q=j
   ·subst e;simp only at h4;rw[ss (by rw[hI.1];exact hjl)]at h4;cases h4;rw[hp]at h5;cases h5;exact hy.2.2.2
   ·simp only at h3 h4;rw[pV (by omega)]at h3 h4;exact hI.2.2 q z r h3 h4 h5) (λb hI=>by
   show ae ((lI Pu) c n l b.1 b.2 _) _ _;rw[xf,nn,af.aH,bq];have:decide (n.Kids.length<n.Kids.length)=false:=by simp
   rw[this,bl];exact P2 hB hl ho hI) 0 (List.replicate l.aB.length ab.z,List.replicate l.aB.length false) (by omega) ⟨by simp,by simp,λi x p hi _ _=>by
    simp[Nf]at hi⟩
 exact h
