/- The reference of types: equality of descriptions, sorts, open expressions; the relation of an elaboration to the reference's. -/
import Derived.Test.YtnocmolegijmkaaGreatKVa9
set_option linter.all false
namespace Go.Proofs.YtnocmolegijmkaaGreat
open Go Go.Bw
section
variable {B:Nat} (hB:B<=1048576)
include hB
theorem Ho {a b:List (List UInt8)} (ha:a.length<=B):(uT Pu) a b=some (a==b):=Gz hB VR QK ha
theorem Po {a b:ai} (hl:a.aB.length<=B) (h:a.aB.length=b.aB.length) (ih:∀k∈a.aB,∀b,(pD Pu) k b=some (gX k b)):(oI Pu) a b 0=some (iC a.aB b.aB):=by
 rw[mZ (a:=a.aB) (b:=b.aB) (L:=(oI Pu) a b) gX true h ?_ ?_]
 ·rw[AT h,od]
 ·intro i x y hx hy hi;rw[IA,qF,ai.aH,mm (by omega)];have h1:decide ((i:Int)<(a.aB.length:Int))=true:=by simpa using hi
  rw[h1,bw hx,bw hy];show(((pD Pu) x y).bind _)=_;rw[ih x (br hx) y];show(bif !(gX x y)then _ else _)=_;cases gX x y<;>rfl
 ·rw[IA,qF,ai.aH];simp
theorem Pp {a b:ai} {s:Bool} (hl:a.aY.length<=B) (hr:∀x∈a.aY,x.ok B) (h:a.aY.length=b.aY.length) {p:Bool} (hp:(oI Pu) a b 0=some p):(qG Pu) a b s 0=some ((a.aY.zip b.aY).all (λq=>iJ q.1 q.2)&&p):=by
 rw[mZ (a:=a.aY) (b:=b.aY) (L:=(qG Pu) a b s) iJ p h ?_ ?_]
 ·intro i x y hx hy hi;rw[IB,qH,aN.aH,mm (by omega)];have h1:decide ((i:Int)<(a.aY.length:Int))=true:=by simpa using hi
  rw[h1,a6,bw hx,aE,bw hy,aE];simp only[aE];rw[Ho hB (hr x (br hx)).1.1,aE,iJ];cases x.fO==y.fO<;>cases x.If==y.If<;>rfl
 ·rw[IB,qH,aN.aH];simp[hp]
theorem Pq:∀a b:ai,a.ok B->(pD Pu) a b=some (gX a b):=by
 refine ai.ind ?_;intro a ih b ha;rw[ai.cY]at ha;obtain⟨_,_,_,hn,hp,hr⟩:=ha;rw[VS,uU,Ho hB hn.1];have e:gX a b=(a.Kind==b.Kind&&(a.Lo==b.Lo&&(a.Hi==b.Hi&&(a.Names==b.Names&&((a.aY.length==b.aY.length&&(a.aY.zip b.aY).all (λq=>iJ q.1 q.2))&&iC a.aB b.aB))))):=by
  cases a;cases b;rw[gX]
 rw[e,ai.aH,ai.aH,aN.aH,aN.aH];simp only[aE,bne];by_cases h1:a.aB.length=b.aB.length
 ·by_cases h2:a.aY.length=b.aY.length
  ·rw[Pp hB hr.1 hr.2 h2 (Po hB hp.1 h1 λk hk b=>ih k hk b (ai.gO hp.2 hk)),h1,h2];simp only[beq_self_eq_true,Bool.true_and];cases a.Kind==b.Kind<;>cases a.Lo==b.Lo<;>cases a.Hi==b.Hi<;>cases a.Names==b.Names<;>rfl
  ·have h3:((a.aY.length:Int)==(b.aY.length:Int))=false:=by simpa usingλh=>h2 (by omega)
   have h4:(a.aY.length==b.aY.length)=false:=by simpa using h2
   rw[h3,h4];simp only[Bool.false_and,Ni];cases a.Kind==b.Kind<;>cases a.Lo==b.Lo<;>cases a.Hi==b.Hi<;>cases a.Names==b.Names<;>cases ((a.aB.length:Int)==(b.aB.length:Int))<;>rfl
 ·have h3:((a.aB.length:Int)==(b.aB.length:Int))=false:=by simpa usingλh=>h1 (by omega)
  rw[h3,AU h1];simp only[Ni];cases a.Kind==b.Kind<;>cases a.Lo==b.Lo<;>cases a.Hi==b.Hi<;>cases a.Names==b.Names<;>rfl
theorem Pn {a b:ay} (ha:a.aw.ok B):∃r,(zA Pu) a b=some r/\(r=true↔a=b):=by
 rw[XI,vm];cases a with|mk s l=>cases b with|mk s' l'=>
 by_cases h:s=s'
 ·have:(s==s')=true:=by simpa using h
  show∃r,(bif s==s' then _ else _)=some r/\_;rw[this,a6,Pq hB _ _ ha,aE];exact⟨_,rfl,by rw[Bi,h];simp⟩
 ·have:(s==s')=false:=by simpa using h
  show∃r,(bif s==s' then _ else _)=some r/\_;rw[this];exact⟨_,rfl,by constructor;intro e;cases e;intro e;cases e;exact absurd rfl h⟩
end
section
variable {D β γ δ:Type} {Q:D->β->Prop} {Q':γ->δ->Prop}
end
section
variable {B:Nat} (hB:B<=1048576) {c:bm} (hc:CE B c) {γ δ:Type} {Q':γ->δ->Prop}
end
section
variable {B:Nat} (hB:B<=1048576) {c:bm} (hc:CE B c) {γ δ:Type} {Q':γ->δ->Prop}
end
section
variable {B:Nat} (hB:B<=1048576) {c:bm} (hc:CE B c) {γ δ:Type} {Q':γ->δ->Prop}
end
section
variable {B:Nat} (hB:B<=1048576) {c:bm}
end
section
variable {B:Nat} (hB:B<=1048576) {c:bm}
end
section
variable {B:Nat} (hB:B<=1048576) {c:bm} (hc:CE B c)
end
section
variable {B:Nat} (hB:B<=1048576) {c:bm} (hc:CE B c)
def tY:List (List UInt8):=[[102,108,97,103],[110,117,109],[115,101,116],dR,dv,[112,97,105,114],[111,110,101],[119,114,105,116,101],[115,105,122,101],[115,117,109],[110,117,109,98,101,114],[111,110],[107,101,121,115],[118,97,108,117,101,115],[99,111,110,102,108,105,99,116],[115,101,99,111,110,100],[102,105,114,115,116]]
inductive CN:af->Prop
 |mk {n:af}:(n.Kind=51->n.Text∈tY)->(∀k∈iI n,CN k)->CN n
end
section
variable {B:Nat} (hB:B<=1048576) {c:bm}
end
theorem FZ {l:ai} (h:dO l) (h6:l.Kind=6):∀(i j:Nat) t,l.Names[i]? =some t->l.Names[j]? =some t->i=j:=by
 have hN:q7 l:=h.names;have one:∀(i j:Nat) t,l.Names[i]? =some t->l.Names[j]? =some t->¬i<j:=λi j t hi hj hij=>by
  have:=hN.2.2.1 h6 j t hj;rw[Ag]at this;exact this t (br (i:=i) (by rw[Nh hij];exact hi)) (by simp)
 intro i j t hi hj;have h1:=one i j t hi hj;have h2:=one j i t hj hi;omega
section
variable {B:Nat} (hB:B<=1048576) {c:bm} (hc:CE B c)
end
section
variable {B:Nat} (hB:B<=1048576)
include hB
theorem Oq:∀a:ab,TT B a->∀b:ab,b.ok B->(pQ Pu) a b=some (cB a b):=by
 refine ab.ind λa ih ha b hb=>?_;rw[ab.cY]at hb;obtain⟨_,_,_,_,_,hkl,hkk⟩:=hb;have hkids:a.Kids.length=b.Kids.length->(qT Pu) a b 0=some (cB a.Kids b.Kids):=λh=>by
  rw[mZ (a:=a.Kids) (b:=b.Kids) (L:=(qT Pu) a b) cB true h ?_ ?_]
  ·rw[od,BE h]
  ·intro i x y hx hy hi;rw[Jv,qU,ab.aH,mm (by omega)];have h1:decide ((i:Int)<(a.Kids.length:Int))=true:=by simpa using hi
   rw[h1,bw hx,bw hy];show(((pQ Pu) x y).bind _)=_;rw[ih x (br hx) (ha.fT (br hx)) y (ab.gO hkk (br hy))];show(bif !(cB x y)then _ else _)=_;cases cB x y<;>rfl
  ·rw[Jv,qU,ab.aH];simp
 obtain⟨r,e1,hr⟩:=Pn (b:=b.aq) hB ha.ty.ok;have e2:r=cB a.aq b.aq:=lQ hr;rw[XJ,vn,e1,e2,ab.aH,ab.aH];have e:cB a b=(a.Op==b.Op&&(cB a.aq b.aq&&(a.N==b.N&&(a.Text==b.Text&&(a.At==b.At&&cB a.Kids b.Kids))))):=by
  symm;apply lQ;cases a;cases b;simp only[bj,beq_iff_eq,mq,ab.mk.injEq]
 rw[e];simp only[aE,bne];by_cases h:a.Kids.length=b.Kids.length
 ·have h0:((a.Kids.length:Int)==(b.Kids.length:Int))=true:=by simp[h]
  rw[hkids h,h0];generalize (a.Op==b.Op)=c1;generalize cB a.aq b.aq=c2;generalize (a.N==b.N)=c3;generalize (a.Text==b.Text)=c4;generalize (a.At==b.At)=c5;cases c1<;>cases c2<;>cases c3<;>cases c4<;>cases c5<;>rfl
 ·have h0:((a.Kids.length:Int)==(b.Kids.length:Int))=false:=by simpa usingλe=>h (by omega)
  have h2:cB a.Kids b.Kids=false:=by
   rw[<-Nb,mq];intro e;exact h (congrArg List.length e)
  rw[h0,h2];generalize (a.Op==b.Op)=c1;generalize cB a.aq b.aq=c2;generalize (a.N==b.N)=c3;generalize (a.Text==b.Text)=c4;generalize (a.At==b.At)=c5;cases c1<;>cases c2<;>cases c3<;>cases c4<;>cases c5<;>rfl
end
inductive eF:ab->Prop
 |c {y:ab}:(y.Op=6\/(21<=y.Op/\y.Op<=27))->eF y
 |j {t:ay} {n:Int} {s:List UInt8} {a:Int} {x y:ab}:eF x->eF y->eF ⟨16,t,n,s,a,[x,y]⟩
 |i {t:ay} {n:Int} {s:List UInt8} {a:Int} {c x y:ab}:eF x->eF y->eF ⟨7,t,n,s,a,[c,x,y]⟩
theorem iT {w:ay} (h:isNone w=true):w.aL=0/\w.aw.Kind=0:=by
 unfold isNone at h;simpa using h
theorem W.closed {l:ai} {ps:List TParam} {y:ab} {w:ay} (h:W l ps y w):isNone w=true->¬eF y:=by
 have z:isNone (aK 0)=true:=rfl
 induction h with
 |iq _ hn=>intro h;rw[hn]at h;cases h
 |iH hn=>intro h;rw[hn]at h;cases h
 |jb hn=>intro h;rw[hn]at h;cases h
 |ku _ _ _ _ _ i2 _=>intro _ ho;cases ho with|c h=>(simp at h)|i h1 h2=>exact i2 z h1
 |kv _ _ _ _ _ i2 _=>intro _ ho;cases ho with|c h=>(simp at h)|i h1 h2=>exact i2 z h2
 |kj _ _ _ _ i1 _=>intro _ ho;cases ho with|c h=>(simp at h)|j h1 h2=>exact i1 z h1
 |km _ _ _ _ i1 _=>intro _ ho;cases ho with|c h=>(simp at h)|j h1 h2=>exact i1 z h2
 |flag _ hk=>intro h;have:=(iT h).2;omega
 |num _ hk=>intro h;have:=(iT h).2;omega
 |gW _ hk=>intro h;have:=(iT h).2;omega
 |map _ hk=>intro h;have:=(iT h).2;omega
 |gG _ hk=>intro h;have:=(iT h).2;omega
 |pair _ hk=>intro h;have:=(iT h).2;omega
 |one _ hk=>intro h;have:=(iT h).2;omega
 |conn ho=>intro _ h;cases h with|c h=>(simp at h;omega)|j=>omega
 |less ho=>intro _ h;cases h with|c h=>(simp at h;omega)|j=>omega
 |ji ho=>intro _ h;cases h with|c h=>(simp at h;omega)|j=>omega
 |kE hm=>intro _ h;cases h with|c h=>(simp at h hm;omega)
 |part ho=>intro _ h;cases h with|c h=>(simp at h;omega)
 |_=>intro _ h;cases h with|c h=>simp at h
theorem W.nV {l:ai} {ps:List TParam} {x:ab} {w:ay} (h:W l ps x w) (hn:isNone w=false):w=x.aq:=by
 cases h
 all_goals first
  |rfl
  |(rename_i hf;exact hf hn)
  |(exfalso;simp_all;done)
theorem W.free {l:ai} {ps:List TParam} {y:ab} {w:ay} (h:W l ps y w):¬eF y->W l ps y (aK 0):=by
 have z:isNone (aK 0)=true:=rfl
 induction h with
 |int h1 h2 _=>exactλ_=> .int h1 h2 fv
 |bool h1 _=>exactλ_=> .bool h1 fv
 |name h1 _=>exactλ_=> .name h1 fv
 |param h1 _=>exactλ_=> .param h1 fv
 |state _=>exactλ_=> .state fv
 |iq=>exactλh=>absurd (.c (.inl rfl)) h
 | @iH c x y a w hn hc hx hy _ ix iy=>
  intro ho;have ex:=hx.nV hn;have ey:=hy.nV hn;by_cases h1:eF x
  ·have h2:¬eF y:=λh2=>ho (.i h1 h2);have:W l ps ⟨7,x.aq,0,[],a,[c,x,y]⟩ (aK 0):= .kv z hc (iy h2) (by rw[<-ey];exact hx);rw[<-ex]at this;exact this
  ·have:W l ps ⟨7,x.aq,0,[],a,[c,x,y]⟩ (aK 0):= .ku z hc (ix h1) (by rw[<-ex];exact hy);rw[<-ex]at this;exact this
 |ku _ h1 h2 h3=>exactλ_=> .ku z h1 h2 h3
 |kv _ h1 h2 h3=>exactλ_=> .kv z h1 h2 h3
 |conn ho h1 h2 _=>exactλ_=> .conn ho h1 h2 fv
 |not h1 _=>exactλ_=> .not h1 fv
 |less ho h1 h2 _=>exactλ_=> .less ho h1 h2 fv
 |equal h1 h2 h3 _=>exactλ_=> .equal h1 h2 h3 fv
 |k7 h1 h2 _=>exactλ_=> .k7 h1 h2 fv
 |k8 h1 h2 h3 _=>exactλ_=> .k8 h1 h2 h3 fv
 |k9 h1 h2 h3 _=>exactλ_=> .k9 h1 h2 h3 fv
 | @jb x y a w hn hs hx hy ix iy=>
  intro ho;have ex:=hx.nV hn;have ey:=hy.nV hn;by_cases h1:eF x
  ·have h2:¬eF y:=λh2=>ho (.j h1 h2);have:W l ps ⟨16,x.aq,0,[],a,[x,y]⟩ (aK 0):= .km z (iy h2) (by rw[<-ey];exact hs) (by rw[<-ey];exact hx);rw[<-ex]at this;exact this
  ·have:W l ps ⟨16,x.aq,0,[],a,[x,y]⟩ (aK 0):= .kj z (ix h1) (by rw[<-ex];exact hs) (by rw[<-ex];exact hy);rw[<-ex]at this;exact this
 |kj _ h1 h2 h3=>exactλ_=> .kj z h1 h2 h3
 |km _ h1 h2 h3=>exactλ_=> .km z h1 h2 h3
 |ji ho h1 h2 _=>exactλ_=> .ji ho h1 h2 fv
 |field h1 h2 h3 h4 h5 _=>exactλ_=> .field h1 h2 h3 h4 h5 fv
 |at_ h1 h2 h3 h4 h5 _=>exactλ_=> .at_ h1 h2 h3 h4 h5 fv
 |write h1 h2 h3 _=>exactλ_=> .write h1 h2 h3 fv
 |size h1 h2 _=>exactλ_=> .size h1 h2 fv
 |sum h1 h2 h3 h4 h5 _=>exactλ_=> .sum h1 h2 h3 h4 h5 fv
 |kE hm h1 h2 h3 _=>exactλ_=> .kE hm h1 h2 h3 fv
 |part ho h1 h2 h3 h4 _=>exactλ_=> .part ho h1 h2 h3 h4 fv
 |_=>exactλh=>absurd (.c (.inr (by simp))) h
def dS:List (Int×Int):=[(8,31),(9,32),(11,34),(12,35),(13,36),(14,37),(15,38),(16,39),(17,40),(18,41),(20,43)]
def eg:List (Int×List UInt8):=[(21,[102,108,97,103]),(22,[110,117,109]),(27,[111,110,101]),(29,[115,105,122,101]),(30,[115,117,109]),(31,[110,117,109,98,101,114]),(32,[111,110]),(33,[107,101,121,115]),(34,[118,97,108,117,101,115]),(35,[102,105,114,115,116]),(36,[115,101,99,111,110,100]),(37,[99,111,110,102,108,105,99,116])]
def uX:List UInt8:=[115,101,116]
def xU:List UInt8:=[112,97,105,114]
def xI:List UInt8:=[119,114,105,116,101]
def eD (e:List UInt8×Int×af×af):af:=⟨52,e.1,0,e.2.1,[e.2.2.1,e.2.2.2]⟩
def ep (ns:List (List UInt8)) (e:Nat×Int×af):af:=⟨52,(ns[e.1]?).getD [],0,e.2.1,[e.2.2]⟩
inductive Br (ps:List TParam):ab->af->Prop
 |int {t:ay} {k a:Int}:Br ps ⟨1,t,k,[],a,[]⟩ ⟨44,[],k,a,[]⟩
 |tr {t:ay} {a:Int}:Br ps ⟨2,t,1,[],a,[]⟩ ⟨45,[],0,a,[]⟩
 |fl {t:ay} {a:Int}:Br ps ⟨2,t,0,[],a,[]⟩ ⟨46,[],0,a,[]⟩
 |name {t:ay} {s:List UInt8} {a:Int}:Br ps ⟨3,t,0,s,a,[]⟩ ⟨47,s,0,a,[]⟩
 |param {t:ay} {i:Nat} {p:TParam} {a:Int}:ps[i]? =some p->Br ps ⟨4,t,i,[],a,[]⟩ ⟨48,p.Name,0,a,[]⟩
 |state {t:ay} {a:Int}:Br ps ⟨5,t,0,[],a,[]⟩ ⟨49,[],0,a,[]⟩
 |iq {t:ay} {a:Int}:Br ps ⟨6,t,0,[],a,[]⟩ ⟨50,[],0,a,[]⟩
 |ite {t:ay} {a:Int} {c x y:ab} {c' x' y':af}:Br ps c c'->Br ps x x'->Br ps y y'->Br ps ⟨7,t,0,[],a,[c,x,y]⟩ ⟨30,[],0,a,[c',x',y']⟩
 |two {op kd:Int} {t:ay} {a:Int} {x y:ab} {x' y':af}:(op,kd)∈dS->Br ps x x'->Br ps y y'->Br ps ⟨op,t,0,[],a,[x,y]⟩ ⟨kd,[],0,a,[x',y']⟩
 |not {t:ay} {a:Int} {x:ab} {x':af}:Br ps x x'->Br ps ⟨10,t,0,[],a,[x]⟩ ⟨33,[],0,a,[x']⟩
 |field {t:ay} {a:Int} {i:Nat} {s:List UInt8} {x:ab} {x':af}:x.aq.aw.Names[i]? =some s->Br ps x x'->Br ps ⟨19,t,i,[],a,[x]⟩ ⟨42,s,0,a,[x']⟩
 |jO {op:Int} {s:List UInt8} {t:ay} {a:Int} {x:ab} {x':af}:(op,s)∈eg->Br ps x x'->Br ps ⟨op,t,0,[],a,[x]⟩ ⟨51,s,0,a,[x']⟩
 |pair {t:ay} {a:Int} {x y:ab} {x' y':af}:Br ps x x'->Br ps y y'->Br ps ⟨26,t,0,[],a,[x,y]⟩ ⟨51,xU,0,a,[x',y']⟩
 |write {t:ay} {a:Int} {x y z:ab} {x' y' z':af}:Br ps x x'->Br ps y y'->Br ps z z'->Br ps ⟨28,t,0,[],a,[x,y,z]⟩ ⟨51,xI,0,a,[x',y',z']⟩
 |gW {t:ay} {a:Int} {kids:List ab} {ks:List af}:kids.length=ks.length->(∀(i:Nat) k k',kids[i]? =some k->ks[i]? =some k'->Br ps k k')->Br ps ⟨23,t,0,[],a,kids⟩ ⟨51,uX,0,a,ks⟩
 |map {t:ay} {a:Int} {kids:List ab} {qs:List (ab×ab)} {es:List (List UInt8×Int×af×af)}:(kids=qs.flatMap λq=>[q.1,q.2])->qs.length=es.length->(∀(i:Nat) q e,qs[i]? =some q->es[i]? =some e->Br ps q.1 e.2.2.1)->(∀(i:Nat) q e,qs[i]? =some q->es[i]? =some e->Br ps q.2 e.2.2.2)->Br ps ⟨24,t,0,[],a,kids⟩ ⟨51,dR,0,a,es.map eD⟩
 |gG {t:ay} {a:Int} {kids:List ab} {es:List (Nat×Int×af)}:t.aw.Names.length=kids.length->es.length<=kids.length->(∀(i j:Nat) e e',es[i]? =some e->es[j]? =some e'->e.1=e'.1->i=j)->(∀e∈es,e.1<kids.length)->(∀(e:Nat×Int×af) k,e∈es->kids[e.1]? =some k->Br ps k e.2.2)->(∀(j:Nat) k,kids[j]? =some k->(∃e∈es,e.1=j)\/(k.Op=6/\k.At=a))->Br ps ⟨25,t,0,[],a,kids⟩ ⟨51,dv,0,a,es.map (ep t.aw.Names)⟩
theorem Hn {D:Type}:∀{l m:List (D×D)},(l.flatMap λq=>[q.1,q.2])=(m.flatMap λq=>[q.1,q.2])->l=m
 |[],[],_=>rfl
 |[],_::_,h=>by simp at h
 |_::_,[],h=>by simp at h
 |p::l,q::m,h=>by
  simp only[vu,iO,vz,jV]at h;obtain⟨h1,h2,h3⟩:=h;rw[Hn h3,Prod.ext h1 h2]
theorem I2 {ps:List TParam}:∀(y:ab) (n:af),Br ps y n->ah ((l5 Pu) n) (λb=>b=true↔eF y):=by
 refine ab.ind λy ih n hb=>?_;have no:∀{y:ab},¬eF y->ah (some false) (λb=>b=true↔eF y):=λh=>ah.ret ⟨λe=>(by cases e),λe=>absurd e h⟩;have yes:∀{y:ab},eF y->ah (some true) (λb=>b=true↔eF y):=λh=>ah.ret ⟨λ_=>h,λ_=>rfl⟩;have cl:∀{op:Int} {t:ay} {k a:Int} {s:List UInt8} {ks:List ab},op≠6->¬(21<=op/\op<=27)->op≠16->op≠7->¬eF ⟨op,t,k,s,a,ks⟩:=by
  intro op t k a s ks h1 h2 h3 h4 h;cases h with
  |c h=>rcases h with h|h;exact h1 h;exact h2 h
  |j=>exact h3 rfl
  |i=>exact h4 rfl
 rw[LP,rH];cases hb with
 |iq=>exact yes (.c (.inl rfl))
 |ite h1 h2 h3=>
  simp only[Int.reduceBEq,a6,bl];refine ah.au rfl (ah.bind (ih _ (by simp) _ h2) (λb hb=>ah.bif (λh=>?_) (λh=>no λe=>?_)))
  ·refine ah.au rfl (ah.bind (ih _ (by simp) _ h3) (λb2 hb2=>ah.ret ⟨λe=> .i (hb.1 h) (hb2.1 e),λe=>?_⟩));cases e with
   |c h=>simp at h
   |i _ h=>exact hb2.2 h
  ·cases e with
   |c h=>simp at h
   |i h' _=>rw[hb.2 h']at h;cases h
 |two hm h1 h2=>
  simp only[dS,cu,jY,or_false,bZ]at hm;rcases hm with⟨rfl,rfl⟩|⟨rfl,rfl⟩|⟨rfl,rfl⟩|⟨rfl,rfl⟩|⟨rfl,rfl⟩|⟨rfl,rfl⟩|⟨rfl,rfl⟩|⟨rfl,rfl⟩|⟨rfl,rfl⟩|⟨rfl,rfl⟩|⟨rfl,rfl⟩
  all_goals simp only[Int.reduceBEq,a6,bl]
  all_goals first|exact no (cl (by decide) (by decide) (by decide) (by decide))|skip
  refine ah.au rfl (ah.bind (ih _ (by simp) _ h1) (λb hb=>ah.bif (λh=>?_) (λh=>no λe=>?_)))
  ·refine ah.au rfl (ah.bind (ih _ (by simp) _ h2) (λb2 hb2=>ah.ret ⟨λe=> .j (hb.1 h) (hb2.1 e),λe=>?_⟩));cases e with
   |c h=>simp at h
   |j _ h=>exact hb2.2 h
  ·cases e with
   |c h=>simp at h
   |j h' _=>rw[hb.2 h']at h;cases h
 |jO hm h1=>
  simp only[eg,cu,jY,or_false,bZ]at hm;rcases hm with⟨rfl,rfl⟩|⟨rfl,rfl⟩|⟨rfl,rfl⟩|⟨rfl,rfl⟩|⟨rfl,rfl⟩|⟨rfl,rfl⟩|⟨rfl,rfl⟩|⟨rfl,rfl⟩|⟨rfl,rfl⟩|⟨rfl,rfl⟩|⟨rfl,rfl⟩|⟨rfl,rfl⟩
  all_goals first|exact yes (.c (.inr (by simp)))|exact no (cl (by decide) (by decide) (by decide) (by decide))
 |pair=>exact yes (.c (.inr (by simp)))
 |gW=>exact yes (.c (.inr (by simp)))
 |map=>exact yes (.c (.inr (by simp)))
 |gG=>exact yes (.c (.inr (by simp)))
 |_=>exact no (cl (by decide) (by decide) (by decide) (by decide))
theorem W.own {B:Nat} {l:ai} {ps:List TParam} {y:ab} {w:ay} (h:W l ps y w):isNone w=true->TT B y->W l ps y y.aq:=by
 have z:isNone (aK 0)=true:=rfl;have ff:∀t:ay,Fit t t:=λ_ _=>rfl
 induction h with
 |int h1 h2 _=>exactλ_ _=> .int h1 h2 (ff _)
 |bool h1 _=>exactλ_ _=> .bool h1 (ff _)
 |name h1 _=>exactλ_ _=> .name h1 (ff _)
 |param h1 _=>exactλ_ _=> .param h1 (ff _)
 |state _=>exactλ_ _=> .state (ff _)
 |iq _ hn=>intro h;rw[hn]at h;cases h
 |iH hn=>intro h;rw[hn]at h;cases h
 |jb hn=>intro h;rw[hn]at h;cases h
 | @ku c x y a w _ hc hx hy _ ix _=>exactλ_ ht=> .iH ht.ty.fJ hc (ix z (ht.fT (by simp))) hy
 | @kv c x y a w _ hc hy hx _ iy _=>
  intro _ ht;have e:=hx.nV (ht.fT (k:=y) (by simp)).ty.fJ;exact .iH ht.ty.fJ hc (by show W l ps x x.aq;rw[<-e];exact hx) (by show W l ps y x.aq;rw[<-e];exact iy z (ht.fT (by simp)))
 |conn ho h1 h2 _=>exactλ_ _=> .conn ho h1 h2 (ff _)
 |not h1 _=>exactλ_ _=> .not h1 (ff _)
 |less ho h1 h2 _=>exactλ_ _=> .less ho h1 h2 (ff _)
 |equal h1 h2 h3 _=>exactλ_ _=> .equal h1 h2 h3 (ff _)
 |k7 h1 h2 _=>exactλ_ _=> .k7 h1 h2 (ff _)
 |k8 h1 h2 h3 _=>exactλ_ _=> .k8 h1 h2 h3 (ff _)
 |k9 h1 h2 h3 _=>exactλ_ _=> .k9 h1 h2 h3 (ff _)
 | @kj x y a w _ hx hs hy ix _=>exactλ_ ht=> .jb ht.ty.fJ hs (ix z (ht.fT (by simp))) hy
 | @km x y a w _ hy hs hx iy _=>
  intro _ ht;have e:=hx.nV (ht.fT (k:=y) (by simp)).ty.fJ;exact .jb ht.ty.fJ (by show x.aq.aL=0;rw[<-e];exact hs) (by show W l ps x x.aq;rw[<-e];exact hx) (by show W l ps y x.aq;rw[<-e];exact iy z (ht.fT (by simp)))
 |ji ho h1 h2 _=>exactλ_ _=> .ji ho h1 h2 (ff _)
 |field h1 h2 h3 h4 h5 _=>exactλ_ _=> .field h1 h2 h3 h4 h5 (ff _)
 |at_ h1 h2 h3 h4 h5 _=>exactλ_ _=> .at_ h1 h2 h3 h4 h5 (ff _)
 |write h1 h2 h3 _=>exactλ_ _=> .write h1 h2 h3 (ff _)
 |size h1 h2 _=>exactλ_ _=> .size h1 h2 (ff _)
 |sum h1 h2 h3 h4 h5 _=>exactλ_ _=> .sum h1 h2 h3 h4 h5 (ff _)
 |kE hm h1 h2 h3 _=>exactλ_ _=> .kE hm h1 h2 h3 (ff _)
 |part ho h1 h2 h3 h4 _=>exactλ_ _=> .part ho h1 h2 h3 h4 (ff _)
 |flag _ hk=>intro h;have:=(iT h).2;omega
 |num _ hk=>intro h;have:=(iT h).2;omega
 |gW _ hk=>intro h;have:=(iT h).2;omega
 |map _ hk=>intro h;have:=(iT h).2;omega
 |gG _ hk=>intro h;have:=(iT h).2;omega
 |pair _ hk=>intro h;have:=(iT h).2;omega
 |one _ hk=>intro h;have:=(iT h).2;omega
def cC:AV->Prop:=λ_=>False
def El (c:bm) (n:af) (w:ay) (y:ab):Prop:=ae ((cn Pu) c n w) (·=y) cC
def Ea (c:bm) (n:af) (w:ay) (y:ab):Prop:=ae ((nS Pu) c n w) (·=⟨y.Op,y.aq,y.N,y.Text,0,y.Kids⟩) cC
theorem dn {D:Type} {c:bm} {n:af} {w:ay} {y:ab} {f:ab->Option (aU D)} {Q:D->Prop} (h:El c n w y) (g:ae (f y) Q cC):ae (Bw.aF ((cn Pu) c n w) f) Q cC:=ae.aF h λy' e=>by
 have e:y'=y:=e;rw[e];exact g
theorem El.eq {c : bm} {n : af} {w : ay} {y : ab} (h : El c n w y) : (cn Pu) c n w = some (.ret y) := by
  obtain ⟨r, e, h⟩ := h
  cases r with
  | ret x => have h : x = y := h
             rw [e, h]
  | aJ z => exact h.elim
section
variable {B:Nat} (hB:B<=1048576) {c:bm}
include hB
theorem dt {n:af} {w:ay} {y:ab} (hw:cS B w) (hy:a7 B y.aq) (hat:n.At=y.At) (hf:Fit w y.aq) (h:Ea c n w y):El c n w y:=by
 unfold El;rw[MM,r9];refine ae.aF h (λy' e=>?_);subst e;refine ae.au (wh hB _ hy.ok) (ae.au (jD w) ?_);have fin:(⟨y.Op,y.aq,y.N,y.Text,n.At,y.Kids⟩:ab)=y:=by rw[hat];cases y;rfl
 refine ae.bif (λh=>?_) (λh=>?_)
 ·refine ae.bind (wL hB hw.ok) (λb hb=>?_);have hn:isNone w=false:=by simpa using h
  have:b=true:=hb.2 (hf hn);rw[this];exact ae.ret fin
 ·exact ae.ret fin
omit hB in
theorem I1 {n x z:af} {a b t:ay} {op:Int} {u v:ab} (hn:n.Kids=[x,z]) (hx:El c x a u) (hz:El c z b v):ae ((iF Pu) c op n a b t) (·=⟨op,t,0,[],0,[u,v]⟩) cC:=by
 rw[LQ,rI,hn];refine ae.au (v:=x) rfl (dn hx ?_);refine ae.au (v:=z) rfl (dn hz ?_);exact ae.ret rfl
def TC (c:bm) (x z:af) (u v:ab) (lt:Bool):Prop:=
 (¬eF u/\El c x (aK 0) u/\El c z u.aq v/\(lt=true->u.aq.aL=0))\/(eF u/\¬eF v/\El c z (aK 0) v/\El c x v.aq u/\(lt=true->v.aq.aL=0))
omit hB in
theorem qc {n x z:af} {lt:Bool} {u v:ab} (hx:Br c.params u x) (hz:Br c.params v z) (h:TC c x z u v lt):ae ((pC Pu) c n x z lt) (·=(u,v)) cC:=by
 rw[LV,rQ];have lts:∀{t:ay},(lt=true->t.aL=0)->lt=true->(t.aL !=0)=true->False:=λh e h2=>by simp[h e]at h2
 refine ae.bind (I2 _ _ hx) (λo ho=>?_);refine ae.bif (λe=>?_) (λe=>?_)
 ·rcases h with⟨h1,_⟩|⟨h1,h2,h3,h4,h5⟩
  ·exact absurd (ho.1 e) h1
  refine ae.bind (I2 _ _ hz) (λo2 ho2=>?_);refine ae.bif (λe2=>absurd (ho2.1 e2) h2) (λ_=>?_);refine dn h3 ?_;refine ae.bif (λhl=>?_) (λ_=>dn h4 (ae.ret rfl));exact ae.bif (λhs=>(lts h5 hl hs).elim) (λ_=>dn h4 (ae.ret rfl))
 ·rcases h with⟨h1,h3,h4,h5⟩|⟨h1,_⟩
  ·refine dn h3 ?_;refine ae.bif (λhl=>?_) (λ_=>dn h4 (ae.ret rfl));exact ae.bif (λhs=>(lts h5 hl hs).elim) (λ_=>dn h4 (ae.ret rfl))
  ·rw[ho.2 h1]at e;cases e
omit hB in
theorem AH {n x:af} {ks:List Int} {u:ab} (hk:ks.length<9223372036854775807) (hx:El c x (aK 0) u) (hs:u.aq.aL=0) (hm:u.aq.aw.Kind∈ks):ae ((mE Pu) c n x ks) (·=u) cC:=by
 rw[LU,rP];refine dn hx ?_;refine ae.bif (λh=>by simp[hs]at h) (λ_=>?_);refine ae.au (qI ks _ hk) ?_;refine ae.bif (λh=>?_) (λ_=>ae.ret rfl);have:(ks.any λy=>u.aq.aw.Kind==y)=true:=vD.2 ⟨_,hm,by simp⟩;rw[this]at h;cases h
omit hB in
theorem BJ {D:Type} {n x:af} {ks:List Int} {u:ab} {f:ab->Option (aU D)} {Q:D->Prop} (h:ae ((mE Pu) c n x ks) (·=u) cC) (g:ae (f u) Q cC):ae (Bw.aF ((mE Pu) c n x ks) f) Q cC:=ae.aF h λy' e=>by
 have e:y'=u:=e;rw[e];exact g
variable (hc:CE B c) (hd:∀(i j:Nat) p q,c.params[i]? =some p->c.params[j]? =some q->p.Name=q.Name->i=j)
def IH (B:Nat) (c:bm) (k:ab):Prop:=∀w n,cS B w->W c.l c.params k w->Br c.params k n->El c n w k
omit hB in
include hc in
theorem rp {x z:af} {u v:ab} {lt:Bool} (iu:IH B c u) (iv:IH B c v) (hx:Br c.params u x) (hz:Br c.params v z)
  (h:(W c.l c.params u (aK 0)/\W c.l c.params v u.aq/\(lt=true->u.aq.aL=0))\/(W c.l c.params v (aK 0)/\W c.l c.params u v.aq/\(lt=true->v.aq.aL=0))):TC c x z u v lt:=by
 have z0:isNone (aK 0)=true:=rfl;rcases h with⟨h1,h2,h3⟩|⟨h1,h2,h3⟩
 ·exact .inl ⟨h1.closed z0,iu _ _ (.inl rfl) h1 hx,iv _ _ (.inr (W.tt hc h1 (.inl rfl)).ty) h2 hz,h3⟩
 ·have tv:=W.tt hc h1 (.inl rfl);have tu:=W.tt hc h2 (.inr tv.ty);by_cases ho:eF u
  ·exact .inr ⟨ho,h1.closed z0,iv _ _ (.inl rfl) h1 hz,iu _ _ (.inr tv.ty) h2 hx,h3⟩
  ·have e:=h2.nV tv.ty.fJ;exact .inl ⟨ho,iu _ _ (.inl rfl) (h2.free ho) hx,iv _ _ (.inr tu.ty) (by rw[<-e];exact h1.own z0 tv) hz,by rw[<-e];exact h3⟩
omit hB in
theorem Sd {n x z:af} {w a b t:ay} {op:Int} {u v:ab} (hn:n.Kids=[x,z]) (hx:El c x a u) (hz:El c z b v) (h:(nS Pu) c n w=Bw.aF ((iF Pu) c op n a b t) λy=>some (.ret y)) {a':Int}:Ea c n w ⟨op,t,0,[],a',[u,v]⟩:=by
 unfold Ea;rw[h];exact ae.aF (I1 hn hx hz) λy e=>ae.ret e
end
section
variable {B:Nat} (hB:B<=1048576) {c:bm} (hc:CE B c) (hd:∀(i j:Nat) p q,c.params[i]? =some p->c.params[j]? =some q->p.Name=q.Name->i=j)
theorem ww (n:Int) (h:1<=n/\n<=4:=by decide):cS B (aK n):= .inr (a7.sort h)
theorem Sc {D:Type} {P:D->Prop} {x y:D} (h:∀k∈[x,y],P k):P x/\P y:=⟨h x (by simp),h y (by simp)⟩
include hB hc in
theorem kS {op kd a:Int} {t w:ay} {x y:ab} {x' y':af} (hw:cS B w) (hW:W c.l c.params ⟨op,t,0,[],a,[x,y]⟩ w) (hm:(op,kd)∈dS) (ih:∀k∈[x,y],IH B c k) (bx:Br c.params x x') (by':Br c.params y y'):El c ⟨kd,[],0,a,[x',y']⟩ w ⟨op,t,0,[],a,[x,y]⟩:=by
 obtain⟨ix,iy⟩:=Sc ih;have htt:=W.tt hc hW hw;have z0:isNone (aK 0)=true:=rfl;have el:Fit w t->Ea c ⟨kd,[],0,a,[x',y']⟩ w ⟨op,t,0,[],a,[x,y]⟩->El c ⟨kd,[],0,a,[x',y']⟩ w ⟨op,t,0,[],a,[x,y]⟩:=λhf h=>dt hB hw htt.ty rfl hf h;simp only[dS,cu,jY,or_false,bZ]at hm;have two:∀{t:ay} {u v:ay} {op':Int},El c x' u x->El c y' v y->(nS Pu) c ⟨kd,[],0,a,[x',y']⟩ w=Bw.aF ((iF Pu) c op' ⟨kd,[],0,a,[x',y']⟩ u v t) (λy=>some (.ret y))->Ea c ⟨kd,[],0,a,[x',y']⟩ w ⟨op',t,0,[],a,[x,y]⟩:=λh1 h2 h=>Sd rfl h1 h2 h;obtain⟨kids,hk⟩:∃kids,[x,y]=kids:=⟨_,rfl⟩;have hW:W c.l c.params ⟨op,t,0,[],a,kids⟩ w:=by rw[<-hk];exact hW
 cases hW with
 |conn ho h1 h2 hf=>
  cases hk;rcases hm with⟨rfl,rfl⟩|⟨rfl,rfl⟩|⟨rfl,rfl⟩|⟨rfl,rfl⟩|⟨rfl,rfl⟩|⟨rfl,rfl⟩|⟨rfl,rfl⟩|⟨rfl,rfl⟩|⟨rfl,rfl⟩|⟨rfl,rfl⟩|⟨rfl,rfl⟩
  all_goals first
   |(exfalso;revert ho;decide)
   |exact el hf (two (ix _ _ (ww 2) h1 bx) (iy _ _ (ww 2) h2 by') (by rw[ef,dC];simp only[bz,aE,Int.reduceBEq,a6,bl]))
 |less ho h1 h2 hf=>
  cases hk;rcases hm with⟨rfl,rfl⟩|⟨rfl,rfl⟩|⟨rfl,rfl⟩|⟨rfl,rfl⟩|⟨rfl,rfl⟩|⟨rfl,rfl⟩|⟨rfl,rfl⟩|⟨rfl,rfl⟩|⟨rfl,rfl⟩|⟨rfl,rfl⟩|⟨rfl,rfl⟩
  all_goals first
   |(exfalso;revert ho;decide)
   |exact el hf (two (ix _ _ (ww 1) h1 bx) (iy _ _ (ww 1) h2 by') (by rw[ef,dC];simp only[bz,aE,Int.reduceBEq,a6,bl]))
 |ji ho h1 h2 hf=>
  cases hk;rcases hm with⟨rfl,rfl⟩|⟨rfl,rfl⟩|⟨rfl,rfl⟩|⟨rfl,rfl⟩|⟨rfl,rfl⟩|⟨rfl,rfl⟩|⟨rfl,rfl⟩|⟨rfl,rfl⟩|⟨rfl,rfl⟩|⟨rfl,rfl⟩|⟨rfl,rfl⟩
  all_goals first
   |(exfalso;revert ho;decide)
   |exact el hf (two (ix _ _ (ww 1) h1 bx) (iy _ _ (ww 1) h2 by') (by rw[ef,dC];simp only[bz,aE,Int.reduceBEq,a6,bl]))
 |k7 h1 h2 hf=>
  cases hk;have hk:kd=37:=by omega
  subst hk;exact el hf (two (ix _ _ (ww 3) h1 bx) (iy _ _ (ww 4) h2 by') (by rw[ef,dC];simp only[bz,aE,Int.reduceBEq,a6,bl]))
 |equal h1 hs h2 hf=>
  cases hk;have hk:kd=36:=by omega
  subst hk;refine el hf ?_;unfold Ea;rw[ef,dC,kq,gV];simp only[bz,aE,Int.reduceBEq,a6,bl];refine ae.aF (P:=(·=⟨13,aK 2,0,[],0,[x,y]⟩)) ?_ (λ_ e=>ae.ret e);refine ae.au (v:=x') rfl (dn (ix _ _ (.inl rfl) h1 bx) ?_);refine ae.bif (λh=>absurd (by simpa using h) hs) (λ_=>?_);refine ae.au (v:=y') rfl (dn (iy _ _ (.inr (htt.fT (k:=x) (by simp)).ty) h2 by') ?_);exact ae.ret rfl
 |k8 h1 hs h2 hf=>
  cases hk;have hk:kd=38:=by omega
  subst hk;refine el hf ?_;unfold Ea;rw[ef,dC,kq,gV];simp only[bz,aE,Int.reduceBEq,a6,bl];refine ae.aF (P:=(·=⟨15,aK 2,0,[],0,[x,y]⟩)) ?_ (λ_ e=>ae.ret e);refine ae.au (v:=x') rfl (ae.au (v:=y') rfl ?_);refine ae.aF (qc bx by' (rp hc ix iy bx by' (.inl ⟨h1,h2,λ_=>hs⟩))) (λr e=>?_);have e:r=(x,y):=e;subst e;exact ae.ret rfl
 |k9 h1 hs h2 hf=>
  cases hk;have hk:kd=38:=by omega
  subst hk;refine el hf ?_;unfold Ea;rw[ef,dC,kq,gV];simp only[bz,aE,Int.reduceBEq,a6,bl];refine ae.aF (P:=(·=⟨15,aK 2,0,[],0,[x,y]⟩)) ?_ (λ_ e=>ae.ret e);refine ae.au (v:=x') rfl (ae.au (v:=y') rfl ?_);refine ae.aF (qc bx by' (rp hc ix iy bx by' (.inr ⟨h1,h2,λ_=>hs⟩))) (λr e=>?_);have e:r=(x,y):=e;subst e;exact ae.ret rfl
 |jb hn hs h1 h2=>
  cases hk;have hk:kd=39:=by omega
  subst hk;refine el (λ_=>rfl) ?_;unfold Ea;rw[ef,dC,kq,gV];simp only[bz,jD,hn,aE,Int.reduceBEq,a6,bl,vx];refine ae.aF (P:=(·=⟨16,t,0,[],0,[x,y]⟩)) ?_ (λ_ e=>ae.ret e);refine ae.bif (λh=>by simp[hs]at h) (λ_=>?_);exact ae.aF (I1 rfl (ix _ _ hw h1 bx) (iy _ _ hw h2 by')) (λ_ e=>ae.ret e)
 |kj hn h1 hs h2=>
  cases hk;have hk:kd=39:=by omega
  subst hk;refine el (λh=>by rw[hn]at h;cases h) ?_;unfold Ea;rw[ef,dC,kq,gV];simp only[bz,jD,hn,aE,Int.reduceBEq,a6,bl,pY];refine ae.aF (P:=(·=⟨16,x.aq,0,[],0,[x,y]⟩)) ?_ (λ_ e=>ae.ret e);refine ae.au (v:=x') rfl (ae.au (v:=y') rfl ?_);refine ae.aF (qc bx by' (rp hc ix iy bx by' (.inl ⟨h1,h2,λ_=>hs⟩))) (λr e=>?_);have e:r=(x,y):=e;subst e;exact ae.ret rfl
 |km hn h1 hs h2=>
  cases hk;have hk:kd=39:=by omega
  subst hk;refine el (λh=>by rw[hn]at h;cases h) ?_;unfold Ea;rw[ef,dC,kq,gV];simp only[bz,jD,hn,aE,Int.reduceBEq,a6,bl,pY];refine ae.aF (P:=(·=⟨16,x.aq,0,[],0,[x,y]⟩)) ?_ (λ_ e=>ae.ret e);refine ae.au (v:=x') rfl (ae.au (v:=y') rfl ?_);refine ae.aF (qc bx by' (rp hc ix iy bx by' (.inr ⟨h1,h2,λ_=>hs⟩))) (λr e=>?_);have e:r=(x,y):=e;subst e;exact ae.ret rfl
 |at_ h1 hs h5 hp h2 hf=>
  rename_i p;cases hk;have hk:kd=43:=by omega
  subst hk;refine el hf ?_;unfold Ea;rw[ef,dC,kq,gV];simp only[bz,aE,Int.reduceBEq,a6,bl];refine ae.aF (P:=(·=⟨20,bY p,0,[],0,[x,y]⟩)) ?_ (λ_ e=>ae.ret e);refine ae.au (v:=x') rfl (BJ (AH (by simp) (ix _ _ (.inl rfl) h1 bx) hs (by simp[h5])) ?_);refine ae.au (v:=y') rfl (dn (iy _ _ (ww 3) h2 by') ?_);refine ae.au hp (ae.au (of_eq _) ?_);exact ae.ret rfl
 |map=>omega
 |gW=>omega
 |gG=>omega
 |pair=>omega
 |_=>cases hk
end
theorem Hm {l:List (List UInt8)} {j:Nat} {t:List UInt8} (h:l[j]? =some t) (hd:∀(i j:Nat) t,l[i]? =some t->l[j]? =some t->i=j):idxOf (λy=>t==y) l 0=(j:Int):=by
 rcases sJ (λy=>t==y) l 0 with⟨_,h2⟩|⟨i,x,h1,h2,h3,_⟩
 ·have:=h2 t (br h);simp at this
 ·have e:t=x:=by simpa using h3
  subst e;have e2:=hd i j t h2 h;have h1:idxOf (λy=>t==y) l 0=((0+i:Nat):Int):=h1;rw[h1,e2];simp
section
variable {B:Nat} (hB:B<=1048576) {c:bm}
theorem oF {ks:List Int} {w:ay} {n:af} (hk:ks.length<9223372036854775807) (hs:w.aL=0) (hm:w.aw.Kind∈ks):ae ((fX Pu) ks w n) (λ_=>True) cC:=by
 rw[LO,rG];refine ae.bif (λh=>by simp[hs]at h) (λ_=>?_);refine ae.au (qI ks _ hk) ?_;refine ae.bif (λh=>?_) (λ_=>ae.ret trivial);have:(ks.any λy=>w.aw.Kind==y)=true:=vD.2 ⟨_,hm,by simp⟩;rw[this]at h;cases h
theorem Rf (hB:B<=1048576) {n:af} {l:ai} {kids:List ab} (hl:dO l) (ho:l.ok B) {s4:List Bool} {s3:List ab} (h3:s3.length=l.aB.length) (h4:s4.length=l.aB.length) (hk:kids.length=l.aB.length)
  (h5:∀j:Nat,s4[j]? =some true->s3[j]? =kids[j]?) (h6:∀(j:Nat) k p,s4[j]? =some false->kids[j]? =some k->l.aB[j]? =some p->k=⟨6,bY p,0,[],n.At,[]⟩):ae ((jC Pu) n l s4 s3 0) (·=kids) cC:=by
 have hlen:l.aB.length<=B:=by rw[ai.cY]at ho;exact ho.2.2.2.2.1.1
 have h:=mW (L:=λi (b:List ab)=>(jC Pu) n l s4 b i) (P:=(·=kids)) (E:=cC) (len:=l.aB.length) (λi b=>b.length=l.aB.length/\∀(j:Nat),(j<i\/s4[j]? =some true)->b[j]? =kids[j]?) (λi b hi hJ k=>by
   show ae ((jC Pu) n l s4 b i) _ _;rw[xe,nk,ai.aH,bq];have:decide (i<l.aB.length)=true:=by simpa using hi
   obtain⟨p,hp⟩:=bu hi;obtain⟨f,hf⟩:=bu (l:=s4) (i:=i) (by rw[h4];exact hi);obtain⟨x,hx⟩:=bu (l:=b) (i:=i) (by rw[hJ.1];exact hi);obtain⟨q,hq⟩:=bu (l:=kids) (i:=i) (by rw[hk];exact hi);have hm:=br hp;rw[this,a6,bw hp,aE,bw hf,aE,cw i (by omega)];refine ae.bif (λh1=>?_) (λh1=>?_)
   ·refine ae.au (wh hB p (tm ho hm)) (ae.au (of_eq p) (ae.au (fU hx) ?_));rw[iR];refine k _ ⟨by simp[hJ.1],λj hj=>?_⟩;by_cases e:j=i
    ·subst e;rw[ss (by rw[hJ.1];exact hi),hq];have h1:f=false:=by simpa using h1
     rw[h6 j q p (by rw[hf,h1]) hq hp]
    ·rw[pV (by omega)];exact hJ.2 j (by rcases hj with hj|hj;exact .inl (by omega);exact .inr hj)
   ·refine k _ ⟨hJ.1,λj hj=>?_⟩;by_cases e:j=i
    ·subst e;have:f=true:=by simpa using h1
     exact hJ.2 j (.inr (by rw[hf,this]))
    ·exact hJ.2 j (by rcases hj with hj|hj;exact .inl (by omega);exact .inr hj)) (λb hJ=>by
   show ae ((jC Pu) n l s4 b _) _ _;rw[xe,nk,ai.aH,bq];have:decide (l.aB.length<l.aB.length)=false:=by simp
   rw[this,bl];refine ae.ret (FE λj=>?_);by_cases hj:j<l.aB.length
   ·exact hJ.2 j (.inl hj)
   ·rw[pX (by rw[hJ.1];omega),pX (by rw[hk];omega)]) 0 s3 (by omega) ⟨h3,λj hj=>by
    rcases hj with hj|hj
    ·omega
    ·exact h5 j hj⟩
 exact h
theorem Pm (hB:B<=1048576) {l:ai} {kids:List ab} {es:List (Nat×Int×af)} {a:Int} {tx:List UInt8} (hl:dO l) (ho:l.ok B) (h6:l.Kind=6) (hk:kids.length=l.aB.length) (hes:es.length<=kids.length)
  (hdis:∀(i j:Nat) e e',es[i]? =some e->es[j]? =some e'->e.1=e'.1->i=j) (hlt:∀e∈es,e.1<kids.length)
  (hE:∀(e:Nat×Int×af) k p,e∈es->kids[e.1]? =some k->l.aB[e.1]? =some p->El c e.2.2 (bY p) k)
  (hR:∀(j:Nat) k p,kids[j]? =some k->l.aB[j]? =some p->(∃e∈es,e.1=j)\/k=⟨6,bY p,0,[],a,[]⟩):ae ((rM Pu) c ⟨51,tx,0,a,es.map (ep l.Names)⟩ l) (·=kids) cC:=by
 have hlen:l.aB.length<=B:=by rw[ai.cY]at ho;exact ho.2.2.2.2.1.1
 have hpn:=xG hl h6;rw[LR,rN,ai.aH,HY (by omega),aE,aE];have h:=mW (L:=λi (b:List ab×List Bool)=>(lI Pu) c ⟨51,tx,0,a,es.map (ep l.Names)⟩ l b.1 b.2 i) (P:=(·=kids)) (E:=cC) (len:=es.length) (λi b=>b.1.length=l.aB.length/\b.2.length=l.aB.length/\(∀j:Nat,b.2[j]? =some true->b.1[j]? =kids[j]?)/\∀j:Nat,b.2[j]? =some true↔∃(q:Nat) (e:Nat×Int×af),q<i/\es[q]? =some e/\e.1=j) (λi b hi hI k=>by
   show ae ((lI Pu) c ⟨51,tx,0,a,es.map (ep l.Names)⟩ l b.1 b.2 i) _ _;rw[xf,nn,af.aH];show ae (bif decide ((i:Int)<((es.map (ep l.Names)).length:Int))then _ else _) _ _;rw[jv,bq];have:decide (i<es.length)=true:=by simpa using hi
   obtain⟨e,he⟩:=bu hi;have hem:=br he;have hje:=hlt e hem;obtain⟨t,ht⟩:=bu (l:=l.Names) (i:=e.1) (by omega);obtain⟨p,hp⟩:=bu (l:=l.aB) (i:=e.1) (by omega);obtain⟨q,hq⟩:=bu hje;have hent:(es.map (ep l.Names))[i]? =some ⟨52,t,0,e.2.1,[e.2.2]⟩:=by rw[pU,he];simp[ep,ht]
   show ae (bif decide (i<es.length)then(aA (es.map (ep l.Names)) (i:Int)).bind _ else _) _ _;rw[this,a6,bw hent,aE,sV _ _ (by omega),aE,cw i (by omega)];rw[Hm ht (FZ hl h6)];refine ae.bif (λh=>by simp at h;omega) (λ_=>?_);obtain⟨f,hf⟩:=bu (l:=b.2) (i:=e.1) (by rw[hI.2.1];omega);obtain⟨x,hx⟩:=bu (l:=b.1) (i:=e.1) (by rw[hI.1];omega);refine ae.au (fU hf) ?_;refine ae.bif (λh=>?_) (λ_=>?_)
   ·have h:f=true:=h;obtain⟨q',e',h1,h2,h3⟩:=(hI.2.2.2 e.1).1 (by rw[hf,h]);have:=hdis q' i e' e h2 he h3;omega
   refine ae.au (v:=e.2.2) rfl (ae.au (fU hp) (ae.au (of_eq p) ?_));refine dn (hE e q p hem hq hp) ?_;refine ae.au (fU hx) (ae.au (fU hf) ?_);rw[iR];refine k (b.1.set e.1 q,b.2.set e.1 true) ⟨by simp[hI.1],by simp[hI.2.1],λj hj=>?_,λj=>?_⟩
   ·by_cases ej:j=e.1
    ·subst ej;simp only;rw[ss (by rw[hI.1];omega),hq]
    ·simp only at hj⊢;rw[pV (by omega)]at hj⊢;exact hI.2.2.1 j hj
   ·by_cases ej:j=e.1
    ·subst ej;simp only;rw[ss (by rw[hI.2.1];omega)];exact⟨λ_=>⟨i,e,by omega,he,rfl⟩,λ_=>rfl⟩
    ·simp only;rw[pV (by omega),hI.2.2.2 j];constructor
     ·rintro ⟨q',e',h1,h2,h3⟩;exact⟨q',e',by omega,h2,h3⟩
     ·rintro ⟨q',e',h1,h2,h3⟩;refine⟨q',e',?_,h2,h3⟩;rcases sx.1 h1 with h|h
      ·exact h
      ·subst h;rw[he]at h2;cases h2;exact absurd h3.symm ej) (λb hI=>by
   show ae ((lI Pu) c ⟨51,tx,0,a,es.map (ep l.Names)⟩ l b.1 b.2 _) _ _;rw[xf,nn,af.aH];show ae (bif decide ((es.length:Int)<((es.map (ep l.Names)).length:Int))then _ else _) _ _;rw[jv,bq];have:decide (es.length<es.length)=false:=by simp
   rw[this,bl];refine Rf hB hl ho hI.1 hI.2.1 hk hI.2.2.1 (λj k p hj hkj hp=>?_);rcases hR j k p hkj hp with⟨e,he,hej⟩|h
   ·obtain⟨q,hq⟩:=jW he;have:=(hI.2.2.2 j).2 ⟨q,e,(cX.1 hq).1,hq,hej⟩;rw[this]at hj;cases hj
   ·exact h) 0 (List.replicate l.aB.length ab.z,List.replicate l.aB.length false) (by omega) ⟨by simp,by simp,λj hj=>by
    simp[Nf]at hj,λj=>by
    constructor
    ·intro hj;simp[Nf]at hj
    ·rintro ⟨q,e,h1,_⟩;omega⟩
 exact h
theorem qu {D:Type} {l:List D} {i:Nat} {x:D} (h:l[i]? =some x):l.take i++[x]=l.take (i+1):=by
 rw[Nd,h];rfl
theorem Sa (hB:B<=1048576) {w:ay} {kids:List ab} {ks:List af} {a:Int} {tx:List UInt8} (hn:kids.length<=1048576) (hl:kids.length=ks.length) (hE:∀(i:Nat) k k',kids[i]? =some k->ks[i]? =some k'->El c k' (aK 0) k) (hs:∀k∈kids,k.aq.aL=3\/k.aq.aL=4):ae ((ij Pu) c ⟨51,tx,0,a,ks⟩ w 0 []) (·=⟨23,w,0,[],0,kids⟩) cC:=by
 have h:=mW (L:=λi (b:List ab)=>(ij Pu) c ⟨51,tx,0,a,ks⟩ w i b) (P:=(·=⟨23,w,0,[],0,kids⟩)) (E:=cC) (len:=ks.length) (λi b=>b=kids.take i) (λi b hi hI k=>by
   show ae ((ij Pu) c ⟨51,tx,0,a,ks⟩ w i b) _ _;rw[xc,ni,af.aH];show ae (bif decide ((i:Int)<(ks.length:Int))then(aA ks (i:Int)).bind _ else _) _ _;rw[bq];have:decide (i<ks.length)=true:=by simpa using hi
   obtain⟨e,he⟩:=bu hi;obtain⟨y,hy⟩:=bu (l:=kids) (i:=i) (by omega);have hbl:b.length=i:=by rw[hI,iS];omega
   rw[this,a6,bw he,aE,cw i (by omega)];refine dn (hE i y e hy he) ?_;have hlen:decide ((b++[ab.z]).length<=274877906944)=true:=by simp;omega
   rw[hlen,a6,ab.aH,ox,iR,np];have e1:(b++[ab.z])[b.length]? =some ab.z:=by simp
   have e2:IntKind.i64.wrap ((((ab.rows b++ab.rows [ab.z]).length:Nat):Int)-1)=(b.length:Int):=by
    rw[lx,ab.aH,ab.aH,wrap64 (by simp<;>omega) (by simp<;>omega)];simp
   have e3:(b++[y])[b.length]? =some y:=by simp
   rw[e1,aE,e2,ox,e3,aE];have go:ae ((ij Pu) c ⟨51,tx,0,a,ks⟩ w ((i+1:Nat):Int) (b++[y])) (·=⟨23,w,0,[],0,kids⟩) cC:=k _ (by rw[hI,qu hy]);have hsy:=hs y (br hy);refine ae.bif (λh3=>?_) (λ_=>go);refine ae.bif (λh4=>?_) (λ_=>go);simp at h3 h4;omega) (λb hI=>by
   show ae ((ij Pu) c ⟨51,tx,0,a,ks⟩ w _ b) _ _;rw[xc,ni,af.aH];show ae (bif decide ((ks.length:Int)<(ks.length:Int))then _ else _) _ _;rw[bq];have:decide (ks.length<ks.length)=false:=by simp
   rw[this,bl];have:b=kids:=by rw[hI,<-hl,kH]
   rw[this];exact ae.ret rfl) 0 [] (by omega) (by simp)
 exact h
theorem Sb (hB:B<=1048576) {w:ay} {p:ai} {qs:List (ab×ab)} {es:List (List UInt8×Int×af×af)} {a:Int} {tx:List UInt8} (hp:w.aw.aB[0]? =some p) (hn:qs.length<=1048576) (hl:qs.length=es.length)
  (h1:∀(i:Nat) q e,qs[i]? =some q->es[i]? =some e->El c e.2.2.1 (aK 3) q.1) (h2:∀(i:Nat) q e,qs[i]? =some q->es[i]? =some e->El c e.2.2.2 (bY p) q.2):ae ((ke Pu) c ⟨51,tx,0,a,es.map eD⟩ w 0 []) (·=⟨24,w,0,[],0,qs.flatMap λq=>[q.1,q.2]⟩) cC:=by
 have h:=mW (L:=λi (b:List ab)=>(ke Pu) c ⟨51,tx,0,a,es.map eD⟩ w i b) (P:=(·=⟨24,w,0,[],0,qs.flatMap λq=>[q.1,q.2]⟩)) (E:=cC) (len:=es.length) (λi b=>b=((qs.take i).flatMap λq=>[q.1,q.2])) (λi b hi hI k=>by
   show ae ((ke Pu) c ⟨51,tx,0,a,es.map eD⟩ w i b) _ _;rw[xd,nj,af.aH];show ae (bif decide ((i:Int)<((es.map eD).length:Int))then(aA (es.map eD) (i:Int)).bind _ else _) _ _;rw[jv,bq];have:decide (i<es.length)=true:=by simpa using hi
   obtain⟨e,he⟩:=bu hi;obtain⟨q,hq⟩:=bu (l:=qs) (i:=i) (by omega);have hent:(es.map eD)[i]? =some (eD e):=by rw[pU,he];rfl
   have hbl:b.length<=2*i:=by rw[hI,mV,iS];omega
   rw[this,a6,bw hent,aE,cw i (by omega)];refine ae.au (v:=e.2.2.1) rfl (ae.au (bz 3) ?_);refine dn (h1 i q e hq he) ?_;have hlen:decide ((b++[ab.z]).length<=274877906944)=true:=by simp;omega
   rw[hlen,a6,ab.aH,iR,np];have e1:(b++[ab.z])[b.length]? =some ab.z:=by simp
   refine ae.au (fU e1) (ae.au (v:=e.2.2.2) rfl (ae.au hp (ae.au (of_eq p) ?_)));refine dn (h2 i q e hq he) ?_;have hlen2:decide (((b++[q.1])++[ab.z]).length<=274877906944)=true:=by simp;omega
   have e2:(((ab.rows b++ab.rows [ab.z]).length:Nat):Int)=(((b++[q.1]).length:Nat):Int):=by
    rw[lx,ab.aH,ab.aH];simp
   have e3:((b++[q.1])++[ab.z])[(b++[q.1]).length]? =some ab.z:=by simp
   rw[hlen2,a6,e2];refine ae.au (fU e3) ?_;rw[iR,np];refine k _ ?_;rw[hI,<-qu hq,Ya];simp) (λb hI=>by
   show ae ((ke Pu) c ⟨51,tx,0,a,es.map eD⟩ w _ b) _ _;rw[xd,nj,af.aH];show ae (bif decide ((es.length:Int)<((es.map eD).length:Int))then _ else _) _ _;rw[jv,bq];have:decide (es.length<es.length)=false:=by simp
   rw[this,bl];have:b=(qs.flatMap λq=>[q.1,q.2]):=by rw[hI,<-hl,kH]
   rw[this];exact ae.ret rfl) 0 [] (by omega) (by simp)
 exact h
