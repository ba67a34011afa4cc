/- The elaborator against the reference's: calls, all expressions. -/
import Derived.Test.YtfgnmgbiijpkiaaGreatKRb
import Derived.Test.YtfgnmgbiijpkiaaGreatKRa
import Derived.Test.YtfgnmgbiijpkiaaGreatKVa9
set_option linter.all false
namespace Go.Proofs.YtfgnmgbiijpkiaaGreat
open Go Go.Bw
section
variable {B:Nat} (hB:B<=1048576) {c:bO} (hc:CE B c)
def kx:List (List UInt8):=[[102,108,97,103],[110,117,109],[115,101,116],dC,dg,[112,97,105,114],[111,110,101],[119,114,105,116,101],[115,105,122,101],[115,117,109],[110,117,109,98,101,114],[111,110],[107,101,121,115],[118,97,108,117,101,115],[99,111,110,102,108,105,99,116],[115,101,99,111,110,100],[102,105,114,115,116]]
inductive CN:ab->Prop
 |mk {n:ab}:(n.Kind=51->n.Text∈kx)->(∀k∈fh n,CN k)->CN n
end
abbrev PSqq:=aC
structure At (T:List bG) (k:Nat) (p:PSqq):Prop where
 t:p.T=T
 i:p.I=(k:Int)
 lt:k<T.length
 bad:p.aR=true->p.aT.Code≠0
def PP {D:Type} (T:List bG) (k:Nat) (p:PSqq) (G:D->Prop) (r:D×PSqq):Prop:=(∃j,At T j r.2/\k<=j)/\(r.2.aR=false->p.aR=false/\G r.1)
def Gdqq (n:ab):Prop:=WN 1048576 n/\CN n
section
variable {T:List bG} (hT:gv T) (hl:T.length<=65537)
omit hl in
include hT in
theorem gv.next {k:Nat} {t:bG} (h:T[k]? =some t) (h6:t.Kind≠6):k+1<T.length/\adv t:=by
 obtain⟨l,e,rfl,h1,h2⟩:=hT;have hk:=(cr.1 h).1;by_cases hkl:k<l.length
 ·rw[rY hkl]at h;exact⟨by simp;omega,h1 t (bw h)⟩
 ·have:k=l.length:=by simp at hk;omega
  subst this;simp at h;subst h;exact absurd h2 h6
variable {k:Nat} {p:PSqq} (hp:At T k p)
theorem At.tok {T:List bG} {k:Nat} {p:PSqq} (hp:At T k p):∃t,T[k]? =some t/\(cE Pu) p=some t:=by
 obtain⟨t,ht⟩:=bh hp.lt;refine⟨t,ht,?_⟩;rw[e76,Jb,hp.t,hp.i,bj ht];rfl
theorem At.same {T:List bG} {k:Nat} {p:PSqq} (hp:At T k p) {o:Int}:At T k ⟨p.T,p.I,o,p.aR,p.aT⟩:=⟨hp.t,hp.i,hp.lt,hp.bad⟩
include hl in
theorem At.next {k:Nat} {p:PSqq} (hp:At T k p) (h:k+1<T.length) {o:Int}:At T (k+1) ⟨p.T,IntKind.i64.wrap (p.I+1),o,p.aR,p.aT⟩:=⟨hp.t,by show IntKind.i64.wrap (p.I+1)=_;rw[hp.i,bP k (by omega)],h,hp.bad⟩
include hT in
theorem bn {k:Nat} {p:PSqq} (hp:At T k p) (s:List UInt8):ag ((b6 Pu) p s) (λb=>b=true->p.aR=false/\k+1<T.length/\∃t,T[k]? =some t/\t.Text=s/\(t.Kind=2\/t.Kind=5)):=by
 obtain⟨t,ht,e⟩:=hp.tok;rw[ag7,He,e,aw];have go:(t.Kind=2\/t.Kind=5)->p.aR=false->ag (some (t.Text==s)) (λb=>b=true->p.aR=false/\k+1<T.length/\∃t,T[k]? =some t/\t.Text=s/\(t.Kind=2\/t.Kind=5)):=λhk hb=>ag.ret λh=>⟨hb,(gv.next hT ht (by omega)).1,t,ht,by simpa using h,hk⟩;refine ag.bif (λhb=>?_) (λ_=>ag.ret λh=>by cases h);have hb:p.aR=false:=by simpa using hb
 refine ag.bif (λh=>go (.inl (by simpa using h)) hb) (λ_=>?_);exact ag.bif (λh=>go (.inr (by simpa using h)) hb) (λ_=>ag.ret λh=>by cases h)
theorem F4 {T:List bG} {k:Nat} {p:PSqq} (hp:At T k p) (e:Int) (he:e≠0:=by decide):ag ((kO Pu) p e) (λr=>At T k r.2/\r.2.aR=true):=by
 obtain⟨t,ht⟩:=bh hp.lt;rw[e78,Jc,e76,Jb];refine ag.bif (λ_=>?_) (λh=>ag.ret ⟨hp,by simpa using h⟩);rw[hp.t,hp.i,bj ht];exact ag.ret ⟨⟨rfl,rfl,hp.lt,λ_=>he⟩,rfl⟩
theorem ael {T:List bG} {k:Nat} {p:PSqq} (hp:At T k p):ag ((oB Pu) p) (λr=>At T k r.2/\(r.2.aR=false->p.aR=false)):=by
 rw[ag9,Hh];refine ag.bif (λ_=>?_) (λ_=>ag.ret ⟨hp.same,λh=>h⟩);refine ag.bind (F4 hp 6) (λr hr=>ag.ret ⟨hr.1.same,λh=>?_⟩);have h:r.2.aR=false:=h;rw[hr.2]at h;cases h
include hT hl in
theorem ea {k:Nat} {p:PSqq} (hp:At T k p) (s:List UInt8):ag ((bI Pu) p s) (PP T k p (λ_=>True)):=by
 rw[ag',Hk];refine ag.bind (bn hT hp s) (λb hb=>?_);refine ag.bif (λh=>?_) (λ_=>?_)
 ·exact ag.ret ⟨⟨k+1,hp.next hl (hb h).2.1,by omega⟩,λh=>⟨h,trivial⟩⟩
 ·refine ag.bind (F4 hp 2) (λr hr=>ag.ret ⟨⟨k,hr.1,bQ _⟩,λh=>?_⟩);have h:r.2.aR=false:=h;rw[hr.2]at h;cases h
include hT hl in
theorem ad9 {k:Nat} {p:PSqq} (hp:At T k p) (kd:Int) (h6:kd≠6):ag ((de Pu) p kd) (PP T k p (λs=>∃t,T[k]? =some t/\t.Kind=kd/\s=t.Text/\adv t)):=by
 obtain⟨t,ht,e⟩:=hp.tok;rw[afA,Hf,e,aw];have bad:ag (((kO Pu) p 2).bind λy3=>(some (([]:List UInt8),(y3.snd)))) (PP T k p (λs=>∃t,T[k]? =some t/\t.Kind=kd/\s=t.Text/\adv t)):=
  ag.bind (F4 hp 2) (λr hr=>ag.ret ⟨⟨k,hr.1,bQ _⟩,λh=>by have h:r.2.aR=false:=h;rw[hr.2]at h;cases h⟩)
 refine ag.bif (λ_=>bad) (λhb=>?_);refine ag.bif (λ_=>bad) (λhk=>?_);have hk:t.Kind=kd:=by simpa using hk
 obtain⟨h1,h2⟩:=gv.next hT ht (by omega)
 exact ag.ret ⟨⟨k+1,hp.next hl h1,by omega⟩,λ_=>⟨hb,t,ht,hk,rfl,h2⟩⟩
include hT hl in
theorem aeO {k:Nat} {p:PSqq} (hp:At T k p):ag ((mj Pu) p) (PP T k p (λn=>Gdqq n/\n.Kind=44)):=by
 obtain⟨t,ht,e⟩:=hp.tok;rw[ag8,Hg,e,aw];have gd:∀(x:Int) (a:Int),-1000000000000000<=x/\x<=1000000000000000->Gdqq {Kind:=44,Text:=[],N:=x,At:=a,Kids:=[]:ab}:=λx a h=>⟨q0 (by simp) rfl (λ_=>h) (λe=>by simp at e),.mk (λe=>by simp at e) (by simp[fh])⟩;refine ag.bind (bn hT hp _) (λb hb=>?_);refine ag.bif (λh=>?_) (λh=>?_)
 ·have h1:At T (k+1) _:=hp.next hl (hb h).2.1 (o:=p.Open)
  obtain⟨t',ht',e'⟩:=h1.tok;rw[e',aw];refine ag.bind (ad9 hT hl h1 3 (by decide)) (λr hr=>ag.ret ⟨?_,λhbad=>?_⟩)
  ·obtain⟨j,h2,h3⟩:=hr.1;exact⟨j,h2,by omega⟩
  ·obtain⟨h2,t2,h3,h4,h5,h6⟩:=hr.2 hbad;rw[ht']at h3;cases h3;have:=h6.num h4;refine⟨(hb h).1,gd _ _ ?_,rfl⟩;rw[wrap64 (by omega) (by omega)];omega
 ·refine ag.aB rfl (ag.bind (ad9 hT hl hp 3 (by decide)) (λr hr=>ag.ret ⟨hr.1,λhbad=>?_⟩));obtain⟨h2,t2,h3,h4,h5,h6⟩:=hr.2 hbad;rw[ht]at h3;cases h3;have:=h6.num h4;refine⟨h2,gd _ _ ?_,rfl⟩;rw[wrap64 (by omega) (by omega)];omega
theorem PP.up {D:Type} {T:List bG} {k i:Nat} {p q:PSqq} {G:D->Prop} {r:D×PSqq} (h:PP T i q G r) (hki:k<=i) (hb:q.aR=false->p.aR=false):PP T k p G r:=by
 obtain⟨⟨j,h1,h2⟩,h3⟩:=h;exact⟨⟨j,h1,by omega⟩,λh=>⟨hb (h3 h).1,(h3 h).2⟩⟩
structure Hyp (T:List bG) (k:Nat):Prop where
 ex:∀(i:Nat) (p:PSqq),k<i->At T i p->ag ((gR Pu) p) (PP T i p Gdqq)
 bi:∀(l:Nat) (i:Nat) (p:PSqq),l<=5->k<i->At T i p->ag ((rO Pu) p (l:Int)) (PP T i p Gdqq)
variable {k:Nat} (H:Hyp T k)
include hT hl H
theorem agB {n:ab} (h51:n.Kind≠51) (h:dJ n) (hk:30<=n.Kind/\n.Kind<=43) (hl:n.Kids.length<=3) (hg:∀e∈n.Kids,Gdqq e):Gdqq n:=by
 have:fh n=n.Kids:=nb h51;exact⟨.mk h (by omega) (λe=>by omega) (λe=>by omega) (by rw[this];exactλe he=>(hg e he).1),.mk (λe=>absurd e h51) (by rw[this];exactλe he=>(hg e he).2)⟩
theorem gone {kd a:Int} {t:List UInt8} {x:ab} (h:kd=33\/kd=42) (hx:Gdqq x):Gdqq {Kind:=kd,Text:=t,N:=0,At:=a,Kids:=[x]:ab}:=
 agB hT hl H (by show kd≠51;omega) (.inr (.inl ⟨h,rfl⟩)) (by show 30<=kd/\kd<=43;omega) (by simp) (by simp;exact hx)
end
section
variable {B:Nat} (hB:B<=1048576) {c:bO}
end
section
variable {B:Nat} (hB:B<=1048576) {c:bO} (hc:CE B c)
end
section
variable {B:Nat} (hB:B<=1048576)
include hB
end
inductive fi:ae->Prop
 |c {y:ae}:(y.Op=6\/(21<=y.Op/\y.Op<=27))->fi y
 |j {t:az} {n:Int} {s:List UInt8} {a:Int} {x y:ae}:fi x->fi y->fi ⟨16,t,n,s,a,[x,y]⟩
 |i {t:az} {n:Int} {s:List UInt8} {a:Int} {c x y:ae}:fi x->fi y->fi ⟨7,t,n,s,a,[c,x,y]⟩
theorem jx {w:az} (h:isNone w=true):w.aP=0/\w.aj.Kind=0:=by
 unfold isNone at h;simpa using h
def eE:List (Int×Int):=[(8,31),(9,32),(11,34),(12,35),(13,36),(14,37),(15,38),(16,39),(17,40),(18,41),(20,43)]
def eQ:List (Int×List UInt8):=[(21,[102,108,97,103]),(22,[110,117,109]),(27,[111,110,101]),(29,[115,105,122,101]),(30,[115,117,109]),(31,[110,117,109,98,101,114]),(32,[111,110]),(33,[107,101,121,115]),(34,[118,97,108,117,101,115]),(35,[102,105,114,115,116]),(36,[115,101,99,111,110,100]),(37,[99,111,110,102,108,105,99,116])]
def w9:List UInt8:=[115,101,116]
def A6:List UInt8:=[112,97,105,114]
def AS:List UInt8:=[119,114,105,116,101]
def fg (e:List UInt8×Int×ab×ab):ab:=⟨52,e.1,0,e.2.1,[e.2.2.1,e.2.2.2]⟩
def eZ (ns:List (List UInt8)) (e:Nat×Int×ab):ab:=⟨52,(ns[e.1]?).getD [],0,e.2.1,[e.2.2]⟩
inductive Br (ps:List TParam):ae->ab->Prop
 |int {t:az} {k a:Int}:Br ps ⟨1,t,k,[],a,[]⟩ ⟨44,[],k,a,[]⟩
 |tr {t:az} {a:Int}:Br ps ⟨2,t,1,[],a,[]⟩ ⟨45,[],0,a,[]⟩
 |fl {t:az} {a:Int}:Br ps ⟨2,t,0,[],a,[]⟩ ⟨46,[],0,a,[]⟩
 |name {t:az} {s:List UInt8} {a:Int}:Br ps ⟨3,t,0,s,a,[]⟩ ⟨47,s,0,a,[]⟩
 |param {t:az} {i:Nat} {p:TParam} {a:Int}:ps[i]? =some p->Br ps ⟨4,t,i,[],a,[]⟩ ⟨48,p.Name,0,a,[]⟩
 |state {t:az} {a:Int}:Br ps ⟨5,t,0,[],a,[]⟩ ⟨49,[],0,a,[]⟩
 |kZ {t:az} {a:Int}:Br ps ⟨6,t,0,[],a,[]⟩ ⟨50,[],0,a,[]⟩
 |ite {t:az} {a:Int} {c x y:ae} {c' x' y':ab}:Br ps c c'->Br ps x x'->Br ps y y'->Br ps ⟨7,t,0,[],a,[c,x,y]⟩ ⟨30,[],0,a,[c',x',y']⟩
 |two {op kd:Int} {t:az} {a:Int} {x y:ae} {x' y':ab}:(op,kd)∈eE->Br ps x x'->Br ps y y'->Br ps ⟨op,t,0,[],a,[x,y]⟩ ⟨kd,[],0,a,[x',y']⟩
 |not {t:az} {a:Int} {x:ae} {x':ab}:Br ps x x'->Br ps ⟨10,t,0,[],a,[x]⟩ ⟨33,[],0,a,[x']⟩
 |field {t:az} {a:Int} {i:Nat} {s:List UInt8} {x:ae} {x':ab}:x.ai.aj.Names[i]? =some s->Br ps x x'->Br ps ⟨19,t,i,[],a,[x]⟩ ⟨42,s,0,a,[x']⟩
 |kH {op:Int} {s:List UInt8} {t:az} {a:Int} {x:ae} {x':ab}:(op,s)∈eQ->Br ps x x'->Br ps ⟨op,t,0,[],a,[x]⟩ ⟨51,s,0,a,[x']⟩
 |pair {t:az} {a:Int} {x y:ae} {x' y':ab}:Br ps x x'->Br ps y y'->Br ps ⟨26,t,0,[],a,[x,y]⟩ ⟨51,A6,0,a,[x',y']⟩
 |write {t:az} {a:Int} {x y z:ae} {x' y' z':ab}:Br ps x x'->Br ps y y'->Br ps z z'->Br ps ⟨28,t,0,[],a,[x,y,z]⟩ ⟨51,AS,0,a,[x',y',z']⟩
 |jO {t:az} {a:Int} {kids:List ae} {ks:List ab}:kids.length=ks.length->(∀(i:Nat) k k',kids[i]? =some k->ks[i]? =some k'->Br ps k k')->Br ps ⟨23,t,0,[],a,kids⟩ ⟨51,w9,0,a,ks⟩
 |map {t:az} {a:Int} {kids:List ae} {qs:List (ae×ae)} {es:List (List UInt8×Int×ab×ab)}:(kids=qs.flatMap λq=>[q.1,q.2])->qs.length=es.length->(∀(i:Nat) q e,qs[i]? =some q->es[i]? =some e->Br ps q.1 e.2.2.1)->(∀(i:Nat) q e,qs[i]? =some q->es[i]? =some e->Br ps q.2 e.2.2.2)->Br ps ⟨24,t,0,[],a,kids⟩ ⟨51,dC,0,a,es.map fg⟩
 |kI {t:az} {a:Int} {kids:List ae} {es:List (Nat×Int×ab)}:t.aj.Names.length=kids.length->es.length<=kids.length->(∀(i j:Nat) e e',es[i]? =some e->es[j]? =some e'->e.1=e'.1->i=j)->(∀e∈es,e.1<kids.length)->(∀(e:Nat×Int×ab) k,e∈es->kids[e.1]? =some k->Br ps k e.2.2)->(∀(j:Nat) k,kids[j]? =some k->(∃e∈es,e.1=j)\/(k.Op=6/\k.At=a))->Br ps ⟨25,t,0,[],a,kids⟩ ⟨51,dg,0,a,es.map (eZ t.aj.Names)⟩