/- Loops over two lists, and over one, as plain functions. -/
import Derived.Test.YtfgnmgbiijpkiaaGreatKCt
set_option linter.all false
namespace Go.Proofs.YtfgnmgbiijpkiaaGreat
open Go Go.Bw
theorem bj {D:Type} {l:List D} {i:Nat} {x:D} (h:l[i]? =some x):au l (i:Int)=some x:=h
theorem bh {D:Type} {l:List D} {i:Nat} (h:i<l.length):∃x,l[i]? =some x:=⟨l[i],by simp[h]⟩
theorem lM {D:Type}:∀{l:List D} {i:Nat} {x:D},l[i]? =some x->l.drop i=x::l.drop (i+1)
 |y::l,0,x,h=>by simp only[lD,aE]at h;subst h;simp
 |y::l,i+1,x,h=>by simpa using lM (l:=l) (by simpa using h)
theorem qt {D β:Type} {a:List D} {b:List β} {L:Int->Option Bool} (p:D->β->Bool) (e:Bool) (hl:a.length=b.length)
  (hs:∀(i:Nat) x y,a[i]? =some x->b[i]? =some y->i<a.length->L (i:Int)=bif p x y then L ((i+1:Nat):Int)else some false) (he:L (a.length:Int)=some e):
  L 0=some ((a.zip b).all (λq=>p q.1 q.2)&&e):=by
 have key:∀k i:Nat,k=a.length-i->i<=a.length->L (i:Int)=some (((a.drop i).zip (b.drop i)).all (λq=>p q.1 q.2)&&e):=by
  intro k
  induction k with
  |zero=>
   intro i hk hi;have:i=a.length:=by omega
   subst this;rw[he];simp
  |succ k ih=>
   intro i hk hi;have hi':i<a.length:=by omega
   obtain⟨x,hx⟩:=bh hi';obtain⟨y,hy⟩:=bh (l:=b) (by omega:i<b.length);rw[hs i x y hx hy hi',lM hx,lM hy,Ci,kR];cases p x y with
   |false=>rfl
   |true=>simpa using ih (i+1) (by omega) (by omega)
 simpa using key a.length 0 (by omega) (by omega)
theorem Np {D:Type} [BEq D] [LawfulBEq D]:∀{a b:List D},a.length=b.length->((a.zip b).all (λq=>q.1==q.2)=true↔a=b)
 |[],[],_=>by simp
 |x::a,y::b,h=>by
  rw[Ci,kR,bL,Np (by simpa using h),beq_iff_eq,lC]
 |[],_::_,h=>by simp at h
 |_::_,[],h=>by simp at h
theorem Y' {D:Type} [BEq D] [LawfulBEq D] [BEq (List D)] [LawfulBEq (List D)] {a b:List D} (h:a.length=b.length):(a.zip b).all (λq=>q.1==q.2)=(a==b):=
 gu.2 ((Np h).trans beq_iff_eq.symm)
def rising:List (List UInt8)->Bool
 |x::y::r=>Op.bytesLess x y&&rising (y::r)
 |_=>true
theorem oV:∀a:List UInt8,Op.bytesLess a a=false
 |[]=>rfl
 |x::a=>by
  have h:(decide (x<x))=false:=by simp
  show(decide (x<x)||(x==x&&Op.bytesLess a a))=false;rw[h,oV a];simp
theorem Ai (x y:UInt8) (a b:List UInt8):Op.bytesLess (x::a) (y::b)=true↔x<y\/(x=y/\Op.bytesLess a b=true):=by
 show(decide (x<y)||(x==y&&Op.bytesLess a b))=true↔_;simp
theorem P5 {x y:UInt8}:x<y↔x.toNat<y.toNat:=UInt8.lt_iff_toNat_lt
theorem vx:∀{a b c:List UInt8},Op.bytesLess a b=true->Op.bytesLess b c=true->Op.bytesLess a c=true
 |[],b,[],_,h=>by cases b<;>cases h
 |[],_,_::_,_,_=>rfl
 |_::_,[],_,h,_=>by cases h
 |_::_,_::_,[],_,h=>by cases h
 |x::a,y::b,z::c,h,g=>by
  rw[Ai]at h g⊢;rcases h with h|⟨rfl,h⟩<;>rcases g with g|⟨rfl,g⟩
  ·rw[P5]at*;exact .inl (by omega)
  ·exact .inl h
  ·exact .inl g
  ·exact .inr ⟨rfl,vx h g⟩
theorem AG:∀a b:List UInt8,a=b\/Op.bytesLess a b=true\/Op.bytesLess b a=true
 |[],[]=> .inl rfl
 |[],_::_=> .inr (.inl rfl)
 |_::_,[]=> .inr (.inr rfl)
 |x::a,y::b=>by
  rw[Ai,Ai];by_cases h:x=y
  ·subst h;rcases AG a b with rfl|h|h
   ·exact .inl rfl
   ·exact .inr (.inl (.inr ⟨rfl,h⟩))
   ·exact .inr (.inr (.inr ⟨rfl,h⟩))
  ·have:x.toNat≠y.toNat:=λe=>h (UInt8.toNat_inj.1 e);simp only[P5];omega
theorem vq {a b:List UInt8} (h:Op.bytesLess a b=true):Op.bytesLess b a=false:=by
 cases g:Op.bytesLess b a with
 |false=>rfl
 |true=>have:=vx h g;rw[oV]at this;cases this
theorem Ki {x:List UInt8}:∀{l:List (List UInt8)},rising (x::l)=true↔(∀y∈l,Op.bytesLess x y=true)/\rising l=true
 |[]=>by simp[rising]
 |y::l=>by
  rw[show rising (x::y::l)=(Op.bytesLess x y&&rising (y::l))from rfl,bL];constructor
  ·rintro ⟨h,g⟩;refine⟨λz hz=>?_,g⟩;rcases cm.1 hz with rfl|hz
   ·exact h
   ·exact vx h ((Ki.1 g).1 z hz)
  ·rintro ⟨h,g⟩;exact⟨h y (by simp),g⟩
theorem aeC:∀{a b:List (List UInt8)},rising a=true->rising b=true->(∀x,x∈a↔x∈b)->a=b
 |[],[],_,_,_=>rfl
 |[],y::b,_,_,h=>absurd ((h y).2 (by simp)) (by simp)
 |x::a,[],_,_,h=>absurd ((h x).1 (by simp)) (by simp)
 |x::a,y::b,ha,hb,h=>by
  rw[Ki]at ha hb;have e:x=y:=by
   rcases cm.1 ((h x).1 (by simp))with e|hx
   ·exact e
   ·rcases cm.1 ((h y).2 (by simp))with e|hy
    ·exact e.symm
    ·have h1:=hb.1 x hx;have h2:=ha.1 y hy;rw[vq h1]at h2;cases h2
  subst e;congr 1;refine aeC ha.2 hb.2 λz=>?_;constructor
  ·intro hz;rcases cm.1 ((h z).1 (by simp[hz]))with rfl|h1
   ·have:=ha.1 z hz;rw[oV]at this;cases this
   ·exact h1
  ·intro hz;rcases cm.1 ((h z).2 (by simp[hz]))with rfl|h1
   ·have:=hb.1 z hz;rw[oV]at this;cases this
   ·exact h1
def l0:ah:=⟨0,0,0,[],[],[]⟩
def eF:ah:=⟨9,0,0,[],[],[]⟩
def aL (n:Int):az:=⟨n,l0⟩
def b7 (l:ah):az:=⟨0,l⟩
def isNone (t:az):Bool:=t.aP==0&&t.aj.Kind==0
def Fit (w t:az):Prop:=isNone w=false->w=t
def jk (c:UInt8):Bool:=(97<=c.toNat&&c.toNat<=122)||(48<=c.toNat&&c.toNat<=57)||c.toNat==45
def NV (s:List UInt8):Prop:=s.length<=16/\(∃c,s[0]? =some c/\97<=c.toNat/\c.toNat<=122)/\∀c∈s,jk c=true
def rV:ae->Bool
 |⟨op,_,_,_,_,kids⟩=>op==6||(21<=op&&op<=27)||
  (op==16&&match kids with
   |[x,y]=>rV x&&rV y
   |_=>false)||
  (op==7&&match kids with
   |[_,x,y]=>rV x&&rV y
   |_=>false)
inductive W (l:ah) (ps:List TParam):ae->az->Prop
 |int {n a:Int} {w:az}: -1000000000000000<=n->n<=1000000000000000->Fit w (aL 1)->W l ps ⟨1,aL 1,n,[],a,[]⟩ w
 |bool {n a:Int} {w:az}:(n=0\/n=1)->Fit w (aL 2)->W l ps ⟨2,aL 2,n,[],a,[]⟩ w
 |name {t:List UInt8} {a:Int} {w:az}:NV t->Fit w (aL 3)->W l ps ⟨3,aL 3,0,t,a,[]⟩ w
 |param {i:Nat} {p:TParam} {a:Int} {w:az}:ps[i]? =some p->Fit w (aL p.aP)->W l ps ⟨4,aL p.aP,i,[],a,[]⟩ w
 |state {a:Int} {w:az}:Fit w (b7 l)->W l ps ⟨5,b7 l,0,[],a,[]⟩ w
 |kZ {a:Int} {w:az}:w.aP=0->isNone w=false->W l ps ⟨6,w,0,[],a,[]⟩ w
 |nD {c x y:ae} {a:Int} {w:az}:isNone w=false->W l ps c (aL 2)->W l ps x w->W l ps y w->W l ps ⟨7,w,0,[],a,[c,x,y]⟩ w
 |nE {c x y:ae} {a:Int} {w:az}:isNone w=true->W l ps c (aL 2)->W l ps x (aL 0)->W l ps y x.ai->W l ps ⟨7,x.ai,0,[],a,[c,x,y]⟩ w
 |nF {c x y:ae} {a:Int} {w:az}:isNone w=true->W l ps c (aL 2)->W l ps y (aL 0)->W l ps x y.ai->W l ps ⟨7,x.ai,0,[],a,[c,x,y]⟩ w
 |conn {op:Int} {x y:ae} {a:Int} {w:az}:(op=8\/op=9)->W l ps x (aL 2)->W l ps y (aL 2)->Fit w (aL 2)->W l ps ⟨op,aL 2,0,[],a,[x,y]⟩ w
 |not {x:ae} {a:Int} {w:az}:W l ps x (aL 2)->Fit w (aL 2)->W l ps ⟨10,aL 2,0,[],a,[x]⟩ w
 |less {op:Int} {x y:ae} {a:Int} {w:az}:(op=11\/op=12)->W l ps x (aL 1)->W l ps y (aL 1)->Fit w (aL 2)->W l ps ⟨op,aL 2,0,[],a,[x,y]⟩ w
 |equal {x y:ae} {a:Int} {w:az}:W l ps x (aL 0)->x.ai.aP≠0->W l ps y x.ai->Fit w (aL 2)->W l ps ⟨13,aL 2,0,[],a,[x,y]⟩ w
 |oD {x y:ae} {a:Int} {w:az}:W l ps x (aL 3)->W l ps y (aL 4)->Fit w (aL 2)->W l ps ⟨14,aL 2,0,[],a,[x,y]⟩ w
 |oE {x y:ae} {a:Int} {w:az}:W l ps x (aL 0)->x.ai.aP=0->W l ps y x.ai->Fit w (aL 2)->W l ps ⟨15,aL 2,0,[],a,[x,y]⟩ w
 |oF {x y:ae} {a:Int} {w:az}:W l ps y (aL 0)->y.ai.aP=0->W l ps x y.ai->Fit w (aL 2)->W l ps ⟨15,aL 2,0,[],a,[x,y]⟩ w
 |nj {x y:ae} {a:Int} {w:az}:isNone w=false->w.aP=0->W l ps x w->W l ps y w->W l ps ⟨16,w,0,[],a,[x,y]⟩ w
 |nk {x y:ae} {a:Int} {w:az}:isNone w=true->W l ps x (aL 0)->x.ai.aP=0->W l ps y x.ai->W l ps ⟨16,x.ai,0,[],a,[x,y]⟩ w
 |nq {x y:ae} {a:Int} {w:az}:isNone w=true->W l ps y (aL 0)->y.ai.aP=0->W l ps x y.ai->W l ps ⟨16,x.ai,0,[],a,[x,y]⟩ w
 |ml {op:Int} {x y:ae} {a:Int} {w:az}:(op=17\/op=18)->W l ps x (aL 1)->W l ps y (aL 1)->Fit w (aL 1)->W l ps ⟨op,aL 1,0,[],a,[x,y]⟩ w
 |field {x:ae} {i:Nat} {p:ah} {a:Int} {w:az}:W l ps x (aL 0)->x.ai.aP=0->x.ai.aj.Kind=6->i<x.ai.aj.Names.length->x.ai.aj.ax[i]? =some p->Fit w (b7 p)->W l ps ⟨19,b7 p,i,[],a,[x]⟩ w
 |at_ {x k:ae} {p:ah} {a:Int} {w:az}:W l ps x (aL 0)->x.ai.aP=0->x.ai.aj.Kind=5->x.ai.aj.ax[0]? =some p->W l ps k (aL 3)->Fit w (b7 p)->W l ps ⟨20,b7 p,0,[],a,[x,k]⟩ w
 |flag {x:ae} {a:Int} {w:az}:w.aP=0->w.aj.Kind=1->W l ps x (aL 2)->W l ps ⟨21,w,0,[],a,[x]⟩ w
 |num {x:ae} {a:Int} {w:az}:w.aP=0->(w.aj.Kind=2\/w.aj.Kind=3)->W l ps x (aL 1)->W l ps ⟨22,w,0,[],a,[x]⟩ w
 |jO {kids:List ae} {a:Int} {w:az}:w.aP=0->(w.aj.Kind=4\/w.aj.Kind=10)->kids.length<=1048576->(∀x∈kids,W l ps x (aL 0))->(∀x∈kids,x.ai.aP=3\/x.ai.aP=4)->W l ps ⟨23,w,0,[],a,kids⟩ w
 |map {kids:List (ae×ae)} {p:ah} {a:Int} {w:az}:w.aP=0->w.aj.Kind=5->kids.length<=1048576->w.aj.ax[0]? =some p->(∀q∈kids,W l ps q.1 (aL 3))->(∀q∈kids,W l ps q.2 (b7 p))->W l ps ⟨24,w,0,[],a,kids.flatMap λq=>[q.1,q.2]⟩ w
 |kI {kids:List ae} {a:Int} {w:az}:w.aP=0->w.aj.Kind=6->kids.length<=1048576->kids.length=w.aj.ax.length->(∀(i:Nat) x p,kids[i]? =some x->w.aj.ax[i]? =some p->W l ps x (b7 p))->W l ps ⟨25,w,0,[],a,kids⟩ w
 |pair {x y:ae} {p q:ah} {a:Int} {w:az}:w.aP=0->w.aj.Kind=7->w.aj.ax[0]? =some p->w.aj.ax[1]? =some q->W l ps x (b7 p)->W l ps y (b7 q)->W l ps ⟨26,w,0,[],a,[x,y]⟩ w
 |one {x:ae} {a:Int} {w:az}:w.aP=0->w.aj.Kind=8->W l ps x (aL 3)->W l ps ⟨27,w,0,[],a,[x]⟩ w
 |write {x y z:ae} {a:Int} {w:az}:W l ps x (b7 eF)->W l ps y (aL 1)->W l ps z (aL 3)->Fit w (b7 eF)->W l ps ⟨28,b7 eF,0,[],a,[x,y,z]⟩ w
 |size {x:ae} {a:Int} {w:az}:W l ps x (aL 0)->(x.ai.aP=4\/(x.ai.aP=0/\x.ai.aj.Kind∈[4,5,9,10]))->Fit w (aL 1)->W l ps ⟨29,aL 1,0,[],a,[x]⟩ w
 |sum {x:ae} {p:ah} {a:Int} {w:az}:W l ps x (aL 0)->x.ai.aP=0->x.ai.aj.Kind=5->x.ai.aj.ax[0]? =some p->(p.Kind=2\/p.Kind=3)->Fit w (aL 1)->W l ps ⟨30,aL 1,0,[],a,[x]⟩ w
 |oN {op:Int} {x:ae} {s:Int} {ks:List Int} {a:Int} {w:az}:(op,s,ks)∈[((31:Int),(1:Int),[(2:Int),3]),(32,2,[1]),(33,4,[5,4,10]),(34,4,[8,9]),(37,2,[8,9])]->W l ps x (aL 0)->x.ai.aP=0->x.ai.aj.Kind∈ks->Fit w (aL s)->W l ps ⟨op,aL s,0,[],a,[x]⟩ w
 |part {op:Int} {i:Nat} {x:ae} {p:ah} {a:Int} {w:az}:(op=35/\i=0\/op=36/\i=1)->W l ps x (aL 0)->x.ai.aP=0->x.ai.aj.Kind=7->x.ai.aj.ax[i]? =some p->Fit w (b7 p)->W l ps ⟨op,b7 p,0,[],a,[x]⟩ w
