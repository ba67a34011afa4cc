/- Loops over two lists, and over one, as plain functions. -/
import Derived.Test.YtnocmolegijmkaaGreatKCt
set_option linter.all false
namespace Go.Proofs.YtnocmolegijmkaaGreat
open Go Go.Bw
theorem a7 {D:Type} {l:List D} {i:Nat} {x:D} (h:l[i]? =some x):aq l (i:Int)=some x:=h
theorem bm {D:Type} {l:List D} {i:Nat} (h:i<l.length):∃x,l[i]? =some x:=⟨l[i],by simp[h]⟩
theorem jU {D:Type}:∀{l:List D} {i:Nat} {x:D},l[i]? =some x->l.drop i=x::l.drop (i+1)
 |y::l,0,x,h=>by simp only[jz,aD]at h;subst h;simp
 |y::l,i+1,x,h=>by simpa using jU (l:=l) (by simpa using h)
theorem yR {D β:Type} {a:List D} {b:List β} {L:Int->Option Bool} (p:D->β->Bool) (e:Bool) (hl:a.length=b.length)
  (hs:∀(i:Nat) x y,a[i]? =some x->b[i]? =some y->i<a.length->L (i:Int)=bif p x y then L ((i+1:Nat):Int)else some false) (he:L (a.length:Int)=some e):
  L 0=some ((a.zip b).all (λq=>p q.1 q.2)&&e):=by
 have key:∀k i:Nat,k=a.length-i->i<=a.length->L (i:Int)=some (((a.drop i).zip (b.drop i)).all (λq=>p q.1 q.2)&&e):=by
  intro k
  induction k with
  |zero=>
   intro i hk hi;have:i=a.length:=by omega
   subst this;rw[he];simp
  |succ k ih=>
   intro i hk hi;have hi':i<a.length:=by omega
   obtain⟨x,hx⟩:=bm hi';obtain⟨y,hy⟩:=bm (l:=b) (by omega:i<b.length);rw[hs i x y hx hy hi',jU hx,jU hy,Dz,kP];cases p x y with
   |false=>rfl
   |true=>simpa using ih (i+1) (by omega) (by omega)
 simpa using key a.length 0 (by omega) (by omega)
theorem UD {D:Type} [BEq D] [LawfulBEq D]:∀{a b:List D},a.length=b.length->((a.zip b).all (λq=>q.1==q.2)=true↔a=b)
 |[],[],_=>by simp
 |x::a,y::b,h=>by
  rw[Dz,kP,bN,UD (by simpa using h),beq_iff_eq,jQ]
 |[],_::_,h=>by simp at h
 |_::_,[],h=>by simp at h
theorem agu {D:Type} [BEq D] [LawfulBEq D] [BEq (List D)] [LawfulBEq (List D)] {a b:List D} (h:a.length=b.length):(a.zip b).all (λq=>q.1==q.2)=(a==b):=
 mW.2 ((UD h).trans beq_iff_eq.symm)
def rising:List (List UInt8)->Bool
 |x::y::r=>Op.bytesLess x y&&rising (y::r)
 |_=>true
theorem kr:∀a:List UInt8,Op.bytesLess a a=false
 |[]=>rfl
 |x::a=>by
  have h:(decide (x<x))=false:=by simp
  show(decide (x<x)||(x==x&&Op.bytesLess a a))=false;rw[h,kr a];simp
theorem uM (x y:UInt8) (a b:List UInt8):Op.bytesLess (x::a) (y::b)=true↔x<y\/(x=y/\Op.bytesLess a b=true):=by
 show(decide (x<y)||(x==y&&Op.bytesLess a b))=true↔_;simp
theorem Ke {x y:UInt8}:x<y↔x.toNat<y.toNat:=UInt8.lt_iff_toNat_lt
theorem qV:∀{a b c:List UInt8},Op.bytesLess a b=true->Op.bytesLess b c=true->Op.bytesLess a c=true
 |[],b,[],_,h=>by cases b<;>cases h
 |[],_,_::_,_,_=>rfl
 |_::_,[],_,h,_=>by cases h
 |_::_,_::_,[],_,h=>by cases h
 |x::a,y::b,z::c,h,g=>by
  rw[uM]at h g⊢;rcases h with h|⟨rfl,h⟩<;>rcases g with g|⟨rfl,g⟩
  ·rw[Ke]at*;exact .inl (by omega)
  ·exact .inl h
  ·exact .inl g
  ·exact .inr ⟨rfl,qV h g⟩
theorem rJ:∀a b:List UInt8,a=b\/Op.bytesLess a b=true\/Op.bytesLess b a=true
 |[],[]=> .inl rfl
 |[],_::_=> .inr (.inl rfl)
 |_::_,[]=> .inr (.inr rfl)
 |x::a,y::b=>by
  rw[uM,uM];by_cases h:x=y
  ·subst h;rcases rJ a b with rfl|h|h
   ·exact .inl rfl
   ·exact .inr (.inl (.inr ⟨rfl,h⟩))
   ·exact .inr (.inr (.inr ⟨rfl,h⟩))
  ·have:x.toNat≠y.toNat:=λe=>h (UInt8.toNat_inj.1 e);simp only[Ke];omega
theorem pn {a b:List UInt8} (h:Op.bytesLess a b=true):Op.bytesLess b a=false:=by
 cases g:Op.bytesLess b a with
 |false=>rfl
 |true=>have:=qV h g;rw[kr]at this;cases this
theorem kp {x:List UInt8}:∀{l:List (List UInt8)},rising (x::l)=true↔(∀y∈l,Op.bytesLess x y=true)/\rising l=true
 |[]=>by simp[rising]
 |y::l=>by
  rw[show rising (x::y::l)=(Op.bytesLess x y&&rising (y::l))from rfl,bN];constructor
  ·rintro ⟨h,g⟩;refine⟨λz hz=>?_,g⟩;rcases ck.1 hz with rfl|hz
   ·exact h
   ·exact qV h ((kp.1 g).1 z hz)
  ·rintro ⟨h,g⟩;exact⟨h y (by simp),g⟩
theorem D1:∀{a b:List (List UInt8)},rising a=true->rising b=true->(∀x,x∈a↔x∈b)->a=b
 |[],[],_,_,_=>rfl
 |[],y::b,_,_,h=>absurd ((h y).2 (by simp)) (by simp)
 |x::a,[],_,_,h=>absurd ((h x).1 (by simp)) (by simp)
 |x::a,y::b,ha,hb,h=>by
  rw[kp]at ha hb;have e:x=y:=by
   rcases ck.1 ((h x).1 (by simp))with e|hx
   ·exact e
   ·rcases ck.1 ((h y).2 (by simp))with e|hy
    ·exact e.symm
    ·have h1:=hb.1 x hx;have h2:=ha.1 y hy;rw[pn h1]at h2;cases h2
  subst e;congr 1;refine D1 ha.2 hb.2 λz=>?_;constructor
  ·intro hz;rcases ck.1 ((h z).1 (by simp[hz]))with rfl|h1
   ·have:=ha.1 z hz;rw[kr]at this;cases this
   ·exact h1
  ·intro hz;rcases ck.1 ((h z).2 (by simp[hz]))with rfl|h1
   ·have:=hb.1 z hz;rw[kr]at this;cases this
   ·exact h1
def l0:ai:=⟨0,0,0,[],[],[]⟩
def fx:ai:=⟨9,0,0,[],[],[]⟩
def bo (n:Int):aP:=⟨n,l0⟩
def dc (l:ai):aP:=⟨0,l⟩
def isNone (t:aP):Bool:=t.a6==0&&t.aJ.Kind==0
def Fit (w t:aP):Prop:=isNone w=false->w=t
def sC (c:UInt8):Bool:=(97<=c.toNat&&c.toNat<=122)||(48<=c.toNat&&c.toNat<=57)||c.toNat==45
def NV (s:List UInt8):Prop:=s.length<=16/\(∃c,s[0]? =some c/\97<=c.toNat/\c.toNat<=122)/\∀c∈s,sC c=true
def sH:ab->Bool
 |⟨op,_,_,_,_,kids⟩=>op==6||(21<=op&&op<=27)||
  (op==16&&match kids with
   |[x,y]=>sH x&&sH y
   |_=>false)||
  (op==7&&match kids with
   |[_,x,y]=>sH x&&sH y
   |_=>false)
inductive W (l:ai) (ps:List TParam):ab->aP->Prop
 |int {n a:Int} {w:aP}: -1000000000000000<=n->n<=1000000000000000->Fit w (bo 1)->W l ps ⟨1,bo 1,n,[],a,[]⟩ w
 |bool {n a:Int} {w:aP}:(n=0\/n=1)->Fit w (bo 2)->W l ps ⟨2,bo 2,n,[],a,[]⟩ w
 |name {t:List UInt8} {a:Int} {w:aP}:NV t->Fit w (bo 3)->W l ps ⟨3,bo 3,0,t,a,[]⟩ w
 |param {i:Nat} {p:TParam} {a:Int} {w:aP}:ps[i]? =some p->Fit w (bo p.a6)->W l ps ⟨4,bo p.a6,i,[],a,[]⟩ w
 |state {a:Int} {w:aP}:Fit w (dc l)->W l ps ⟨5,dc l,0,[],a,[]⟩ w
 |rC {a:Int} {w:aP}:w.a6=0->isNone w=false->W l ps ⟨6,w,0,[],a,[]⟩ w
 |oJ {c x y:ab} {a:Int} {w:aP}:isNone w=false->W l ps c (bo 2)->W l ps x w->W l ps y w->W l ps ⟨7,w,0,[],a,[c,x,y]⟩ w
 |v7 {c x y:ab} {a:Int} {w:aP}:isNone w=true->W l ps c (bo 2)->W l ps x (bo 0)->W l ps y x.aO->W l ps ⟨7,x.aO,0,[],a,[c,x,y]⟩ w
 |v8 {c x y:ab} {a:Int} {w:aP}:isNone w=true->W l ps c (bo 2)->W l ps y (bo 0)->W l ps x y.aO->W l ps ⟨7,x.aO,0,[],a,[c,x,y]⟩ w
 |conn {op:Int} {x y:ab} {a:Int} {w:aP}:(op=8\/op=9)->W l ps x (bo 2)->W l ps y (bo 2)->Fit w (bo 2)->W l ps ⟨op,bo 2,0,[],a,[x,y]⟩ w
 |not {x:ab} {a:Int} {w:aP}:W l ps x (bo 2)->Fit w (bo 2)->W l ps ⟨10,bo 2,0,[],a,[x]⟩ w
 |less {op:Int} {x y:ab} {a:Int} {w:aP}:(op=11\/op=12)->W l ps x (bo 1)->W l ps y (bo 1)->Fit w (bo 2)->W l ps ⟨op,bo 2,0,[],a,[x,y]⟩ w
 |equal {x y:ab} {a:Int} {w:aP}:W l ps x (bo 0)->x.aO.a6≠0->W l ps y x.aO->Fit w (bo 2)->W l ps ⟨13,bo 2,0,[],a,[x,y]⟩ w
 |Az {x y:ab} {a:Int} {w:aP}:W l ps x (bo 3)->W l ps y (bo 4)->Fit w (bo 2)->W l ps ⟨14,bo 2,0,[],a,[x,y]⟩ w
 |AA {x y:ab} {a:Int} {w:aP}:W l ps x (bo 0)->x.aO.a6=0->W l ps y x.aO->Fit w (bo 2)->W l ps ⟨15,bo 2,0,[],a,[x,y]⟩ w
 |AB {x y:ab} {a:Int} {w:aP}:W l ps y (bo 0)->y.aO.a6=0->W l ps x y.aO->Fit w (bo 2)->W l ps ⟨15,bo 2,0,[],a,[x,y]⟩ w
 |qe {x y:ab} {a:Int} {w:aP}:isNone w=false->w.a6=0->W l ps x w->W l ps y w->W l ps ⟨16,w,0,[],a,[x,y]⟩ w
 |vK {x y:ab} {a:Int} {w:aP}:isNone w=true->W l ps x (bo 0)->x.aO.a6=0->W l ps y x.aO->W l ps ⟨16,x.aO,0,[],a,[x,y]⟩ w
 |vL {x y:ab} {a:Int} {w:aP}:isNone w=true->W l ps y (bo 0)->y.aO.a6=0->W l ps x y.aO->W l ps ⟨16,x.aO,0,[],a,[x,y]⟩ w
 |qn {op:Int} {x y:ab} {a:Int} {w:aP}:(op=17\/op=18)->W l ps x (bo 1)->W l ps y (bo 1)->Fit w (bo 1)->W l ps ⟨op,bo 1,0,[],a,[x,y]⟩ w
 |field {x:ab} {i:Nat} {p:ai} {a:Int} {w:aP}:W l ps x (bo 0)->x.aO.a6=0->x.aO.aJ.Kind=6->i<x.aO.aJ.Names.length->x.aO.aJ.ak[i]? =some p->Fit w (dc p)->W l ps ⟨19,dc p,i,[],a,[x]⟩ w
 |at_ {x k:ab} {p:ai} {a:Int} {w:aP}:W l ps x (bo 0)->x.aO.a6=0->x.aO.aJ.Kind=5->x.aO.aJ.ak[0]? =some p->W l ps k (bo 3)->Fit w (dc p)->W l ps ⟨20,dc p,0,[],a,[x,k]⟩ w
 |flag {x:ab} {a:Int} {w:aP}:w.a6=0->w.aJ.Kind=1->W l ps x (bo 2)->W l ps ⟨21,w,0,[],a,[x]⟩ w
 |num {x:ab} {a:Int} {w:aP}:w.a6=0->(w.aJ.Kind=2\/w.aJ.Kind=3)->W l ps x (bo 1)->W l ps ⟨22,w,0,[],a,[x]⟩ w
 |AF {kids:List ab} {a:Int} {w:aP}:w.a6=0->(w.aJ.Kind=4\/w.aJ.Kind=10)->kids.length<=1048576->(∀x∈kids,W l ps x (bo 0))->(∀x∈kids,x.aO.a6=3\/x.aO.a6=4)->W l ps ⟨23,w,0,[],a,kids⟩ w
 |map {kids:List (ab×ab)} {p:ai} {a:Int} {w:aP}:w.a6=0->w.aJ.Kind=5->kids.length<=1048576->w.aJ.ak[0]? =some p->(∀q∈kids,W l ps q.1 (bo 3))->(∀q∈kids,W l ps q.2 (dc p))->W l ps ⟨24,w,0,[],a,kids.flatMap λq=>[q.1,q.2]⟩ w
 |ql {kids:List ab} {a:Int} {w:aP}:w.a6=0->w.aJ.Kind=6->kids.length<=1048576->kids.length=w.aJ.ak.length->(∀(i:Nat) x p,kids[i]? =some x->w.aJ.ak[i]? =some p->W l ps x (dc p))->W l ps ⟨25,w,0,[],a,kids⟩ w
 |pair {x y:ab} {p q:ai} {a:Int} {w:aP}:w.a6=0->w.aJ.Kind=7->w.aJ.ak[0]? =some p->w.aJ.ak[1]? =some q->W l ps x (dc p)->W l ps y (dc q)->W l ps ⟨26,w,0,[],a,[x,y]⟩ w
 |one {x:ab} {a:Int} {w:aP}:w.a6=0->w.aJ.Kind=8->W l ps x (bo 3)->W l ps ⟨27,w,0,[],a,[x]⟩ w
 |write {x y z:ab} {a:Int} {w:aP}:W l ps x (dc fx)->W l ps y (bo 1)->W l ps z (bo 3)->Fit w (dc fx)->W l ps ⟨28,dc fx,0,[],a,[x,y,z]⟩ w
 |size {x:ab} {a:Int} {w:aP}:W l ps x (bo 0)->(x.aO.a6=4\/(x.aO.a6=0/\x.aO.aJ.Kind∈[4,5,9,10]))->Fit w (bo 1)->W l ps ⟨29,bo 1,0,[],a,[x]⟩ w
 |sum {x:ab} {p:ai} {a:Int} {w:aP}:W l ps x (bo 0)->x.aO.a6=0->x.aO.aJ.Kind=5->x.aO.aJ.ak[0]? =some p->(p.Kind=2\/p.Kind=3)->Fit w (bo 1)->W l ps ⟨30,bo 1,0,[],a,[x]⟩ w
 |sL {op:Int} {x:ab} {s:Int} {ks:List Int} {a:Int} {w:aP}:(op,s,ks)∈[((31:Int),(1:Int),[(2:Int),3]),(32,2,[1]),(33,4,[5,4,10]),(34,4,[8,9]),(37,2,[8,9])]->W l ps x (bo 0)->x.aO.a6=0->x.aO.aJ.Kind∈ks->Fit w (bo s)->W l ps ⟨op,bo s,0,[],a,[x]⟩ w
 |part {op:Int} {i:Nat} {x:ab} {p:ai} {a:Int} {w:aP}:(op=35/\i=0\/op=36/\i=1)->W l ps x (bo 0)->x.aO.a6=0->x.aO.aJ.Kind=7->x.aO.aJ.ak[i]? =some p->Fit w (dc p)->W l ps ⟨op,dc p,0,[],a,[x]⟩ w
