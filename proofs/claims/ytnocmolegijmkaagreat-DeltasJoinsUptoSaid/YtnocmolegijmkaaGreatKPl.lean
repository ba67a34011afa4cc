/- Loops over two lists, and over one, as plain functions. -/
import Derived.Test.YtnocmolegijmkaaGreatKCt
set_option linter.all false
namespace Go.Proofs.YtnocmolegijmkaaGreat
open Go Go.Bw
theorem bf {D:Type} {l:List D} {i:Nat} {x:D} (h:l[i]? =some x):aj l (i:Int)=some x:=h
theorem bo {D:Type} {l:List D} {i:Nat} (h:i<l.length):∃x,l[i]? =some x:=⟨l[i],by simp[h]⟩
theorem kr {D:Type}:∀{l:List D} {i:Nat} {x:D},l[i]? =some x->l.drop i=x::l.drop (i+1)
 |y::l,0,x,h=>by simp only[jP,aE]at h;subst h;simp
 |y::l,i+1,x,h=>by simpa using kr (l:=l) (by simpa using h)
theorem zG {D β:Type} {a:List D} {b:List β} {L:Int->Option Bool} (p:D->β->Bool) (e:Bool) (hl:a.length=b.length)
  (hs:∀(i:Nat) x y,a[i]? =some x->b[i]? =some y->i<a.length->L (i:Int)=bif p x y then L ((i+1:Nat):Int)else some false) (he:L (a.length:Int)=some e):
  L 0=some ((a.zip b).all (λq=>p q.1 q.2)&&e):=by
 have key:∀k i:Nat,k=a.length-i->i<=a.length->L (i:Int)=some (((a.drop i).zip (b.drop i)).all (λq=>p q.1 q.2)&&e):=by
  intro k
  induction k with
  |zero=>
   intro i hk hi;have:i=a.length:=by omega
   subst this;rw[he];simp
  |succ k ih=>
   intro i hk hi;have hi':i<a.length:=by omega
   obtain⟨x,hx⟩:=bo hi';obtain⟨y,hy⟩:=bo (l:=b) (by omega:i<b.length);rw[hs i x y hx hy hi',kr hx,kr hy,DL,lx];cases p x y with
   |false=>rfl
   |true=>simpa using ih (i+1) (by omega) (by omega)
 simpa using key a.length 0 (by omega) (by omega)
theorem To {D:Type} [BEq D] [LawfulBEq D]:∀{a b:List D},a.length=b.length->((a.zip b).all (λq=>q.1==q.2)=true↔a=b)
 |[],[],_=>by simp
 |x::a,y::b,h=>by
  rw[DL,lx,bS,To (by simpa using h),beq_iff_eq,kn]
 |[],_::_,h=>by simp at h
 |_::_,[],h=>by simp at h
theorem agk {D:Type} [BEq D] [LawfulBEq D] [BEq (List D)] [LawfulBEq (List D)] {a b:List D} (h:a.length=b.length):(a.zip b).all (λq=>q.1==q.2)=(a==b):=
 nF.2 ((To h).trans beq_iff_eq.symm)
def rising:List (List UInt8)->Bool
 |x::y::r=>Op.bytesLess x y&&rising (y::r)
 |_=>true
theorem kP:∀a:List UInt8,Op.bytesLess a a=false
 |[]=>rfl
 |x::a=>by
  have h:(decide (x<x))=false:=by simp
  show(decide (x<x)||(x==x&&Op.bytesLess a a))=false;rw[h,kP a];simp
theorem vc (x y:UInt8) (a b:List UInt8):Op.bytesLess (x::a) (y::b)=true↔x<y\/(x=y/\Op.bytesLess a b=true):=by
 show(decide (x<y)||(x==y&&Op.bytesLess a b))=true↔_;simp
theorem KC {x y:UInt8}:x<y↔x.toNat<y.toNat:=UInt8.lt_iff_toNat_lt
theorem ry:∀{a b c:List UInt8},Op.bytesLess a b=true->Op.bytesLess b c=true->Op.bytesLess a c=true
 |[],b,[],_,h=>by cases b<;>cases h
 |[],_,_::_,_,_=>rfl
 |_::_,[],_,h,_=>by cases h
 |_::_,_::_,[],_,h=>by cases h
 |x::a,y::b,z::c,h,g=>by
  rw[vc]at h g⊢;rcases h with h|⟨rfl,h⟩<;>rcases g with g|⟨rfl,g⟩
  ·rw[KC]at*;exact .inl (by omega)
  ·exact .inl h
  ·exact .inl g
  ·exact .inr ⟨rfl,ry h g⟩
theorem sd:∀a b:List UInt8,a=b\/Op.bytesLess a b=true\/Op.bytesLess b a=true
 |[],[]=> .inl rfl
 |[],_::_=> .inr (.inl rfl)
 |_::_,[]=> .inr (.inr rfl)
 |x::a,y::b=>by
  rw[vc,vc];by_cases h:x=y
  ·subst h;rcases sd a b with rfl|h|h
   ·exact .inl rfl
   ·exact .inr (.inl (.inr ⟨rfl,h⟩))
   ·exact .inr (.inr (.inr ⟨rfl,h⟩))
  ·have:x.toNat≠y.toNat:=λe=>h (UInt8.toNat_inj.1 e);simp only[KC];omega
theorem pQ {a b:List UInt8} (h:Op.bytesLess a b=true):Op.bytesLess b a=false:=by
 cases g:Op.bytesLess b a with
 |false=>rfl
 |true=>have:=ry h g;rw[kP]at this;cases this
theorem kN {x:List UInt8}:∀{l:List (List UInt8)},rising (x::l)=true↔(∀y∈l,Op.bytesLess x y=true)/\rising l=true
 |[]=>by simp[rising]
 |y::l=>by
  rw[show rising (x::y::l)=(Op.bytesLess x y&&rising (y::l))from rfl,bS];constructor
  ·rintro ⟨h,g⟩;refine⟨λz hz=>?_,g⟩;rcases cq.1 hz with rfl|hz
   ·exact h
   ·exact ry h ((kN.1 g).1 z hz)
  ·rintro ⟨h,g⟩;exact⟨h y (by simp),g⟩
theorem D':∀{a b:List (List UInt8)},rising a=true->rising b=true->(∀x,x∈a↔x∈b)->a=b
 |[],[],_,_,_=>rfl
 |[],y::b,_,_,h=>absurd ((h y).2 (by simp)) (by simp)
 |x::a,[],_,_,h=>absurd ((h x).1 (by simp)) (by simp)
 |x::a,y::b,ha,hb,h=>by
  rw[kN]at ha hb;have e:x=y:=by
   rcases cq.1 ((h x).1 (by simp))with e|hx
   ·exact e
   ·rcases cq.1 ((h y).2 (by simp))with e|hy
    ·exact e.symm
    ·have h1:=hb.1 x hx;have h2:=ha.1 y hy;rw[pQ h1]at h2;cases h2
  subst e;congr 1;refine D' ha.2 hb.2 λz=>?_;constructor
  ·intro hz;rcases cq.1 ((h z).1 (by simp[hz]))with rfl|h1
   ·have:=ha.1 z hz;rw[kP]at this;cases this
   ·exact h1
  ·intro hz;rcases cq.1 ((h z).2 (by simp[hz]))with rfl|h1
   ·have:=hb.1 z hz;rw[kP]at this;cases this
   ·exact h1
def l0:ag:=⟨0,0,0,[],[],[]⟩
def fI:ag:=⟨9,0,0,[],[],[]⟩
def br (n:Int):aQ:=⟨n,l0⟩
def cX (l:ag):aQ:=⟨0,l⟩
def isNone (t:aQ):Bool:=t.a6==0&&t.aD.Kind==0
def Fit (w t:aQ):Prop:=isNone w=false->w=t
def sY (c:UInt8):Bool:=(97<=c.toNat&&c.toNat<=122)||(48<=c.toNat&&c.toNat<=57)||c.toNat==45
def NV (s:List UInt8):Prop:=s.length<=16/\(∃c,s[0]? =some c/\97<=c.toNat/\c.toNat<=122)/\∀c∈s,sY c=true
def th:ab->Bool
 |⟨op,_,_,_,_,kids⟩=>op==6||(21<=op&&op<=27)||
  (op==16&&match kids with
   |[x,y]=>th x&&th y
   |_=>false)||
  (op==7&&match kids with
   |[_,x,y]=>th x&&th y
   |_=>false)
inductive W (l:ag) (ps:List TParam):ab->aQ->Prop
 |int {n a:Int} {w:aQ}: -1000000000000000<=n->n<=1000000000000000->Fit w (br 1)->W l ps ⟨1,br 1,n,[],a,[]⟩ w
 |bool {n a:Int} {w:aQ}:(n=0\/n=1)->Fit w (br 2)->W l ps ⟨2,br 2,n,[],a,[]⟩ w
 |name {t:List UInt8} {a:Int} {w:aQ}:NV t->Fit w (br 3)->W l ps ⟨3,br 3,0,t,a,[]⟩ w
 |param {i:Nat} {p:TParam} {a:Int} {w:aQ}:ps[i]? =some p->Fit w (br p.a6)->W l ps ⟨4,br p.a6,i,[],a,[]⟩ w
 |state {a:Int} {w:aQ}:Fit w (cX l)->W l ps ⟨5,cX l,0,[],a,[]⟩ w
 |Aq {a:Int} {w:aQ}:w.a6=0->isNone w=false->W l ps ⟨6,w,0,[],a,[]⟩ w
 |sS {c x y:ab} {a:Int} {w:aQ}:isNone w=false->W l ps c (br 2)->W l ps x w->W l ps y w->W l ps ⟨7,w,0,[],a,[c,x,y]⟩ w
 |wJ {c x y:ab} {a:Int} {w:aQ}:isNone w=true->W l ps c (br 2)->W l ps x (br 0)->W l ps y x.aO->W l ps ⟨7,x.aO,0,[],a,[c,x,y]⟩ w
 |wK {c x y:ab} {a:Int} {w:aQ}:isNone w=true->W l ps c (br 2)->W l ps y (br 0)->W l ps x y.aO->W l ps ⟨7,x.aO,0,[],a,[c,x,y]⟩ w
 |conn {op:Int} {x y:ab} {a:Int} {w:aQ}:(op=8\/op=9)->W l ps x (br 2)->W l ps y (br 2)->Fit w (br 2)->W l ps ⟨op,br 2,0,[],a,[x,y]⟩ w
 |not {x:ab} {a:Int} {w:aQ}:W l ps x (br 2)->Fit w (br 2)->W l ps ⟨10,br 2,0,[],a,[x]⟩ w
 |less {op:Int} {x y:ab} {a:Int} {w:aQ}:(op=11\/op=12)->W l ps x (br 1)->W l ps y (br 1)->Fit w (br 2)->W l ps ⟨op,br 2,0,[],a,[x,y]⟩ w
 |equal {x y:ab} {a:Int} {w:aQ}:W l ps x (br 0)->x.aO.a6≠0->W l ps y x.aO->Fit w (br 2)->W l ps ⟨13,br 2,0,[],a,[x,y]⟩ w
 |KU {x y:ab} {a:Int} {w:aQ}:W l ps x (br 3)->W l ps y (br 4)->Fit w (br 2)->W l ps ⟨14,br 2,0,[],a,[x,y]⟩ w
 |KV {x y:ab} {a:Int} {w:aQ}:W l ps x (br 0)->x.aO.a6=0->W l ps y x.aO->Fit w (br 2)->W l ps ⟨15,br 2,0,[],a,[x,y]⟩ w
 |KW {x y:ab} {a:Int} {w:aQ}:W l ps y (br 0)->y.aO.a6=0->W l ps x y.aO->Fit w (br 2)->W l ps ⟨15,br 2,0,[],a,[x,y]⟩ w
 |sA {x y:ab} {a:Int} {w:aQ}:isNone w=false->w.a6=0->W l ps x w->W l ps y w->W l ps ⟨16,w,0,[],a,[x,y]⟩ w
 |wm {x y:ab} {a:Int} {w:aQ}:isNone w=true->W l ps x (br 0)->x.aO.a6=0->W l ps y x.aO->W l ps ⟨16,x.aO,0,[],a,[x,y]⟩ w
 |wo {x y:ab} {a:Int} {w:aQ}:isNone w=true->W l ps y (br 0)->y.aO.a6=0->W l ps x y.aO->W l ps ⟨16,x.aO,0,[],a,[x,y]⟩ w
 |AZ {op:Int} {x y:ab} {a:Int} {w:aQ}:(op=17\/op=18)->W l ps x (br 1)->W l ps y (br 1)->Fit w (br 1)->W l ps ⟨op,br 1,0,[],a,[x,y]⟩ w
 |field {x:ab} {i:Nat} {p:ag} {a:Int} {w:aQ}:W l ps x (br 0)->x.aO.a6=0->x.aO.aD.Kind=6->i<x.aO.aD.Names.length->x.aO.aD.ai[i]? =some p->Fit w (cX p)->W l ps ⟨19,cX p,i,[],a,[x]⟩ w
 |at_ {x k:ab} {p:ag} {a:Int} {w:aQ}:W l ps x (br 0)->x.aO.a6=0->x.aO.aD.Kind=5->x.aO.aD.ai[0]? =some p->W l ps k (br 3)->Fit w (cX p)->W l ps ⟨20,cX p,0,[],a,[x,k]⟩ w
 |flag {x:ab} {a:Int} {w:aQ}:w.a6=0->w.aD.Kind=1->W l ps x (br 2)->W l ps ⟨21,w,0,[],a,[x]⟩ w
 |num {x:ab} {a:Int} {w:aQ}:w.a6=0->(w.aD.Kind=2\/w.aD.Kind=3)->W l ps x (br 1)->W l ps ⟨22,w,0,[],a,[x]⟩ w
 |KY {kids:List ab} {a:Int} {w:aQ}:w.a6=0->(w.aD.Kind=4\/w.aD.Kind=10)->kids.length<=1048576->(∀x∈kids,W l ps x (br 0))->(∀x∈kids,x.aO.a6=3\/x.aO.a6=4)->W l ps ⟨23,w,0,[],a,kids⟩ w
 |map {kids:List (ab×ab)} {p:ag} {a:Int} {w:aQ}:w.a6=0->w.aD.Kind=5->kids.length<=1048576->w.aD.ai[0]? =some p->(∀q∈kids,W l ps q.1 (br 3))->(∀q∈kids,W l ps q.2 (cX p))->W l ps ⟨24,w,0,[],a,kids.flatMap λq=>[q.1,q.2]⟩ w
 |sT {kids:List ab} {a:Int} {w:aQ}:w.a6=0->w.aD.Kind=6->kids.length<=1048576->kids.length=w.aD.ai.length->(∀(i:Nat) x p,kids[i]? =some x->w.aD.ai[i]? =some p->W l ps x (cX p))->W l ps ⟨25,w,0,[],a,kids⟩ w
 |pair {x y:ab} {p q:ag} {a:Int} {w:aQ}:w.a6=0->w.aD.Kind=7->w.aD.ai[0]? =some p->w.aD.ai[1]? =some q->W l ps x (cX p)->W l ps y (cX q)->W l ps ⟨26,w,0,[],a,[x,y]⟩ w
 |one {x:ab} {a:Int} {w:aQ}:w.a6=0->w.aD.Kind=8->W l ps x (br 3)->W l ps ⟨27,w,0,[],a,[x]⟩ w
 |write {x y z:ab} {a:Int} {w:aQ}:W l ps x (cX fI)->W l ps y (br 1)->W l ps z (br 3)->Fit w (cX fI)->W l ps ⟨28,cX fI,0,[],a,[x,y,z]⟩ w
 |size {x:ab} {a:Int} {w:aQ}:W l ps x (br 0)->(x.aO.a6=4\/(x.aO.a6=0/\x.aO.aD.Kind∈[4,5,9,10]))->Fit w (br 1)->W l ps ⟨29,br 1,0,[],a,[x]⟩ w
 |sum {x:ab} {p:ag} {a:Int} {w:aQ}:W l ps x (br 0)->x.aO.a6=0->x.aO.aD.Kind=5->x.aO.aD.ai[0]? =some p->(p.Kind=2\/p.Kind=3)->Fit w (br 1)->W l ps ⟨30,br 1,0,[],a,[x]⟩ w
 |xz {op:Int} {x:ab} {s:Int} {ks:List Int} {a:Int} {w:aQ}:(op,s,ks)∈[((31:Int),(1:Int),[(2:Int),3]),(32,2,[1]),(33,4,[5,4,10]),(34,4,[8,9]),(37,2,[8,9])]->W l ps x (br 0)->x.aO.a6=0->x.aO.aD.Kind∈ks->Fit w (br s)->W l ps ⟨op,br s,0,[],a,[x]⟩ w
 |part {op:Int} {i:Nat} {x:ab} {p:ag} {a:Int} {w:aQ}:(op=35/\i=0\/op=36/\i=1)->W l ps x (br 0)->x.aO.a6=0->x.aO.aD.Kind=7->x.aO.aD.ai[i]? =some p->Fit w (cX p)->W l ps ⟨op,cX p,0,[],a,[x]⟩ w
