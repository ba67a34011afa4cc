/- Loops over two lists, and over one, as plain functions. -/
import Derived.Test.YtnocmolegijmkaaGreatKCt
set_option linter.all false
namespace Go.Proofs.YtnocmolegijmkaaGreat
open Go Go.Bw
theorem bc {D:Type} {l:List D} {i:Nat} {x:D} (h:l[i]? =some x):ao l (i:Int)=some x:=h
theorem bg {D:Type} {l:List D} {i:Nat} (h:i<l.length):∃x,l[i]? =some x:=⟨l[i],by simp[h]⟩
theorem mX {D:Type}:∀{l:List D} {i:Nat} {x:D},l[i]? =some x->l.drop i=x::l.drop (i+1)
 |y::l,0,x,h=>by simp only[mO,aE]at h;subst h;simp
 |y::l,i+1,x,h=>by simpa using mX (l:=l) (by simpa using h)
theorem og {D β:Type} {a:List D} {b:List β} {L:Int->Option Bool} (p:D->β->Bool) (e:Bool) (hl:a.length=b.length)
  (hs:∀(i:Nat) x y,a[i]? =some x->b[i]? =some y->i<a.length->L (i:Int)=bif p x y then L ((i+1:Nat):Int)else some false) (he:L (a.length:Int)=some e):
  L 0=some ((a.zip b).all (λq=>p q.1 q.2)&&e):=by
 have key:∀k i:Nat,k=a.length-i->i<=a.length->L (i:Int)=some (((a.drop i).zip (b.drop i)).all (λq=>p q.1 q.2)&&e):=by
  intro k
  induction k with
  |zero=>
   intro i hk hi;have:i=a.length:=by omega
   subst this;rw[he];simp
  |succ k ih=>
   intro i hk hi;have hi':i<a.length:=by omega
   obtain⟨x,hx⟩:=bg hi';obtain⟨y,hy⟩:=bg (l:=b) (by omega:i<b.length);rw[hs i x y hx hy hi',mX hx,mX hy,Aq,kx];cases p x y with
   |false=>rfl
   |true=>simpa using ih (i+1) (by omega) (by omega)
 simpa using key a.length 0 (by omega) (by omega)
theorem NK {D:Type} [BEq D] [LawfulBEq D]:∀{a b:List D},a.length=b.length->((a.zip b).all (λq=>q.1==q.2)=true↔a=b)
 |[],[],_=>by simp
 |x::a,y::b,h=>by
  rw[Aq,kx,bG,NK (by simpa using h),beq_iff_eq,ll]
 |[],_::_,h=>by simp at h
 |_::_,[],h=>by simp at h
theorem X7 {D:Type} [BEq D] [LawfulBEq D] [BEq (List D)] [LawfulBEq (List D)] {a b:List D} (h:a.length=b.length):(a.zip b).all (λq=>q.1==q.2)=(a==b):=
 iP.2 ((NK h).trans beq_iff_eq.symm)
def rising:List (List UInt8)->Bool
 |x::y::r=>Op.bytesLess x y&&rising (y::r)
 |_=>true
def l0:ah:=⟨0,0,0,[],[],[]⟩
def eE:ah:=⟨9,0,0,[],[],[]⟩
def aL (n:Int):ay:=⟨n,l0⟩
def bN (l:ah):ay:=⟨0,l⟩
def isNone (t:ay):Bool:=t.aK==0&&t.ai.Kind==0
def Fit (w t:ay):Prop:=isNone w=false->w=t
def jD (c:UInt8):Bool:=(97<=c.toNat&&c.toNat<=122)||(48<=c.toNat&&c.toNat<=57)||c.toNat==45
def NV (s:List UInt8):Prop:=s.length<=16/\(∃c,s[0]? =some c/\97<=c.toNat/\c.toNat<=122)/\∀c∈s,jD c=true
def sq:ab->Bool
 |⟨op,_,_,_,_,kids⟩=>op==6||(21<=op&&op<=27)||
  (op==16&&match kids with
   |[x,y]=>sq x&&sq y
   |_=>false)||
  (op==7&&match kids with
   |[_,x,y]=>sq x&&sq y
   |_=>false)
inductive W (l:ah) (ps:List TParam):ab->ay->Prop
 |int {n a:Int} {w:ay}: -1000000000000000<=n->n<=1000000000000000->Fit w (aL 1)->W l ps ⟨1,aL 1,n,[],a,[]⟩ w
 |bool {n a:Int} {w:ay}:(n=0\/n=1)->Fit w (aL 2)->W l ps ⟨2,aL 2,n,[],a,[]⟩ w
 |name {t:List UInt8} {a:Int} {w:ay}:NV t->Fit w (aL 3)->W l ps ⟨3,aL 3,0,t,a,[]⟩ w
 |param {i:Nat} {p:TParam} {a:Int} {w:ay}:ps[i]? =some p->Fit w (aL p.aK)->W l ps ⟨4,aL p.aK,i,[],a,[]⟩ w
 |state {a:Int} {w:ay}:Fit w (bN l)->W l ps ⟨5,bN l,0,[],a,[]⟩ w
 |jl {a:Int} {w:ay}:w.aK=0->isNone w=false->W l ps ⟨6,w,0,[],a,[]⟩ w
 |iX {c x y:ab} {a:Int} {w:ay}:isNone w=false->W l ps c (aL 2)->W l ps x w->W l ps y w->W l ps ⟨7,w,0,[],a,[c,x,y]⟩ w
 |kY {c x y:ab} {a:Int} {w:ay}:isNone w=true->W l ps c (aL 2)->W l ps x (aL 0)->W l ps y x.aj->W l ps ⟨7,x.aj,0,[],a,[c,x,y]⟩ w
 |kZ {c x y:ab} {a:Int} {w:ay}:isNone w=true->W l ps c (aL 2)->W l ps y (aL 0)->W l ps x y.aj->W l ps ⟨7,x.aj,0,[],a,[c,x,y]⟩ w
 |conn {op:Int} {x y:ab} {a:Int} {w:ay}:(op=8\/op=9)->W l ps x (aL 2)->W l ps y (aL 2)->Fit w (aL 2)->W l ps ⟨op,aL 2,0,[],a,[x,y]⟩ w
 |not {x:ab} {a:Int} {w:ay}:W l ps x (aL 2)->Fit w (aL 2)->W l ps ⟨10,aL 2,0,[],a,[x]⟩ w
 |less {op:Int} {x y:ab} {a:Int} {w:ay}:(op=11\/op=12)->W l ps x (aL 1)->W l ps y (aL 1)->Fit w (aL 2)->W l ps ⟨op,aL 2,0,[],a,[x,y]⟩ w
 |equal {x y:ab} {a:Int} {w:ay}:W l ps x (aL 0)->x.aj.aK≠0->W l ps y x.aj->Fit w (aL 2)->W l ps ⟨13,aL 2,0,[],a,[x,y]⟩ w
 |mC {x y:ab} {a:Int} {w:ay}:W l ps x (aL 3)->W l ps y (aL 4)->Fit w (aL 2)->W l ps ⟨14,aL 2,0,[],a,[x,y]⟩ w
 |mD {x y:ab} {a:Int} {w:ay}:W l ps x (aL 0)->x.aj.aK=0->W l ps y x.aj->Fit w (aL 2)->W l ps ⟨15,aL 2,0,[],a,[x,y]⟩ w
 |mE {x y:ab} {a:Int} {w:ay}:W l ps y (aL 0)->y.aj.aK=0->W l ps x y.aj->Fit w (aL 2)->W l ps ⟨15,aL 2,0,[],a,[x,y]⟩ w
 |jt {x y:ab} {a:Int} {w:ay}:isNone w=false->w.aK=0->W l ps x w->W l ps y w->W l ps ⟨16,w,0,[],a,[x,y]⟩ w
 |kQ {x y:ab} {a:Int} {w:ay}:isNone w=true->W l ps x (aL 0)->x.aj.aK=0->W l ps y x.aj->W l ps ⟨16,x.aj,0,[],a,[x,y]⟩ w
 |kR {x y:ab} {a:Int} {w:ay}:isNone w=true->W l ps y (aL 0)->y.aj.aK=0->W l ps x y.aj->W l ps ⟨16,x.aj,0,[],a,[x,y]⟩ w
 |jA {op:Int} {x y:ab} {a:Int} {w:ay}:(op=17\/op=18)->W l ps x (aL 1)->W l ps y (aL 1)->Fit w (aL 1)->W l ps ⟨op,aL 1,0,[],a,[x,y]⟩ w
 |field {x:ab} {i:Nat} {p:ah} {a:Int} {w:ay}:W l ps x (aL 0)->x.aj.aK=0->x.aj.ai.Kind=6->i<x.aj.ai.Names.length->x.aj.ai.aw[i]? =some p->Fit w (bN p)->W l ps ⟨19,bN p,i,[],a,[x]⟩ w
 |at_ {x k:ab} {p:ah} {a:Int} {w:ay}:W l ps x (aL 0)->x.aj.aK=0->x.aj.ai.Kind=5->x.aj.ai.aw[0]? =some p->W l ps k (aL 3)->Fit w (bN p)->W l ps ⟨20,bN p,0,[],a,[x,k]⟩ w
 |flag {x:ab} {a:Int} {w:ay}:w.aK=0->w.ai.Kind=1->W l ps x (aL 2)->W l ps ⟨21,w,0,[],a,[x]⟩ w
 |num {x:ab} {a:Int} {w:ay}:w.aK=0->(w.ai.Kind=2\/w.ai.Kind=3)->W l ps x (aL 1)->W l ps ⟨22,w,0,[],a,[x]⟩ w
 |iY {kids:List ab} {a:Int} {w:ay}:w.aK=0->(w.ai.Kind=4\/w.ai.Kind=10)->kids.length<=1048576->(∀x∈kids,W l ps x (aL 0))->(∀x∈kids,x.aj.aK=3\/x.aj.aK=4)->W l ps ⟨23,w,0,[],a,kids⟩ w
 |map {kids:List (ab×ab)} {p:ah} {a:Int} {w:ay}:w.aK=0->w.ai.Kind=5->kids.length<=1048576->w.ai.aw[0]? =some p->(∀q∈kids,W l ps q.1 (aL 3))->(∀q∈kids,W l ps q.2 (bN p))->W l ps ⟨24,w,0,[],a,kids.flatMap λq=>[q.1,q.2]⟩ w
 |gT {kids:List ab} {a:Int} {w:ay}:w.aK=0->w.ai.Kind=6->kids.length<=1048576->kids.length=w.ai.aw.length->(∀(i:Nat) x p,kids[i]? =some x->w.ai.aw[i]? =some p->W l ps x (bN p))->W l ps ⟨25,w,0,[],a,kids⟩ w
 |pair {x y:ab} {p q:ah} {a:Int} {w:ay}:w.aK=0->w.ai.Kind=7->w.ai.aw[0]? =some p->w.ai.aw[1]? =some q->W l ps x (bN p)->W l ps y (bN q)->W l ps ⟨26,w,0,[],a,[x,y]⟩ w
 |one {x:ab} {a:Int} {w:ay}:w.aK=0->w.ai.Kind=8->W l ps x (aL 3)->W l ps ⟨27,w,0,[],a,[x]⟩ w
 |write {x y z:ab} {a:Int} {w:ay}:W l ps x (bN eE)->W l ps y (aL 1)->W l ps z (aL 3)->Fit w (bN eE)->W l ps ⟨28,bN eE,0,[],a,[x,y,z]⟩ w
 |size {x:ab} {a:Int} {w:ay}:W l ps x (aL 0)->(x.aj.aK=4\/(x.aj.aK=0/\x.aj.ai.Kind∈[4,5,9,10]))->Fit w (aL 1)->W l ps ⟨29,aL 1,0,[],a,[x]⟩ w
 |sum {x:ab} {p:ah} {a:Int} {w:ay}:W l ps x (aL 0)->x.aj.aK=0->x.aj.ai.Kind=5->x.aj.ai.aw[0]? =some p->(p.Kind=2\/p.Kind=3)->Fit w (aL 1)->W l ps ⟨30,aL 1,0,[],a,[x]⟩ w
 |lj {op:Int} {x:ab} {s:Int} {ks:List Int} {a:Int} {w:ay}:(op,s,ks)∈[((31:Int),(1:Int),[(2:Int),3]),(32,2,[1]),(33,4,[5,4,10]),(34,4,[8,9]),(37,2,[8,9])]->W l ps x (aL 0)->x.aj.aK=0->x.aj.ai.Kind∈ks->Fit w (aL s)->W l ps ⟨op,aL s,0,[],a,[x]⟩ w
 |part {op:Int} {i:Nat} {x:ab} {p:ah} {a:Int} {w:ay}:(op=35/\i=0\/op=36/\i=1)->W l ps x (aL 0)->x.aj.aK=0->x.aj.ai.Kind=7->x.aj.ai.aw[i]? =some p->Fit w (bN p)->W l ps ⟨op,bN p,0,[],a,[x]⟩ w
