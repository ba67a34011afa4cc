/- Loops over two lists, and over one, as plain functions. -/
import Derived.Test.YthlcjaanmbjcaaaGreatKCt
set_option linter.all false
namespace Go.Proofs.YthlcjaanmbjcaaaGreat
open Go Go.Bw
theorem b0 {D:Type} {l:List D} {i:Nat} {x:D} (h:l[i]? =some x):aq l (i:Int)=some x:=h
theorem b3 {D:Type} {l:List D} {i:Nat} (h:i<l.length):∃x,l[i]? =some x:=⟨l[i],by simp[h]⟩
theorem jo {D:Type}:∀{l:List D} {i:Nat} {x:D},l[i]? =some x->l.drop i=x::l.drop (i+1)
 |y::l,0,x,h=>by simp only[o7,ao]at h;subst h;simp
 |y::l,i+1,x,h=>by simpa using jo (l:=l) (by simpa using h)
theorem sJ {D β:Type} {a:List D} {b:List β} {L:Int->Option Bool} (p:D->β->Bool) (e:Bool) (hl:a.length=b.length)
  (hs:∀(i:Nat) x y,a[i]? =some x->b[i]? =some y->i<a.length->L (i:Int)=bif p x y then L ((i+1:Nat):Int)else some false) (he:L (a.length:Int)=some e):
  L 0=some ((a.zip b).all (λq=>p q.1 q.2)&&e):=by
 have key:∀k i:Nat,k=a.length-i->i<=a.length->L (i:Int)=some (((a.drop i).zip (b.drop i)).all (λq=>p q.1 q.2)&&e):=by
  intro k
  induction k with
  |zero=>
   intro i hk hi;have:i=a.length:=by omega
   subst this;rw[he];simp
  |succ k ih=>
   intro i hk hi;have hi':i<a.length:=by omega
   obtain⟨x,hx⟩:=b3 hi';obtain⟨y,hy⟩:=b3 (l:=b) (by omega:i<b.length);rw[hs i x y hx hy hi',jo hx,jo hy,u2,gS];cases p x y with
   |false=>rfl
   |true=>simpa using ih (i+1) (by omega) (by omega)
 simpa using key a.length 0 (by omega) (by omega)
theorem Fc {D:Type} [BEq D] [LawfulBEq D]:∀{a b:List D},a.length=b.length->((a.zip b).all (λq=>q.1==q.2)=true↔a=b)
 |[],[],_=>by simp
 |x::a,y::b,h=>by
  rw[u2,gS,bn,Fc (by simpa using h),beq_iff_eq,jb]
 |[],_::_,h=>by simp at h
 |_::_,[],h=>by simp at h
theorem NL {D:Type} [BEq D] [LawfulBEq D] [BEq (List D)] [LawfulBEq (List D)] {a b:List D} (h:a.length=b.length):(a.zip b).all (λq=>q.1==q.2)=(a==b):=
 kF.2 ((Fc h).trans beq_iff_eq.symm)
def rising:List (List UInt8)->Bool
 |x::y::r=>Op.bytesLess x y&&rising (y::r)
 |_=>true
def l0:af:=⟨0,0,0,[],[],[]⟩
def eZ:af:=⟨9,0,0,[],[],[]⟩
def a7 (n:Int):aB:=⟨n,l0⟩
def bG (l:af):aB:=⟨0,l⟩
def isNone (t:aB):Bool:=t.aS==0&&t.aF.Kind==0
def Fit (w t:aB):Prop:=isNone w=false->w=t
def jE (c:UInt8):Bool:=(97<=c.toNat&&c.toNat<=122)||(48<=c.toNat&&c.toNat<=57)||c.toNat==45
def NV (s:List UInt8):Prop:=s.length<=16/\(∃c,s[0]? =some c/\97<=c.toNat/\c.toNat<=122)/\∀c∈s,jE c=true
def my:ab->Bool
 |⟨op,_,_,_,_,kids⟩=>op==6||(21<=op&&op<=27)||
  (op==16&&match kids with
   |[x,y]=>my x&&my y
   |_=>false)||
  (op==7&&match kids with
   |[_,x,y]=>my x&&my y
   |_=>false)
inductive W (l:af) (ps:List TParam):ab->aB->Prop
 |int {n a:Int} {w:aB}: -1000000000000000<=n->n<=1000000000000000->Fit w (a7 1)->W l ps ⟨1,a7 1,n,[],a,[]⟩ w
 |bool {n a:Int} {w:aB}:(n=0\/n=1)->Fit w (a7 2)->W l ps ⟨2,a7 2,n,[],a,[]⟩ w
 |name {t:List UInt8} {a:Int} {w:aB}:NV t->Fit w (a7 3)->W l ps ⟨3,a7 3,0,t,a,[]⟩ w
 |param {i:Nat} {p:TParam} {a:Int} {w:aB}:ps[i]? =some p->Fit w (a7 p.aS)->W l ps ⟨4,a7 p.aS,i,[],a,[]⟩ w
 |state {a:Int} {w:aB}:Fit w (bG l)->W l ps ⟨5,bG l,0,[],a,[]⟩ w
 |xj {a:Int} {w:aB}:w.aS=0->isNone w=false->W l ps ⟨6,w,0,[],a,[]⟩ w
 |Hg {c x y:ab} {a:Int} {w:aB}:isNone w=false->W l ps c (a7 2)->W l ps x w->W l ps y w->W l ps ⟨7,w,0,[],a,[c,x,y]⟩ w
 |Hh {c x y:ab} {a:Int} {w:aB}:isNone w=true->W l ps c (a7 2)->W l ps x (a7 0)->W l ps y x.aA->W l ps ⟨7,x.aA,0,[],a,[c,x,y]⟩ w
 |Hk {c x y:ab} {a:Int} {w:aB}:isNone w=true->W l ps c (a7 2)->W l ps y (a7 0)->W l ps x y.aA->W l ps ⟨7,x.aA,0,[],a,[c,x,y]⟩ w
 |conn {op:Int} {x y:ab} {a:Int} {w:aB}:(op=8\/op=9)->W l ps x (a7 2)->W l ps y (a7 2)->Fit w (a7 2)->W l ps ⟨op,a7 2,0,[],a,[x,y]⟩ w
 |not {x:ab} {a:Int} {w:aB}:W l ps x (a7 2)->Fit w (a7 2)->W l ps ⟨10,a7 2,0,[],a,[x]⟩ w
 |less {op:Int} {x y:ab} {a:Int} {w:aB}:(op=11\/op=12)->W l ps x (a7 1)->W l ps y (a7 1)->Fit w (a7 2)->W l ps ⟨op,a7 2,0,[],a,[x,y]⟩ w
 |equal {x y:ab} {a:Int} {w:aB}:W l ps x (a7 0)->x.aA.aS≠0->W l ps y x.aA->Fit w (a7 2)->W l ps ⟨13,a7 2,0,[],a,[x,y]⟩ w
 |Hl {x y:ab} {a:Int} {w:aB}:W l ps x (a7 3)->W l ps y (a7 4)->Fit w (a7 2)->W l ps ⟨14,a7 2,0,[],a,[x,y]⟩ w
 |Hm {x y:ab} {a:Int} {w:aB}:W l ps x (a7 0)->x.aA.aS=0->W l ps y x.aA->Fit w (a7 2)->W l ps ⟨15,a7 2,0,[],a,[x,y]⟩ w
 |Hn {x y:ab} {a:Int} {w:aB}:W l ps y (a7 0)->y.aA.aS=0->W l ps x y.aA->Fit w (a7 2)->W l ps ⟨15,a7 2,0,[],a,[x,y]⟩ w
 |GW {x y:ab} {a:Int} {w:aB}:isNone w=false->w.aS=0->W l ps x w->W l ps y w->W l ps ⟨16,w,0,[],a,[x,y]⟩ w
 |GX {x y:ab} {a:Int} {w:aB}:isNone w=true->W l ps x (a7 0)->x.aA.aS=0->W l ps y x.aA->W l ps ⟨16,x.aA,0,[],a,[x,y]⟩ w
 |GY {x y:ab} {a:Int} {w:aB}:isNone w=true->W l ps y (a7 0)->y.aA.aS=0->W l ps x y.aA->W l ps ⟨16,x.aA,0,[],a,[x,y]⟩ w
 |yB {op:Int} {x y:ab} {a:Int} {w:aB}:(op=17\/op=18)->W l ps x (a7 1)->W l ps y (a7 1)->Fit w (a7 1)->W l ps ⟨op,a7 1,0,[],a,[x,y]⟩ w
 |field {x:ab} {i:Nat} {p:af} {a:Int} {w:aB}:W l ps x (a7 0)->x.aA.aS=0->x.aA.aF.Kind=6->i<x.aA.aF.Names.length->x.aA.aF.az[i]? =some p->Fit w (bG p)->W l ps ⟨19,bG p,i,[],a,[x]⟩ w
 |at_ {x k:ab} {p:af} {a:Int} {w:aB}:W l ps x (a7 0)->x.aA.aS=0->x.aA.aF.Kind=5->x.aA.aF.az[0]? =some p->W l ps k (a7 3)->Fit w (bG p)->W l ps ⟨20,bG p,0,[],a,[x,k]⟩ w
 |flag {x:ab} {a:Int} {w:aB}:w.aS=0->w.aF.Kind=1->W l ps x (a7 2)->W l ps ⟨21,w,0,[],a,[x]⟩ w
 |num {x:ab} {a:Int} {w:aB}:w.aS=0->(w.aF.Kind=2\/w.aF.Kind=3)->W l ps x (a7 1)->W l ps ⟨22,w,0,[],a,[x]⟩ w
 |Ho {kids:List ab} {a:Int} {w:aB}:w.aS=0->(w.aF.Kind=4\/w.aF.Kind=10)->(∀x∈kids,W l ps x (a7 0))->(∀x∈kids,x.aA.aS=3\/x.aA.aS=4)->W l ps ⟨23,w,0,[],a,kids⟩ w
 |map {kids:List (ab×ab)} {p:af} {a:Int} {w:aB}:w.aS=0->w.aF.Kind=5->w.aF.az[0]? =some p->(∀q∈kids,W l ps q.1 (a7 3))->(∀q∈kids,W l ps q.2 (bG p))->W l ps ⟨24,w,0,[],a,kids.flatMap λq=>[q.1,q.2]⟩ w
 |Hq {kids:List ab} {a:Int} {w:aB}:w.aS=0->w.aF.Kind=6->kids.length=w.aF.az.length->(∀(i:Nat) x p,kids[i]? =some x->w.aF.az[i]? =some p->W l ps x (bG p))->W l ps ⟨25,w,0,[],a,kids⟩ w
 |pair {x y:ab} {p q:af} {a:Int} {w:aB}:w.aS=0->w.aF.Kind=7->w.aF.az[0]? =some p->w.aF.az[1]? =some q->W l ps x (bG p)->W l ps y (bG q)->W l ps ⟨26,w,0,[],a,[x,y]⟩ w
 |one {x:ab} {a:Int} {w:aB}:w.aS=0->w.aF.Kind=8->W l ps x (a7 3)->W l ps ⟨27,w,0,[],a,[x]⟩ w
 |write {x y z:ab} {a:Int} {w:aB}:W l ps x (bG eZ)->W l ps y (a7 1)->W l ps z (a7 3)->Fit w (bG eZ)->W l ps ⟨28,bG eZ,0,[],a,[x,y,z]⟩ w
 |size {x:ab} {a:Int} {w:aB}:W l ps x (a7 0)->(x.aA.aS=4\/(x.aA.aS=0/\x.aA.aF.Kind∈[4,5,9,10]))->Fit w (a7 1)->W l ps ⟨29,a7 1,0,[],a,[x]⟩ w
 |sum {x:ab} {p:af} {a:Int} {w:aB}:W l ps x (a7 0)->x.aA.aS=0->x.aA.aF.Kind=5->x.aA.aF.az[0]? =some p->(p.Kind=2\/p.Kind=3)->Fit w (a7 1)->W l ps ⟨30,a7 1,0,[],a,[x]⟩ w
 |Il {op:Int} {x:ab} {s:Int} {ks:List Int} {a:Int} {w:aB}:(op,s,ks)∈[((31:Int),(1:Int),[(2:Int),3]),(32,2,[1]),(33,4,[5,4,10]),(34,4,[8,9]),(37,2,[8,9])]->W l ps x (a7 0)->x.aA.aS=0->x.aA.aF.Kind∈ks->Fit w (a7 s)->W l ps ⟨op,a7 s,0,[],a,[x]⟩ w
 |part {op:Int} {i:Nat} {x:ab} {p:af} {a:Int} {w:aB}:(op=35/\i=0\/op=36/\i=1)->W l ps x (a7 0)->x.aA.aS=0->x.aA.aF.Kind=7->x.aA.aF.az[i]? =some p->Fit w (bG p)->W l ps ⟨op,bG p,0,[],a,[x]⟩ w
