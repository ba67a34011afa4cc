/- Loops over two lists, and over one, as plain functions. -/
import Derived.Test.YtfgnmgbiijpkiaaGreatKCt
set_option linter.all false
namespace Go.Proofs.YtfgnmgbiijpkiaaGreat
open Go Go.Bw
theorem bW {D:Type} {l:List D} {i:Nat} {x:D} (h:l[i]? =some x):ax l (i:Int)=some x:=h
theorem cn {D:Type} {l:List D} {i:Nat} (h:i<l.length):∃x,l[i]? =some x:=⟨l[i],by simp[h]⟩
theorem pq {D:Type}:∀{l:List D} {i:Nat} {x:D},l[i]? =some x->l.drop i=x::l.drop (i+1)
 |y::l,0,x,h=>by simp only[oN,aA]at h;subst h;simp
 |y::l,i+1,x,h=>by simpa using pq (l:=l) (by simpa using h)
theorem pr {D β:Type} {a:List D} {b:List β} {L:Int->Option Bool} (p:D->β->Bool) (e:Bool) (hl:a.length=b.length)
  (hs:∀(i:Nat) x y,a[i]? =some x->b[i]? =some y->i<a.length->L (i:Int)=bif p x y then L ((i+1:Nat):Int)else some false) (he:L (a.length:Int)=some e):
  L 0=some ((a.zip b).all (λq=>p q.1 q.2)&&e):=by
 have key:∀k i:Nat,k=a.length-i->i<=a.length->L (i:Int)=some (((a.drop i).zip (b.drop i)).all (λq=>p q.1 q.2)&&e):=by
  intro k
  induction k with
  |zero=>
   intro i hk hi;have:i=a.length:=by omega
   subst this;rw[he];simp
  |succ k ih=>
   intro i hk hi;have hi':i<a.length:=by omega
   obtain⟨x,hx⟩:=cn hi';obtain⟨y,hy⟩:=cn (l:=b) (by omega:i<b.length);rw[hs i x y hx hy hi',pq hx,pq hy,xx,jg];cases p x y with
   |false=>rfl
   |true=>simpa using ih (i+1) (by omega) (by omega)
 simpa using key a.length 0 (by omega) (by omega)
theorem Hm {D:Type} [BEq D] [LawfulBEq D]:∀{a b:List D},a.length=b.length->((a.zip b).all (λq=>q.1==q.2)=true↔a=b)
 |[],[],_=>by simp
 |x::a,y::b,h=>by
  rw[xx,jg,bI,Hm (by simpa using h),beq_iff_eq,jK]
 |[],_::_,h=>by simp at h
 |_::_,[],h=>by simp at h
theorem Qx {D:Type} [BEq D] [LawfulBEq D] [BEq (List D)] [LawfulBEq (List D)] {a b:List D} (h:a.length=b.length):(a.zip b).all (λq=>q.1==q.2)=(a==b):=
 gx.2 ((Hm h).trans beq_iff_eq.symm)
def rising:List (List UInt8)->Bool
 |x::y::r=>Op.bytesLess x y&&rising (y::r)
 |_=>true
def l0:ai:=⟨0,0,0,[],[],[]⟩
def eG:ai:=⟨9,0,0,[],[],[]⟩
def ba (n:Int):az:=⟨n,l0⟩
def cJ (l:ai):az:=⟨0,l⟩
def isNone (t:az):Bool:=t.aS==0&&t.aj.Kind==0
def Fit (w t:az):Prop:=isNone w=false->w=t
def gm (c:UInt8):Bool:=(97<=c.toNat&&c.toNat<=122)||(48<=c.toNat&&c.toNat<=57)||c.toNat==45
def NV (s:List UInt8):Prop:=s.length<=16/\(∃c,s[0]? =some c/\97<=c.toNat/\c.toNat<=122)/\∀c∈s,gm c=true
def oI:ab->Bool
 |⟨op,_,_,_,_,kids⟩=>op==6||(21<=op&&op<=27)||
  (op==16&&match kids with
   |[x,y]=>oI x&&oI y
   |_=>false)||
  (op==7&&match kids with
   |[_,x,y]=>oI x&&oI y
   |_=>false)
inductive W (l:ai) (ps:List TParam):ab->az->Prop
 |int {n a:Int} {w:az}: -1000000000000000<=n->n<=1000000000000000->Fit w (ba 1)->W l ps ⟨1,ba 1,n,[],a,[]⟩ w
 |bool {n a:Int} {w:az}:(n=0\/n=1)->Fit w (ba 2)->W l ps ⟨2,ba 2,n,[],a,[]⟩ w
 |name {t:List UInt8} {a:Int} {w:az}:NV t->Fit w (ba 3)->W l ps ⟨3,ba 3,0,t,a,[]⟩ w
 |param {i:Nat} {p:TParam} {a:Int} {w:az}:ps[i]? =some p->Fit w (ba p.aS)->W l ps ⟨4,ba p.aS,i,[],a,[]⟩ w
 |state {a:Int} {w:az}:Fit w (cJ l)->W l ps ⟨5,cJ l,0,[],a,[]⟩ w
 |AU {a:Int} {w:az}:w.aS=0->isNone w=false->W l ps ⟨6,w,0,[],a,[]⟩ w
 |Lf {c x y:ab} {a:Int} {w:az}:isNone w=false->W l ps c (ba 2)->W l ps x w->W l ps y w->W l ps ⟨7,w,0,[],a,[c,x,y]⟩ w
 |Lg {c x y:ab} {a:Int} {w:az}:isNone w=true->W l ps c (ba 2)->W l ps x (ba 0)->W l ps y x.ak->W l ps ⟨7,x.ak,0,[],a,[c,x,y]⟩ w
 |Lh {c x y:ab} {a:Int} {w:az}:isNone w=true->W l ps c (ba 2)->W l ps y (ba 0)->W l ps x y.ak->W l ps ⟨7,x.ak,0,[],a,[c,x,y]⟩ w
 |conn {op:Int} {x y:ab} {a:Int} {w:az}:(op=8\/op=9)->W l ps x (ba 2)->W l ps y (ba 2)->Fit w (ba 2)->W l ps ⟨op,ba 2,0,[],a,[x,y]⟩ w
 |not {x:ab} {a:Int} {w:az}:W l ps x (ba 2)->Fit w (ba 2)->W l ps ⟨10,ba 2,0,[],a,[x]⟩ w
 |less {op:Int} {x y:ab} {a:Int} {w:az}:(op=11\/op=12)->W l ps x (ba 1)->W l ps y (ba 1)->Fit w (ba 2)->W l ps ⟨op,ba 2,0,[],a,[x,y]⟩ w
 |equal {x y:ab} {a:Int} {w:az}:W l ps x (ba 0)->x.ak.aS≠0->W l ps y x.ak->Fit w (ba 2)->W l ps ⟨13,ba 2,0,[],a,[x,y]⟩ w
 |Li {x y:ab} {a:Int} {w:az}:W l ps x (ba 3)->W l ps y (ba 4)->Fit w (ba 2)->W l ps ⟨14,ba 2,0,[],a,[x,y]⟩ w
 |Lj {x y:ab} {a:Int} {w:az}:W l ps x (ba 0)->x.ak.aS=0->W l ps y x.ak->Fit w (ba 2)->W l ps ⟨15,ba 2,0,[],a,[x,y]⟩ w
 |Lk {x y:ab} {a:Int} {w:az}:W l ps y (ba 0)->y.ak.aS=0->W l ps x y.ak->Fit w (ba 2)->W l ps ⟨15,ba 2,0,[],a,[x,y]⟩ w
 |JC {x y:ab} {a:Int} {w:az}:isNone w=false->w.aS=0->W l ps x w->W l ps y w->W l ps ⟨16,w,0,[],a,[x,y]⟩ w
 |JD {x y:ab} {a:Int} {w:az}:isNone w=true->W l ps x (ba 0)->x.ak.aS=0->W l ps y x.ak->W l ps ⟨16,x.ak,0,[],a,[x,y]⟩ w
 |JE {x y:ab} {a:Int} {w:az}:isNone w=true->W l ps y (ba 0)->y.ak.aS=0->W l ps x y.ak->W l ps ⟨16,x.ak,0,[],a,[x,y]⟩ w
 |CU {op:Int} {x y:ab} {a:Int} {w:az}:(op=17\/op=18)->W l ps x (ba 1)->W l ps y (ba 1)->Fit w (ba 1)->W l ps ⟨op,ba 1,0,[],a,[x,y]⟩ w
 |field {x:ab} {i:Nat} {p:ai} {a:Int} {w:az}:W l ps x (ba 0)->x.ak.aS=0->x.ak.aj.Kind=6->i<x.ak.aj.Names.length->x.ak.aj.aB[i]? =some p->Fit w (cJ p)->W l ps ⟨19,cJ p,i,[],a,[x]⟩ w
 |at_ {x k:ab} {p:ai} {a:Int} {w:az}:W l ps x (ba 0)->x.ak.aS=0->x.ak.aj.Kind=5->x.ak.aj.aB[0]? =some p->W l ps k (ba 3)->Fit w (cJ p)->W l ps ⟨20,cJ p,0,[],a,[x,k]⟩ w
 |flag {x:ab} {a:Int} {w:az}:w.aS=0->w.aj.Kind=1->W l ps x (ba 2)->W l ps ⟨21,w,0,[],a,[x]⟩ w
 |num {x:ab} {a:Int} {w:az}:w.aS=0->(w.aj.Kind=2\/w.aj.Kind=3)->W l ps x (ba 1)->W l ps ⟨22,w,0,[],a,[x]⟩ w
 |CR {kids:List ab} {a:Int} {w:az}:w.aS=0->(w.aj.Kind=4\/w.aj.Kind=10)->kids.length<=1048576->(∀x∈kids,W l ps x (ba 0))->(∀x∈kids,x.ak.aS=3\/x.ak.aS=4)->W l ps ⟨23,w,0,[],a,kids⟩ w
 |map {kids:List (ab×ab)} {p:ai} {a:Int} {w:az}:w.aS=0->w.aj.Kind=5->kids.length<=1048576->w.aj.aB[0]? =some p->(∀q∈kids,W l ps q.1 (ba 3))->(∀q∈kids,W l ps q.2 (cJ p))->W l ps ⟨24,w,0,[],a,kids.flatMap λq=>[q.1,q.2]⟩ w
 |CS {kids:List ab} {a:Int} {w:az}:w.aS=0->w.aj.Kind=6->kids.length<=1048576->kids.length=w.aj.aB.length->(∀(i:Nat) x p,kids[i]? =some x->w.aj.aB[i]? =some p->W l ps x (cJ p))->W l ps ⟨25,w,0,[],a,kids⟩ w
 |pair {x y:ab} {p q:ai} {a:Int} {w:az}:w.aS=0->w.aj.Kind=7->w.aj.aB[0]? =some p->w.aj.aB[1]? =some q->W l ps x (cJ p)->W l ps y (cJ q)->W l ps ⟨26,w,0,[],a,[x,y]⟩ w
 |one {x:ab} {a:Int} {w:az}:w.aS=0->w.aj.Kind=8->W l ps x (ba 3)->W l ps ⟨27,w,0,[],a,[x]⟩ w
 |write {x y z:ab} {a:Int} {w:az}:W l ps x (cJ eG)->W l ps y (ba 1)->W l ps z (ba 3)->Fit w (cJ eG)->W l ps ⟨28,cJ eG,0,[],a,[x,y,z]⟩ w
 |size {x:ab} {a:Int} {w:az}:W l ps x (ba 0)->(x.ak.aS=4\/(x.ak.aS=0/\x.ak.aj.Kind∈[4,5,9,10]))->Fit w (ba 1)->W l ps ⟨29,ba 1,0,[],a,[x]⟩ w
 |sum {x:ab} {p:ai} {a:Int} {w:az}:W l ps x (ba 0)->x.ak.aS=0->x.ak.aj.Kind=5->x.ak.aj.aB[0]? =some p->(p.Kind=2\/p.Kind=3)->Fit w (ba 1)->W l ps ⟨30,ba 1,0,[],a,[x]⟩ w
 |Mk {op:Int} {x:ab} {s:Int} {ks:List Int} {a:Int} {w:az}:(op,s,ks)∈[((31:Int),(1:Int),[(2:Int),3]),(32,2,[1]),(33,4,[5,4,10]),(34,4,[8,9]),(37,2,[8,9])]->W l ps x (ba 0)->x.ak.aS=0->x.ak.aj.Kind∈ks->Fit w (ba s)->W l ps ⟨op,ba s,0,[],a,[x]⟩ w
 |part {op:Int} {i:Nat} {x:ab} {p:ai} {a:Int} {w:az}:(op=35/\i=0\/op=36/\i=1)->W l ps x (ba 0)->x.ak.aS=0->x.ak.aj.Kind=7->x.ak.aj.aB[i]? =some p->Fit w (cJ p)->W l ps ⟨op,cJ p,0,[],a,[x]⟩ w
