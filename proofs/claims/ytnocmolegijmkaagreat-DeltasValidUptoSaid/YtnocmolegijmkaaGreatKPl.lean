/- Loops over two lists, and over one, as plain functions. -/
import Derived.Test.YtnocmolegijmkaaGreatKCt
set_option linter.all false
namespace Go.Proofs.YtnocmolegijmkaaGreat
open Go Go.Bw
theorem bw {D:Type} {l:List D} {i:Nat} {x:D} (h:l[i]? =some x):aA l (i:Int)=some x:=h
theorem bu {D:Type} {l:List D} {i:Nat} (h:i<l.length):∃x,l[i]? =some x:=⟨l[i],by simp[h]⟩
theorem mn {D:Type}:∀{l:List D} {i:Nat} {x:D},l[i]? =some x->l.drop i=x::l.drop (i+1)
 |y::l,0,x,h=>by simp only[mf,ax]at h;subst h;simp
 |y::l,i+1,x,h=>by simpa using mn (l:=l) (by simpa using h)
theorem mZ {D β:Type} {a:List D} {b:List β} {L:Int->Option Bool} (p:D->β->Bool) (e:Bool) (hl:a.length=b.length)
  (hs:∀(i:Nat) x y,a[i]? =some x->b[i]? =some y->i<a.length->L (i:Int)=bif p x y then L ((i+1:Nat):Int)else some false) (he:L (a.length:Int)=some e):
  L 0=some ((a.zip b).all (λq=>p q.1 q.2)&&e):=by
 have key:∀k i:Nat,k=a.length-i->i<=a.length->L (i:Int)=some (((a.drop i).zip (b.drop i)).all (λq=>p q.1 q.2)&&e):=by
  intro k
  induction k with
  |zero=>
   intro i hk hi;have:i=a.length:=by omega
   subst this;rw[he];simp
  |succ k ih=>
   intro i hk hi;have hi':i<a.length:=by omega
   obtain⟨x,hx⟩:=bu hi';obtain⟨y,hy⟩:=bu (l:=b) (by omega:i<b.length);rw[hs i x y hx hy hi',mn hx,mn hy,vE,jw];cases p x y with
   |false=>rfl
   |true=>simpa using ih (i+1) (by omega) (by omega)
 simpa using key a.length 0 (by omega) (by omega)
theorem IY {D:Type} [BEq D] [LawfulBEq D]:∀{a b:List D},a.length=b.length->((a.zip b).all (λq=>q.1==q.2)=true↔a=b)
 |[],[],_=>by simp
 |x::a,y::b,h=>by
  rw[vE,jw,bj,IY (by simpa using h),beq_iff_eq,jV]
 |[],_::_,h=>by simp at h
 |_::_,[],h=>by simp at h
theorem RX {D:Type} [BEq D] [LawfulBEq D] [BEq (List D)] [LawfulBEq (List D)] {a b:List D} (h:a.length=b.length):(a.zip b).all (λq=>q.1==q.2)=(a==b):=
 ly.2 ((IY h).trans beq_iff_eq.symm)
def rising:List (List UInt8)->Bool
 |x::y::r=>Op.bytesLess x y&&rising (y::r)
 |_=>true
def l0:ai:=⟨0,0,0,[],[],[]⟩
def eO:ai:=⟨9,0,0,[],[],[]⟩
def aK (n:Int):ay:=⟨n,l0⟩
def bY (l:ai):ay:=⟨0,l⟩
def isNone (t:ay):Bool:=t.aL==0&&t.aw.Kind==0
def Fit (w t:ay):Prop:=isNone w=false->w=t
def ky (c:UInt8):Bool:=(97<=c.toNat&&c.toNat<=122)||(48<=c.toNat&&c.toNat<=57)||c.toNat==45
def NV (s:List UInt8):Prop:=s.length<=16/\(∃c,s[0]? =some c/\97<=c.toNat/\c.toNat<=122)/\∀c∈s,ky c=true
def pJ:ab->Bool
 |⟨op,_,_,_,_,kids⟩=>op==6||(21<=op&&op<=27)||
  (op==16&&match kids with
   |[x,y]=>pJ x&&pJ y
   |_=>false)||
  (op==7&&match kids with
   |[_,x,y]=>pJ x&&pJ y
   |_=>false)
inductive W (l:ai) (ps:List TParam):ab->ay->Prop
 |int {n a:Int} {w:ay}: -1000000000000000<=n->n<=1000000000000000->Fit w (aK 1)->W l ps ⟨1,aK 1,n,[],a,[]⟩ w
 |bool {n a:Int} {w:ay}:(n=0\/n=1)->Fit w (aK 2)->W l ps ⟨2,aK 2,n,[],a,[]⟩ w
 |name {t:List UInt8} {a:Int} {w:ay}:NV t->Fit w (aK 3)->W l ps ⟨3,aK 3,0,t,a,[]⟩ w
 |param {i:Nat} {p:TParam} {a:Int} {w:ay}:ps[i]? =some p->Fit w (aK p.aL)->W l ps ⟨4,aK p.aL,i,[],a,[]⟩ w
 |state {a:Int} {w:ay}:Fit w (bY l)->W l ps ⟨5,bY l,0,[],a,[]⟩ w
 |iq {a:Int} {w:ay}:w.aL=0->isNone w=false->W l ps ⟨6,w,0,[],a,[]⟩ w
 |iH {c x y:ab} {a:Int} {w:ay}:isNone w=false->W l ps c (aK 2)->W l ps x w->W l ps y w->W l ps ⟨7,w,0,[],a,[c,x,y]⟩ w
 |ku {c x y:ab} {a:Int} {w:ay}:isNone w=true->W l ps c (aK 2)->W l ps x (aK 0)->W l ps y x.aq->W l ps ⟨7,x.aq,0,[],a,[c,x,y]⟩ w
 |kv {c x y:ab} {a:Int} {w:ay}:isNone w=true->W l ps c (aK 2)->W l ps y (aK 0)->W l ps x y.aq->W l ps ⟨7,x.aq,0,[],a,[c,x,y]⟩ w
 |conn {op:Int} {x y:ab} {a:Int} {w:ay}:(op=8\/op=9)->W l ps x (aK 2)->W l ps y (aK 2)->Fit w (aK 2)->W l ps ⟨op,aK 2,0,[],a,[x,y]⟩ w
 |not {x:ab} {a:Int} {w:ay}:W l ps x (aK 2)->Fit w (aK 2)->W l ps ⟨10,aK 2,0,[],a,[x]⟩ w
 |less {op:Int} {x y:ab} {a:Int} {w:ay}:(op=11\/op=12)->W l ps x (aK 1)->W l ps y (aK 1)->Fit w (aK 2)->W l ps ⟨op,aK 2,0,[],a,[x,y]⟩ w
 |equal {x y:ab} {a:Int} {w:ay}:W l ps x (aK 0)->x.aq.aL≠0->W l ps y x.aq->Fit w (aK 2)->W l ps ⟨13,aK 2,0,[],a,[x,y]⟩ w
 |k7 {x y:ab} {a:Int} {w:ay}:W l ps x (aK 3)->W l ps y (aK 4)->Fit w (aK 2)->W l ps ⟨14,aK 2,0,[],a,[x,y]⟩ w
 |k8 {x y:ab} {a:Int} {w:ay}:W l ps x (aK 0)->x.aq.aL=0->W l ps y x.aq->Fit w (aK 2)->W l ps ⟨15,aK 2,0,[],a,[x,y]⟩ w
 |k9 {x y:ab} {a:Int} {w:ay}:W l ps y (aK 0)->y.aq.aL=0->W l ps x y.aq->Fit w (aK 2)->W l ps ⟨15,aK 2,0,[],a,[x,y]⟩ w
 |jb {x y:ab} {a:Int} {w:ay}:isNone w=false->w.aL=0->W l ps x w->W l ps y w->W l ps ⟨16,w,0,[],a,[x,y]⟩ w
 |kj {x y:ab} {a:Int} {w:ay}:isNone w=true->W l ps x (aK 0)->x.aq.aL=0->W l ps y x.aq->W l ps ⟨16,x.aq,0,[],a,[x,y]⟩ w
 |km {x y:ab} {a:Int} {w:ay}:isNone w=true->W l ps y (aK 0)->y.aq.aL=0->W l ps x y.aq->W l ps ⟨16,x.aq,0,[],a,[x,y]⟩ w
 |ji {op:Int} {x y:ab} {a:Int} {w:ay}:(op=17\/op=18)->W l ps x (aK 1)->W l ps y (aK 1)->Fit w (aK 1)->W l ps ⟨op,aK 1,0,[],a,[x,y]⟩ w
 |field {x:ab} {i:Nat} {p:ai} {a:Int} {w:ay}:W l ps x (aK 0)->x.aq.aL=0->x.aq.aw.Kind=6->i<x.aq.aw.Names.length->x.aq.aw.aB[i]? =some p->Fit w (bY p)->W l ps ⟨19,bY p,i,[],a,[x]⟩ w
 |at_ {x k:ab} {p:ai} {a:Int} {w:ay}:W l ps x (aK 0)->x.aq.aL=0->x.aq.aw.Kind=5->x.aq.aw.aB[0]? =some p->W l ps k (aK 3)->Fit w (bY p)->W l ps ⟨20,bY p,0,[],a,[x,k]⟩ w
 |flag {x:ab} {a:Int} {w:ay}:w.aL=0->w.aw.Kind=1->W l ps x (aK 2)->W l ps ⟨21,w,0,[],a,[x]⟩ w
 |num {x:ab} {a:Int} {w:ay}:w.aL=0->(w.aw.Kind=2\/w.aw.Kind=3)->W l ps x (aK 1)->W l ps ⟨22,w,0,[],a,[x]⟩ w
 |gW {kids:List ab} {a:Int} {w:ay}:w.aL=0->(w.aw.Kind=4\/w.aw.Kind=10)->kids.length<=1048576->(∀x∈kids,W l ps x (aK 0))->(∀x∈kids,x.aq.aL=3\/x.aq.aL=4)->W l ps ⟨23,w,0,[],a,kids⟩ w
 |map {kids:List (ab×ab)} {p:ai} {a:Int} {w:ay}:w.aL=0->w.aw.Kind=5->kids.length<=1048576->w.aw.aB[0]? =some p->(∀q∈kids,W l ps q.1 (aK 3))->(∀q∈kids,W l ps q.2 (bY p))->W l ps ⟨24,w,0,[],a,kids.flatMap λq=>[q.1,q.2]⟩ w
 |gG {kids:List ab} {a:Int} {w:ay}:w.aL=0->w.aw.Kind=6->kids.length<=1048576->kids.length=w.aw.aB.length->(∀(i:Nat) x p,kids[i]? =some x->w.aw.aB[i]? =some p->W l ps x (bY p))->W l ps ⟨25,w,0,[],a,kids⟩ w
 |pair {x y:ab} {p q:ai} {a:Int} {w:ay}:w.aL=0->w.aw.Kind=7->w.aw.aB[0]? =some p->w.aw.aB[1]? =some q->W l ps x (bY p)->W l ps y (bY q)->W l ps ⟨26,w,0,[],a,[x,y]⟩ w
 |one {x:ab} {a:Int} {w:ay}:w.aL=0->w.aw.Kind=8->W l ps x (aK 3)->W l ps ⟨27,w,0,[],a,[x]⟩ w
 |write {x y z:ab} {a:Int} {w:ay}:W l ps x (bY eO)->W l ps y (aK 1)->W l ps z (aK 3)->Fit w (bY eO)->W l ps ⟨28,bY eO,0,[],a,[x,y,z]⟩ w
 |size {x:ab} {a:Int} {w:ay}:W l ps x (aK 0)->(x.aq.aL=4\/(x.aq.aL=0/\x.aq.aw.Kind∈[4,5,9,10]))->Fit w (aK 1)->W l ps ⟨29,aK 1,0,[],a,[x]⟩ w
 |sum {x:ab} {p:ai} {a:Int} {w:ay}:W l ps x (aK 0)->x.aq.aL=0->x.aq.aw.Kind=5->x.aq.aw.aB[0]? =some p->(p.Kind=2\/p.Kind=3)->Fit w (aK 1)->W l ps ⟨30,aK 1,0,[],a,[x]⟩ w
 |kE {op:Int} {x:ab} {s:Int} {ks:List Int} {a:Int} {w:ay}:(op,s,ks)∈[((31:Int),(1:Int),[(2:Int),3]),(32,2,[1]),(33,4,[5,4,10]),(34,4,[8,9]),(37,2,[8,9])]->W l ps x (aK 0)->x.aq.aL=0->x.aq.aw.Kind∈ks->Fit w (aK s)->W l ps ⟨op,aK s,0,[],a,[x]⟩ w
 |part {op:Int} {i:Nat} {x:ab} {p:ai} {a:Int} {w:ay}:(op=35/\i=0\/op=36/\i=1)->W l ps x (aK 0)->x.aq.aL=0->x.aq.aw.Kind=7->x.aq.aw.aB[i]? =some p->Fit w (bY p)->W l ps ⟨op,bY p,0,[],a,[x]⟩ w
