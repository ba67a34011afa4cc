/- Names sorted, each once: how many they are. -/
import Derived.Test.YtfgnmgbiijpkiaaGreatKAw
import Derived.Test.YtfgnmgbiijpkiaaGreatKG1
import Derived.Test.YtfgnmgbiijpkiaaGreatKPl
import Derived.Test.YtfgnmgbiijpkiaaGreatKGk
set_option linter.all false
section
namespace Go.Proofs.YtfgnmgbiijpkiaaGreat
open Go Go.Bw
theorem O8 {n m:Nat} (h:n<=m):decide (n<=m)=true:=by simpa using h
theorem C8:∀{l:List (List UInt8)},rising l=true↔l.Pairwise λa b=>Op.bytesLess a b=true
 |[]=>by simp[rising]
 |x::l=>by rw[Ki,xF,C8]
theorem XQ {a b:List UInt8}:gK a b<0↔Op.bytesLess a b=true:=by
 unfold gK;cases h:Op.bytesLess a b
 ·cases Op.bytesLess b a<;>simp
 ·simp
theorem KO {a b:List UInt8}:gK a b<=0↔a=b\/Op.bytesLess a b=true:=by
 rw[<-XQ,<-sI.kN];omega
theorem oO {zs:List (List UInt8)} {j:Nat} (h:j<zs.length):zs.toArray[j]! =zs[j]:=by simp[h]
theorem Vr {zs:List (List UInt8)} {x:List UInt8}:x∈Lib.compact zs↔x∈zs:=by
 unfold Lib.compact Lib.compactUpTo;simp only[cP,iB,xP];constructor
 ·rintro ⟨j,⟨hj,_⟩,rfl⟩;rw[oO hj];exact List.getElem_mem hj
 ·intro hx;obtain⟨j,hj,rfl⟩:=ads hx;clear hx
  induction j with
  |zero=>exact⟨0,⟨hj,by simp[Lib.keeps]⟩,oO hj⟩
  |succ j ih=>
   by_cases h:zs[j+1]=zs[j]
   ·rw[h];exact ih (by omega)
   ·exact⟨j+1,⟨hj,by simp only[Lib.keeps,lB];right;rw[oO hj,show j+1-1=j from rfl,oO (by omega)];exact h⟩,oO hj⟩
theorem UJ {zs:List (List UInt8)} (h:zs.Pairwise λa b=>gK a b<=0):rising (Lib.compact zs)=true:=by
 rw[C8];unfold Lib.compact Lib.compactUpTo;rw[List.pairwise_map,List.pairwise_filter];refine List.Pairwise.imp_of_mem (λ{i j} hi hj hlt _ kj=>?_) List.pairwise_lt_range;rw[xP]at hi hj;rw[oO hi,oO hj];simp only[Lib.keeps,lB]at kj;rw[adu]at h;have hne:zs[j]≠zs[j-1]:=by
  rcases kj with k|k
  ·omega
  ·rwa[oO hj,oO (by omega)]at k
 have h1:Op.bytesLess zs[j-1] zs[j]=true:=by
  rcases KO.1 (h (j-1) j (by omega) hj (by omega))with e|e
  ·exact absurd e.symm hne
  ·exact e
 by_cases e:i=j-1
 ·subst e;exact h1
 ·rcases KO.1 (h i (j-1) hi (by omega) (by omega))with e|e
  ·rw[e];exact h1
  ·exact vx e h1
theorem XR {l:List (List UInt8)} {x:List UInt8}:x∈fR l↔x∈l:=Vr.trans (yS l).mem_iff
theorem Vs {l:List (List UInt8)}:rising (fR l)=true:=UJ (Cw sI l)
theorem ZG {l:List (List UInt8)} (h:l.length<=274877906944):uY l=some (fR l):=
 (YO l).trans (by rw[O8 h];rfl)
theorem xX {l:List (List UInt8)} (h:rising l=true):l.Nodup:=(C8.1 h).imp λ{a b} h e=>by rw[e,oV]at h;cases h
theorem C' {D:Type} [DecidableEq D]:∀{l r:List D},r.Nodup->(∀x,x∈r↔x∈l)->r.length<=l.length/\(r.length=l.length↔l.Nodup)
 |[],r,_,h=>by
  have:r=[]:=Uy.2 λx hx=>by have:=(h x).1 hx;simp at this
  subst this;simp
 |x::l,r,hr,h=>by
  by_cases hx:x∈l
  ·obtain⟨h1,_⟩:=C' (l:=l) hr λy=>(h y).trans (by simp;rintro rfl;exact hx);refine⟨by simp;omega,⟨λe=>by simp at e;omega,λhn=>?_⟩⟩;exact absurd hx (Ce.1 hn).1
  ·have hxr:x∈r:=(h x).2 (by simp);obtain⟨h1,h2⟩:=C' (l:=l) (r:=r.erase x) (hr.erase x) λy=>by
    rw[hr.mem_erase_iff,h y];constructor
    ·rintro ⟨h1,h2⟩;rcases cm.1 h2 with h2|h2;exact absurd h2 h1;exact h2
    ·exactλhy=>⟨λe=>hx (e▸hy),u9 _ hy⟩
   rw[ado hxr]at h1 h2;have hp:=List.length_pos_of_mem hxr;refine⟨by simp;omega,?_⟩;rw[Ce,iN,<-h2];exact⟨λe=>⟨hx,by omega⟩,λe=>by omega⟩
theorem Av {D:Type} {a:List D} {L:Int->Option Bool} (p:D->Bool) (e:Bool) (hs:∀(i:Nat) x,a[i]? =some x->i<a.length->L (i:Int)=bif p x then L ((i+1:Nat):Int)else some false) (he:L (a.length:Int)=some e):
  L 0=some (a.all p&&e):=by
 have key:∀k i:Nat,k=a.length-i->i<=a.length->L (i:Int)=some ((a.drop i).all p&&e):=by
  intro k
  induction k with
  |zero=>
   intro i hk hi;have:i=a.length:=by omega
   subst this;rw[he];simp
  |succ k ih=>
   intro i hk hi;have hi':i<a.length:=by omega
   obtain⟨x,hx⟩:=bh hi';rw[hs i x hx hi',lM hx,kR];cases p x with
   |false=>rfl
   |true=>simpa using ih (i+1) (by omega) (by omega)
 simpa using key a.length 0 (by omega) (by omega)
def idxOf {D:Type} (p:D->Bool):List D->Int->Int
 |[],_=> -1
 |x::r,i=>bif p x then i else idxOf p r (i+1)
theorem vy {D:Type} {a:List D} {L:Int->Option Int} (p:D->Bool) (hs:∀(i:Nat) x,a[i]? =some x->i<a.length->L (i:Int)=bif p x then some (i:Int)else L ((i+1:Nat):Int)) (he:L (a.length:Int)=some (-1)):
  L 0=some (idxOf p a 0):=by
 have key:∀k i:Nat,k=a.length-i->i<=a.length->L (i:Int)=some (idxOf p (a.drop i) i):=by
  intro k
  induction k with
  |zero=>
   intro i hk hi;have:i=a.length:=by omega
   subst this;rw[he];simp[idxOf]
  |succ k ih=>
   intro i hk hi;have hi':i<a.length:=by omega
   obtain⟨x,hx⟩:=bh hi';rw[hs i x hx hi',lM hx,idxOf];cases p x with
   |true=>rfl
   |false=>simpa using ih (i+1) (by omega) (by omega)
 simpa using key a.length 0 (by omega) (by omega)
theorem qk {D:Type} (p:D->Bool):∀(a:List D) (j:Nat),(idxOf p a j= -1/\∀x∈a,p x=false)\/∃(i:Nat) (x:D),idxOf p a j=((j+i:Nat):Int)/\a[i]? =some x/\p x=true/\∀k y,k<i->a[k]? =some y->p y=false
 |[],j=> .inl ⟨rfl,by simp⟩
 |x::r,j=>by
  rw[idxOf];cases hp:p x with
  |true=>exact .inr ⟨0,x,by simp,by simp,hp,λk y hk=>by omega⟩
  |false=>
   have h:=qk p r (j+1);simp only[bp];have e:((j:Nat):Int)+1=((j+1:Nat):Int):=by omega
   rw[e];rcases h with⟨h1,h2⟩|⟨i,y,h1,h2,h3,h4⟩
   ·refine .inl ⟨h1,λz hz=>?_⟩;rcases cm.1 hz with rfl|hz
    ·exact hp
    ·exact h2 z hz
   ·refine .inr ⟨i+1,y,by rw[h1];congr 1;omega,by simpa using h2,h3,λk z hk hz=>?_⟩;cases k with
    |zero=>simp only[lD,aE]at hz;subst hz;exact hp
    |succ k=>exact h4 k z (by omega) (by simpa using hz)
theorem Cv {D:Type} {p:D->Bool} {a:List D}:decide (idxOf p a 0>=0)=a.any p:=by
 rcases qk p a 0 with⟨h1,h2⟩|⟨i,x,h1,h2,h3,_⟩
 ·have e:idxOf p a 0= -1:=h1;rw[e];have:a.any p=false:=by
   rw[va];intro x hx;simp[h2 x hx]
  rw[this];rfl
 ·have e:idxOf p a 0=((0+i:Nat):Int):=h1;rw[e];have:a.any p=true:=ka.2 ⟨x,bw h2,h3⟩;rw[this];simp
theorem YL (c:UInt8):(f98 Pf) (c.toNat:Int)=some (jk c):=by
 rw[e98,xa];unfold jk;have h0:∀n:Nat,(decide ((97:Int)<=(n:Int))=decide (97<=n))/\(decide ((n:Int)<=122)=decide (n<=122))/\(decide ((48:Int)<=(n:Int))=decide (48<=n))/\(decide ((n:Int)<=57)=decide (n<=57))/\(((n:Int)==45)=(n==45)):=λn=>by
  refine⟨?_,?_,?_,?_,?_⟩<;>(rw[gu];simp only[lB,beq_iff_eq];omega)
 obtain⟨h1,h2,h3,h4,h5⟩:=h0 c.toNat;rw[h1,h2,h3,h4,h5];cases decide (97<=c.toNat)<;>cases decide (c.toNat<=122)<;>cases decide (48<=c.toNat)<;>cases decide (c.toNat<=57)<;>rfl
def ek (s:List UInt8):Bool:=match s with
 |[]=>false
 |c::_=>decide (s.length<=16)&&decide (97<=c.toNat)&&decide (c.toNat<=122)&&s.all jk
theorem Au {s:List UInt8}:ek s=true↔NV s:=by
 cases s with
 |nil=>simp[ek,NV]
 |cons c r=>simp[ek,NV,and_assoc]
theorem lN (s:List UInt8) (hs:s.length<9223372036854775807):(f53 Pf) s=some (ek s):=by
 rw[e53,xb];cases s with
 |nil=>rfl
 |cons c r=>
  have e0:((((c::r).length:Nat):Int)==0)=false:=by simp;omega
  rw[e0,bp];have hL:(vT Pf) (c::r) 0=some ((c::r).all jk&&true):=by
   refine Av jk true (λi x hx hi=>?_) ?_
   ·rw[NQ,th];have:decide ((i:Int)<(((c::r).length:Nat):Int))=true:=by simp;simp at hi;omega
    rw[this,aV,bj hx,aw,YL,aw,bP i (by omega)];cases jk x<;>rfl
   ·rw[NQ,th];have:decide ((((c::r).length:Nat):Int)<(((c::r).length:Nat):Int))=false:=by simp
    rw[this];rfl
  have hi:au (c::r:List UInt8) 0=some c:=rfl;rw[hi,hL];simp only[aw,rZ];have h1:decide ((((c::r).length:Nat):Int)>16)= !decide ((c::r).length<=16):=by rw[gu];simp;omega
  have h2:decide (((c.toNat:Nat):Int)<97)= !decide (97<=c.toNat):=by rw[gu];simp;omega
  have h3:decide (((c.toNat:Nat):Int)>122)= !decide (c.toNat<=122):=by rw[gu];simp;omega
  rw[h1,h2,h3];unfold ek;simp only;cases decide ((c::r).length<=16)<;>cases decide (97<=c.toNat)<;>cases decide (c.toNat<=122)<;>rfl
theorem qw (a:List (List UInt8)) (x:List UInt8) (ha:a.length<9223372036854775807):(f185 Pf) a x=some (idxOf (λy=>x==y) a 0):=by
 rw[abZ,uq];refine vy (λy=>x==y) (λi y hy hi=>?_) ?_
 ·rw[Ml,sL];have:decide ((i:Int)<((aN a).length:Int))=true:=by rw[cj];simp;omega
  rw[this,aV,bj hy,aw,bP i (by omega)]
 ·rw[Ml,sL];have:decide ((a.length:Int)<((aN a).length:Int))=false:=by rw[cj];simp
  rw[this];rfl
theorem contains_eq (a:List (List UInt8)) (x:List UInt8) (ha:a.length<9223372036854775807):(f131 Pf) a x=some (a.any λy=>x==y):=by
 rw[ab0,wL,qw a x ha,aw,Cv]
theorem has_eq (a:List (List UInt8)) (x:List UInt8) (ha:a.length<9223372036854775807):(f81 Pf) a x=some (a.any λy=>x==y):=by
 rw[e81,xc,contains_eq a x ha];rfl
theorem LA (a b:List (List UInt8)) (ha:a.length<9223372036854775807) (hb:b.length<9223372036854775807):(f215 Pf) a b=some (a.all λx=>b.any λy=>x==y):=by
 rw[ab2,uw];have h:=Av (a:=a) (L:=λi=>(qz Pf) a b i) (λx=>b.any λy=>x==y) true (λi x hx hi=>by
  show(qz Pf) a b i=_;rw[Mm,sM];have:decide ((i:Int)<((aN a).length:Int))=true:=by rw[cj];simp;omega
  rw[this,aV,bj hx,aw,has_eq b x hb,aw,bP i (by omega)];cases b.any λy=>x==y<;>rfl) (by
  show(qz Pf) a b _=_;rw[Mm,sM];have:decide ((a.length:Int)<((aN a).length:Int))=false:=by rw[cj];simp
  rw[this];rfl)
 simpa using h
theorem qM (b:Bool) (e:Int):(f213 Pf) b e=some (bif b then e else 0):=by
 rw[abX,wJ];cases b<;>rfl
theorem aY (n m:Nat):decide (((n:Nat):Int)<(m:Int))=decide (n<m):=by rw[gu];simp only[lB];omega
theorem Vq {a:List (List UInt8)} {i:Nat} {x y:List UInt8} (hx:a[i]? =some x) (hy:a[i+1]? =some y):rising (a.drop i)=(Op.bytesLess x y&&rising (a.drop (i+1))):=by
 rw[lM hx,lM hy];rfl
theorem zj (a:List (List UInt8)) (ha:a.length<9223372036854775807):(f214 Pf) a=some (rising a):=by
 rw[ab1,uv];have key:∀k i:Nat,k=a.length-(i+1)->i+1<=a.length->(vC Pf) a ((i+1:Nat):Int)=some (rising (a.drop i)):=by
  intro k
  induction k with
  |zero=>
   intro i hk hi;have e:i+1=a.length:=by omega
   rw[DD,qy,cj,aY];have:decide (i+1<a.length)=false:=by simp;omega
   rw[this,bp];obtain⟨x,hx⟩:=bh (by omega:i<a.length);rw[lM hx,show a.drop (i+1)=[]from List.drop_eq_nil_of_le (by omega)];rfl
  |succ k ih=>
   intro i hk hi;obtain⟨x,hx⟩:=bh (by omega:i<a.length);obtain⟨y,hy⟩:=bh (by omega:i+1<a.length);rw[DD,qy,cj,aY];have:decide (i+1<a.length)=true:=by simp;omega
   have e:IntKind.i64.wrap (((i+1:Nat):Int)-1)=(i:Int):=by rw[wrap64 (by omega) (by omega)];omega
   rw[this,aV,e,bj hx,bj hy,aw,aw,bP (i+1) (by omega),Vq hx hy,ih (i+1) (by omega) (by omega)];cases Op.bytesLess x y<;>rfl
 cases a with
 |nil=>rw[DD,qy];rfl
 |cons x r=>exact key _ 0 rfl (by simp)
def eV (l:ah):Prop:=
 (l.Kind=1\/l.Kind=9)/\l.ax=[]/\l.Names=[]/\l.aZ=[]/\l.Lo=0/\l.Hi=0\/
 (l.Kind=2\/l.Kind=3)/\l.ax=[]/\l.Names=[]/\l.aZ=[]\/
 (l.Kind=4\/l.Kind=8)/\l.ax=[]/\l.aZ=[]/\l.Lo=0/\l.Hi=0\/
 l.Kind=5/\l.ax.length=1/\l.aZ=[]/\l.Lo=0/\l.Hi=0\/
 l.Kind=7/\l.ax.length=2/\l.Names=[]/\l.aZ=[]/\l.Lo=0/\l.Hi=0\/
 l.Kind=6/\l.ax.length=l.Names.length/\l.Names≠[]/\l.aZ=[]/\l.Lo=0/\l.Hi=0\/
 l.Kind=10/\l.ax=[]/\l.Names≠[]/\l.Lo=0/\l.Hi=0
theorem WR (l:ah):ag ((f166 Pf) l) (λr=>r=0->eV l):=by
 rw[Rq,uo];simp only[qM,aw,cj,ah.aD,aU.aD]
 repeat' (first|refine ag.bif (λ_=>?_) (λ_=>?_)|refine ag.ret (λhr=>?_))
 all_goals (first|(exfalso;revert hr;decide)|(have hn:l.Names≠[]:=(by intro e;rw[e]at hr;revert hr;decide);clear hr;simp at*;simp[eV, *];done)|(have hn:l.Names≠[]:=(by intro e;rw[e]at hr;revert hr;decide);clear hr;simp at*;simp[eV, *];omega)|(simp at*;simp[eV, *];done)|(simp at*;simp[eV, *];omega)|skip)
def mm (l:ah):Prop:=l.Names.length<=(if l.Kind=6 then 8 else if l.Kind=10 then 12 else 32)/\l.aZ.length<=32
theorem KL (l:ah):ag ((f168 Pf) l) (λr=>r=0↔mm l):=by
 rw[abY,wK];simp only[qM,aw,cj,aU.aD];have e:decide ((l.aZ.length:Int)>32)= !decide (l.aZ.length<=32):=by rw[gu];simp;omega
 rw[e];unfold mm
 repeat' (first|refine ag.bif (λh=>?_) (λh=>?_)|refine ag.ret ?_)
 all_goals (simp at*;first|omega|(cases hd:decide (l.aZ.length<=32)<;>simp at hd<;>simp[*]<;>omega))
theorem VV (l:ah):ag ((f170 Pf) l) (λr=>r=0-> -1000000000<=l.Lo/\l.Lo<=l.Hi/\l.Hi<=1000000000):=by
 rw[Rs,ux];simp only[qM,aw]
 repeat' (first|refine ag.bif (λ_=>?_) (λ_=>?_)|refine ag.ret (λhr=>?_))
 all_goals (first|(exfalso;revert hr;decide)|(cases h5:decide (l.Hi>1000000000)<;>rw[h5]at hr<;>simp at* <;>omega))
theorem zN {l:ah} {p:ah} (h:p∈l.ax):SizeOf.sizeOf p<SizeOf.sizeOf l:=by
 cases l;have:=List.sizeOf_lt_of_mem h;simp only[ah.mk.sizeOf_spec]at*
 omega
inductive kP:ah->Prop
 |one {l:ah}:(l.Kind=1\/l.Kind=2\/l.Kind=3)->kP l
 |lex {l p q:ah}:l.Kind=7->l.ax=[p,q]->kP p->kP q->kP l
theorem C7:∀(n:Nat) (l:ah),SizeOf.sizeOf l<=n->ag ((f216 Pf) l) (λr=>r=true->kP l)
 |0,l,h=>by cases l;simp only[ah.mk.sizeOf_spec]at h;omega
 |n+1,l,h=>by
  rw[GJ,rk,ah.aD];refine ag.bif (λh1=>ag.ret λ_=> .one (.inl (by simpa using h1))) (λ_=>?_);refine ag.bif (λh1=>ag.ret λ_=> .one (.inr (.inl (by simpa using h1)))) (λ_=>?_);refine ag.bif (λh1=>ag.ret λ_=> .one (.inr (.inr (by simpa using h1)))) (λ_=>?_);refine ag.bif (λh7=>?_) (λ_=>ag.ret λh=>by cases h);refine ag.bif (λh2=>?_) (λ_=>ag.ret λh=>by cases h);have h2:l.ax.length=2:=by simp at h2;omega
  obtain⟨p,q,e⟩:∃p q,l.ax=[p,q]:=by
   match hp:l.ax,h2 with
   |[p,q],_=>exact⟨p,q,rfl⟩
  have hp:SizeOf.sizeOf p<SizeOf.sizeOf l:=zN (by rw[e];simp);have hq:SizeOf.sizeOf q<SizeOf.sizeOf l:=zN (by rw[e];simp);have e0:au l.ax 0=some p:=by rw[e];rfl
  have e1:au l.ax 1=some q:=by rw[e];rfl
  rw[e0,e1];simp only[aw];refine ag.bind (C7 n p (by omega)) (λy hy=>?_);refine ag.bif (λhb=>?_) (λ_=>ag.ret λh=>by cases h);refine ag.bind (C7 n q (by omega)) (λz hz=>ag.ret λh=> .lex (by simpa using h7) e (hy hb) (hz h))
theorem VW (l:ah) (hs:eV l):ag ((f171 Pf) l) (λr=>r=0->l.Kind=7->∃p,l.ax[0]? =some p/\kP p):=by
 rw[Rt,uy];simp only[qM,aw];refine ag.bif (λh7=>?_) (λh7=>ag.ret λ_ h=>by simp at h7;exact absurd h h7);have h2:l.ax.length=2:=by
  simp at h7;simp[eV,h7]at hs;exact hs.1
 obtain⟨p,hp⟩:=bh (l:=l.ax) (i:=0) (by omega);have e0:au l.ax 0=some p:=hp;rw[e0,aw];refine ag.bind (C7 _ p (bQ _)) (λy hy=>ag.ret λhr _=>⟨p,hp,hy ?_⟩);cases y with
 |true=>rfl
 |false=>revert hr;decide
theorem XK {l:ah} (h:eV l):(f166 Pf) l=some 0:=by
 rw[Rq,uo];simp only[qM,aw,cj,ah.aD,aU.aD];have ne:∀{D:Type} {a:List D},a≠[]->((a.length:Int)==0)=false:=λ{D a} h=>by cases a;exact absurd rfl h;simp;omega
 rcases h with⟨h1|h1,h2,h3,h4,h5,h6⟩|⟨h1|h1,h2,h3,h4⟩|⟨h1|h1,h2,h3,h4,h5⟩|⟨h1,h2,h3,h4,h5⟩|⟨h1,h2,h3,h4,h5,h6⟩|⟨h1,h2,h3,h4,h5,h6⟩|⟨h1,h2,h3,h4,h5⟩<;>simp[*]
theorem WS {l:ah} (h: -1000000000<=l.Lo/\l.Lo<=l.Hi/\l.Hi<=1000000000):(f170 Pf) l=some 0:=by
 rw[Rs,ux];simp only[qM,aw];obtain⟨h1,h2,h3⟩:=h;have e1:¬l.Lo>l.Hi:=by omega
 have e2:¬l.Lo< -1000000000:=by omega
 have e3:¬l.Lo>1000000000:=by omega
 have e4:¬l.Hi< -1000000000:=by omega
 have e5:¬l.Hi>1000000000:=by omega
 simp[e1,e2,e3,e4,e5]
theorem XL {l:ah} (h:kP l):(f216 Pf) l=some true:=by
 induction h with
 |one hk=>
  rw[GJ,rk];rcases hk with hk|hk|hk<;>simp[hk]
 |lex hk hp _ _ i1 i2=>
  rw[GJ,rk,ah.aD,hp];simp[hk,au,i1,i2]
theorem WT {l:ah} (h:l.Kind=7->∃p,l.ax[0]? =some p/\kP p):(f171 Pf) l=some 0:=by
 rw[Rt,uy];simp only[qM,aw];by_cases h7:l.Kind=7
 ·obtain⟨p,hp,hc⟩:=h h7;have e0:au l.ax 0=some p:=hp;rw[e0];simp[h7,XL hc]
 ·have:(l.Kind==7)=false:=by simpa using h7
  rw[this];rfl
def um (names:List (List UInt8)) (r:aU):Prop:=r.If≠[]/\rising r.If=true/\(r.If.all λx=>names.any λy=>x==y)=true/\(names.any λy=>r.eP==y)=true
def na (l:ah):Prop:=(∀s∈l.Names,ek s=true)/\(l.Kind≠6->rising l.Names=true)/\(l.Kind=6->∀(i:Nat) s,l.Names[i]? =some s->((l.Names.take i).any λy=>s==y)=false)/\∀r∈l.aZ,um l.Names r
mutual
def jj:ah->Nat
 |⟨_,_,_,_,ps,_⟩=>1+eX ps
def eX:List ah->Nat
 |[]=>0
 |p::ps=>jj p+eX ps
end
mutual
def iK:ah->Nat
 |⟨_,_,_,_,ps,_⟩=>1+l9 ps
def l9:List ah->Nat
 |[]=>0
 |p::ps=>max (iK p) (l9 ps)
end
theorem te (l:ah):jj l=1+eX l.ax:=by cases l;rw[jj]
theorem qL (l:ah):iK l=1+l9 l.ax:=by cases l;rw[iK]
theorem Ly:∀{ps:List ah} {p:ah},p∈ps->jj p<=eX ps
 |q::ps,p,h=>by
  rw[eX];rcases cm.1 h with rfl|h
  ·omega
  ·have:=Ly h;omega
theorem zh:∀{ps:List ah} {p:ah},p∈ps->iK p<=l9 ps
 |q::ps,p,h=>by
  rw[l9];rcases cm.1 h with rfl|h
  ·omega
  ·have:=zh h;omega
theorem Dw {n:Nat}:∀{ps:List ah},(∀p∈ps,iK p<=n)->l9 ps<=n
 |[],_=>by rw[l9];omega
 |p::ps,h=>by
  rw[l9];have h1:=h p (by simp);have h2:=Dw (ps:=ps) (n:=n) λq hq=>h q (by simp[hq]);omega
theorem yM {ps:List ah}:∀{i:Nat} {p:ah},ps[i]? =some p->eX (ps.take (i+1))=eX (ps.take i)+jj p:=by
 induction ps with
 |nil=>intro i p h;simp at h
 |cons q ps ih=>
  intro i p h;cases i with
  |zero=>simp only[lD,aE]at h;subst h;simp[eX]
  |succ i=>
   simp only[qd]at h;have:=ih h;rw[xN,xN,eX,eX,this];omega
inductive ln:ah->Prop
 |mk {l:ah}:eV l->mm l->na l->(-1000000000<=l.Lo/\l.Lo<=l.Hi/\l.Hi<=1000000000)->(l.Kind=7->∃p,l.ax[0]? =some p/\kP p)->(∀p∈l.ax,ln p)->ln l
structure dw (l:ah):Prop where
 i:ln l
 eT:jj l<=64
 dep:iK l<=6
theorem dw.part {l p:ah} (h:dw l) (hp:p∈l.ax):dw p:=by
 have h1:=h.eT;have h2:=h.dep;rw[te]at h1;rw[qL]at h2;have h3:=Ly hp;have h4:=zh hp;exact⟨by have h:=h.i;cases h with|mk _ _ _ _ _ h=>exact h p hp,by omega,by omega⟩
theorem dw.names {l:ah} (h:dw l):na l:=by have h:=h.i;cases h;assumption
theorem dw.range {l:ah} (h:dw l): -1000000000<=l.Lo/\l.Lo<=l.Hi/\l.Hi<=1000000000:=by have h:=h.i;cases h;assumption
theorem tc {D:Type} {l:List D} {i:Nat} (h:i<=l.length):iV l 0 (i:Int)=some (l.take i):=by
 have:iV l ((0:Nat):Int) (i:Int)=some (l.take i):=by
  show(bif Nat.ble 0 i&&Nat.ble i l.length then some ((l.take i).drop 0)else none)=_;rw[B9 (qf i),B9 h];rfl
 exact this
section
variable {B:Nat} (hB:B<1099511627776)
include hB
theorem Lz {l:ah} (hl:l.ok B) (L:Int->Option Int) (hL:∀s,L s=(bif decide (s<(↑(aU.rows l.aZ).length:Int))then((au (l.aZ) (s)).bind λx=>(bif (↑(aN x.If).length:Int)==0 then(some (3))else(((f214 Pf) (x.If)).bind λy=>(bif !y then(some (3))else(((f215 Pf) (x.If) (l.Names)).bind λz=>(bif !z then(some (3))else(((f81 Pf) (l.Names) (x.eP)).bind λu=>(bif !u then(some (3))else(L (IntKind.i64.wrap (s+1)))))))))))else(some (0)))):
  ag (L 0) (λr=>r=0->∀x∈l.aZ,um l.Names x):=by
 rw[ah.c8]at hl;obtain⟨_,_,_,⟨hn,_⟩,_,⟨hr,hrr⟩⟩:=hl;have h:=kS (L:=L) (P:=λr=>r=0->∀x∈l.aZ,um l.Names x) (len:=l.aZ.length) (λi=>∀j x,j<i->l.aZ[j]? =some x->um l.Names x) (λi hi hI k=>by
  obtain⟨x,hx⟩:=bh hi;have hxo:=hrr x (bw hx);rw[hL,aU.aD,aY];have:decide (i<l.aZ.length)=true:=by simpa using hi
  rw[this,aV,bj hx,aw,cj,zj _ (by have:=hxo.1.1;omega),LA _ _ (by have:=hxo.1.1;omega) (by omega),has_eq _ _ (by omega),bP i (by omega)];simp only[aw];refine ag.bif (λ_=>ag.ret λe=>by cases e) (λh1=>?_);refine ag.bif (λ_=>ag.ret λe=>by cases e) (λh2=>?_);refine ag.bif (λ_=>ag.ret λe=>by cases e) (λh3=>?_);refine ag.bif (λ_=>ag.ret λe=>by cases e) (λh4=>?_);refine k λj y hj hy=>?_;rcases iQ.1 hj with h5|rfl
  ·exact hI j y h5 hy
  ·rw[hx]at hy;cases hy;refine⟨λe=>?_,by simpa using h2,by simpa only[r6]using h3,by simpa only[r6]using h4⟩;rw[e]at h1;simp at h1) (λhI=>by
  rw[hL,aU.aD,aY];have:decide (l.aZ.length<l.aZ.length)=false:=by simp
  rw[this,bp];refine ag.ret λ_ x hx=>?_;obtain⟨j,hj⟩:=gr hx;exact hI j x (cr.1 hj).1 hj) 0 (by omega) (λj x hj=>by omega)
 exact h
theorem U8 {l:ah} (hl:l.ok B):ag ((f169 Pf) l) (λr=>r=0->na l):=by
 rw[Rr,rj];have hl':=hl;rw[ah.c8]at hl;obtain⟨_,_,_,⟨hn,hnn⟩,_,⟨hr,hrr⟩⟩:=hl;have h:=kS (L:=λi=>(lO Pf) l 0 i) (P:=λr=>r=0->na l) (len:=l.Names.length) (λi=>(∀j s,j<i->l.Names[j]? =some s->ek s=true)/\(l.Kind=6->∀j s,j<i->l.Names[j]? =some s->((l.Names.take j).any λy=>s==y)=false)) (λi hi hI k=>by
  show ag ((lO Pf) l 0 i) _;obtain⟨x,hx⟩:=bh hi;rw[Aa,pc,cj,aY];have:decide (i<l.Names.length)=true:=by simpa using hi
  have hxl:=hnn x (bw hx);rw[this,aV,bj hx,aw,lN x (by omega),aw,bP i (by omega),tc (by omega),aw,contains_eq _ _ (by rw[gT];omega),aw];refine ag.bif (λ_=>ag.ret λe=>by cases e) (λh1=>?_);have h1:ek x=true:=by simpa using h1
  have nv:∀j s,j<i+1->l.Names[j]? =some s->ek s=true:=λj s hj hs=>by
   rcases iQ.1 hj with h5|rfl
   ·exact hI.1 j s h5 hs
   ·rw[hx]at hs;cases hs;exact h1
  refine ag.bif (λh6=>?_) (λh6=>k ⟨nv,λe=>by simp at h6;exact absurd e h6⟩);refine ag.bif (λ_=>ag.ret λe=>by cases e) (λh7=>k ⟨nv,λe j s hj hs=>?_⟩);rcases iQ.1 hj with h5|rfl
  ·exact hI.2 e j s h5 hs
  ·rw[hx]at hs;cases hs;exact h7) (λhI=>by
  show ag ((lO Pf) l 0 _) _;rw[Aa,pc,cj,aY];have:decide (l.Names.length<l.Names.length)=false:=by simp
  rw[this,bp];have nv:∀s∈l.Names,ek s=true:=λs hs=>by
   obtain⟨j,hj⟩:=gr hs;exact hI.1 j s (cr.1 hj).1 hj
  have di:l.Kind=6->∀(i:Nat) s,l.Names[i]? =some s->((l.Names.take i).any λy=>s==y)=false:=λe i s hs=>hI.2 e i s (cr.1 hs).1 hs;rw[zj _ (by omega)];refine ag.bif (λh6=>?_) (λh6=>?_)
  ·rw[aw];refine ag.bif (λ_=>ag.ret λe=>by cases e) (λh8=>?_);exact(Lz hB hl' _ (λs=>Mn l s)).mono λr h e=>⟨nv,λ_=>by simpa using h8,di,h e⟩
  ·exact(Lz hB hl' _ (λs=>Mo l s)).mono λr h e=>⟨nv,λh9=>by simp at h6;exact absurd h6 h9,di,h e⟩) 0 (by omega) ⟨λj s hj=>by omega,λ_ j s hj=>by omega⟩
 exact h
theorem Mh {l:ah} (hl:l.ok B) (h:∀r∈l.aZ,um l.Names r) (L:Int->Option Int) (hL:∀s,L s=(bif decide (s<(↑(aU.rows l.aZ).length:Int))then((au (l.aZ) (s)).bind λx=>(bif (↑(aN x.If).length:Int)==0 then(some (3))else(((f214 Pf) (x.If)).bind λy=>(bif !y then(some (3))else(((f215 Pf) (x.If) (l.Names)).bind λz=>(bif !z then(some (3))else(((f81 Pf) (l.Names) (x.eP)).bind λu=>(bif !u then(some (3))else(L (IntKind.i64.wrap (s+1)))))))))))else(some (0)))):L 0=some 0:=by
 rw[ah.c8]at hl;obtain⟨_,_,_,⟨hn,_⟩,_,⟨hr,hrr⟩⟩:=hl;refine ag.of (kS (L:=L) (P:=λr=>r=0) (len:=l.aZ.length) (λ_=>True) (λi hi _ k=>?_) (λ_=>?_) 0 (by omega) trivial)
 ·obtain⟨x,hx⟩:=bh hi;have hm:=bw hx;have hxo:=hrr x hm;obtain⟨r1,r2,r3,r4⟩:=h x hm;rw[hL,aU.aD,aY];have:decide (i<l.aZ.length)=true:=by simpa using hi
  have e1:((x.If.length:Int)==0)=false:=by cases hf:x.If;exact absurd hf r1;simp;omega
  rw[this,aV,bj hx,aw,cj,zj _ (by have:=hxo.1.1;omega),LA _ _ (by have:=hxo.1.1;omega) (by omega),has_eq _ _ (by omega),bP i (by omega),e1,r2,r3,r4];exact k trivial
 ·rw[hL,aU.aD,aY];have:decide (l.aZ.length<l.aZ.length)=false:=by simp
  rw[this,bp];exact ag.ret rfl
theorem Vp {l:ah} (hl:l.ok B) (h:na l):(f169 Pf) l=some 0:=by
 rw[Rr,rj];have hl':=hl;rw[ah.c8]at hl;obtain⟨_,_,_,⟨hn,hnn⟩,_,⟨hr,hrr⟩⟩:=hl;obtain⟨n1,n2,n3,n4⟩:=h;refine ag.of (kS (L:=λi=>(lO Pf) l 0 i) (P:=λr=>r=0) (len:=l.Names.length) (λ_=>True) (λi hi _ k=>?_) (λ_=>?_) 0 (by omega) trivial)
 ·show ag ((lO Pf) l 0 i) _;obtain⟨x,hx⟩:=bh hi;have hm:=bw hx;rw[Aa,pc,cj,aY];have:decide (i<l.Names.length)=true:=by simpa using hi
  have hxl:=hnn x hm;rw[this,aV,bj hx,aw,lN x (by omega),aw,bP i (by omega),tc (by omega),aw,contains_eq _ _ (by rw[gT];omega),aw,n1 x hm];refine ag.bif (λe=>by cases e) (λ_=>?_);refine ag.bif (λh6=>?_) (λ_=>k trivial);rw[n3 (by simpa using h6) i x hx];exact k trivial
 ·show ag ((lO Pf) l 0 _) _;rw[Aa,pc,cj,aY];have:decide (l.Names.length<l.Names.length)=false:=by simp
  rw[this,bp,zj _ (by omega)];refine ag.bif (λh6=>?_) (λh6=>?_)
  ·rw[aw,n2 (by simpa using h6)];exact ag.eq (Mh hB hl' n4 _ (λs=>Mn l s))
  ·exact ag.eq (Mh hB hl' n4 _ (λs=>Mo l s))
end
end Go.Proofs.YtfgnmgbiijpkiaaGreat
end

section
namespace Go.Proofs.YtfgnmgbiijpkiaaGreat
open Go Go.Bw
theorem o9 {i:Nat} (h:i<9223372036854775807):IntKind.i64.wrap ((i:Int)+1)=((i+1:Nat):Int):=bP i h
theorem ah.ind {P:ah->Prop} (h:∀x:ah,(∀k∈x.ax,P k)->P x):∀x,P x:=by
 intro x;refine ah.rec (motive_1:=P) (motive_2:=λks=>∀k∈ks,P k) ?_ ?_ ?_ x
 ·intro k lo hi ns ps rs ih;exact h ⟨k,lo,hi,ns,ps,rs⟩ ih
 ·intro k hk;cases hk
 ·intro k ks h1 h2 x hx;rcases cm.1 hx with rfl|hx
  ·exact h1
  ·exact h2 x hx
def ji (a b:aU):Bool:=a.eP==b.eP&&a.If==b.If
mutual
def iJ:ah->ah->Bool
 |⟨k,lo,hi,ns,ps,rs⟩,⟨k',lo',hi',ns',ps',rs'⟩=>k==k'&&(lo==lo'&&(hi==hi'&&(ns==ns'&&((rs.length==rs'.length&&(rs.zip rs').all (λq=>ji q.1 q.2))&&ja ps ps'))))
def ja:List ah->List ah->Bool
 |[],[]=>true
 |x::r,y::s=>iJ x y&&ja r s
 |_,_=>false
end
theorem C4:∀{a b:List ah},a.length=b.length->ja a b=(a.zip b).all (λq=>iJ q.1 q.2)
 |[],[],_=>rfl
 |x::a,y::b,h=>by rw[ja,Ci,kR,C4 (by simpa using h)]
 |[],_::_,h=>by simp at h
 |_::_,[],h=>by simp at h
theorem C6:∀{a b:List ah},a.length≠b.length->ja a b=false
 |[],[],h=>absurd rfl h
 |x::a,y::b,h=>by rw[ja,C6 (by simpa using h),UD]
 |[],_::_,_=>rfl
 |_::_,[],_=>rfl
variable {B:Nat} (hB:B<=1048576)
section
include hB
theorem KK {f:List (List UInt8)->List (List UInt8)->Option Bool} {L:List (List UInt8)->List (List UInt8)->Int->Option Bool} (hf:∀a b,f a b=(bif (↑(aN a).length:Int) !=(↑(aN b).length:Int)then(some (false))else L a b 0))
  (hL:∀a b s,L a b s=(bif decide (s<(↑(aN a).length:Int))then((au (a) (s)).bind λx=>((au (b) (s)).bind λy=>(bif !(x==y)then(some (false))else(L a b (IntKind.i64.wrap (s+1))))))else(some (true))))
  {a b:List (List UInt8)} (ha:a.length<=B):f a b=some (a==b):=by
 rw[hf];simp only[cj];by_cases hl:a.length=b.length
 ·have h0:((a.length:Int) !=(b.length:Int))=false:=by simp[hl]
  rw[h0];show L a b 0=_;rw[qt (a:=a) (b:=b) (L:=L a b) (λx y=>x==y) true hl ?_ ?_,rZ,Y' hl]
  ·intro i x y hx hy hi;rw[hL,cj,o9 (by omega)];have h1:decide ((i:Int)<(a.length:Int))=true:=by simpa using hi
   rw[h1,bj hx,bj hy];show(bif !(x==y)then _ else _)=_;cases (x==y)<;>rfl
  ·rw[hL,cj];simp
 ·have h0:((a.length:Int) !=(b.length:Int))=true:=by simp;omega
  rw[h0];have:(a==b)=false:=by
   cases h:a==b with
   |false=>rfl
   |true=>exact absurd (congrArg List.length (eq_of_beq h)) hl
  rw[this];rfl
end
theorem XJ {a b:aU}:ji a b=true↔a=b:=by
 cases a;cases b;simp[ji,and_comm]
theorem Mg:∀{a b:List aU},(a.length==b.length&&(a.zip b).all (λq=>ji q.1 q.2))=true↔a=b
 |[],[]=>by simp
 |[],_::_=>by simp
 |_::_,[]=>by simp
 |x::a,y::b=>by
  have:=Mg (a:=a) (b:=b);simp only[bL,beq_iff_eq]at this;simp only[iN,Ci,kR,bL,beq_iff_eq,lC,XJ];constructor
  ·rintro ⟨h1,h2,h3⟩;exact⟨h2,this.1 ⟨by omega,h3⟩⟩
  ·rintro ⟨rfl,rfl⟩;exact⟨rfl,rfl,(this.2 rfl).2⟩
mutual
theorem Ds:∀{a b:ah},iJ a b=true↔a=b
 |⟨k,lo,hi,ns,ps,rs⟩,⟨k',lo',hi',ns',ps',rs'⟩=>by
  rw[iJ];have h1:=Lx (a:=ps) (b:=ps');have h2:=Mg (a:=rs) (b:=rs');rw[bL,bL,bL,bL,bL,h1,h2];simp only[beq_iff_eq,ah.mk.injEq];constructor
  ·rintro ⟨a,b,c,d,e,f⟩;exact⟨a,b,c,d,f,e⟩
  ·rintro ⟨a,b,c,d,e,f⟩;exact⟨a,b,c,d,f,e⟩
theorem Lx:∀{a b:List ah},ja a b=true↔a=b
 |[],[]=>by simp[ja]
 |[],_::_=>by simp[ja]
 |_::_,[]=>by simp[ja]
 |x::a,y::b=>by rw[ja,bL,Ds,Lx,lC]
end
end Go.Proofs.YtfgnmgbiijpkiaaGreat
end

section
namespace Go.Proofs.YtfgnmgbiijpkiaaGreat
open Go Go.Bw
theorem Dt {D:Type}:∀{l:List D} {i:Nat} {x:D},l[i]? =some x->l.set i x=l
 |y::l,0,x,h=>by simp only[lD,aE]at h;subst h;rfl
 |y::l,i+1,x,h=>by rw[qe,Dt (by simpa using h)]
theorem Dv {D:Type} {l:List D} (h:l.length<=274877906944):(bif decide ((([]:List D)++l).length<=274877906944)then some ([]++l)else none)=some l:=by
 have:decide ((([]:List D)++l).length<=274877906944)=true:=by simpa using h
 rw[this];rfl
variable {B:Nat} (hB:B<=1048576)
section
include hB
theorem Lw {a:List (List UInt8)} (h:a.length<=B):(f100 Pf) a=some a:=by
 rw[ab9,wP];exact Dv (by omega)
theorem sH:∀l:ah,l.ok B->(f66 Pf) l=some l:=by
 refine ah.ind λl ih hl=>?_;rw[ah.c8]at hl;obtain⟨_,_,_,⟨hn,_⟩,⟨hp,hpp⟩,⟨hr,hrr⟩⟩:=hl;have h2:∀k i:Nat,k=l.ax.length-i->i<=l.ax.length->(vV Pf) l l.Names l.ax (i:Int) l.ax l.aZ=some l:=by
  intro k
  induction k with
  |zero=>
   intro i hk hi;have:i=l.ax.length:=by omega
   subst this;rw[NR,tm,ah.aD,aY];have:decide (l.ax.length<l.ax.length)=false:=by simp
   rw[this,bp];cases l;rfl
  |succ k ihk=>
   intro i hk hi;have hi':i<l.ax.length:=by omega
   obtain⟨x,hx⟩:=bh hi';rw[NR,tm,ah.aD,aY];have:decide (i<l.ax.length)=true:=by simpa using hi'
   have hm:=bw hx;rw[this,aV,bj hx];simp only[aw];rw[ih x hm (ah.iS hpp hm)];simp only[aw];rw[bP i (by omega),fj,Dt hx];exact ihk (i+1) (by omega) (by omega)
 have h1:∀k i:Nat,k=l.aZ.length-i->i<=l.aZ.length->(vU Pf) l l.Names l.aZ (i:Int) l.aZ=some l:=by
  intro k
  induction k with
  |zero=>
   intro i hk hi;have:i=l.aZ.length:=by omega
   subst this;rw[NS,tj,aU.aD,aY];have:decide (l.aZ.length<l.aZ.length)=false:=by simp
   rw[this,bp,ZW,wu,Dv (by omega),aw];exact h2 _ 0 rfl (by omega)
  |succ k ihk=>
   intro i hk hi;have hi':i<l.aZ.length:=by omega
   obtain⟨x,hx⟩:=bh hi';rw[NS,tj,aU.aD,aY];have:decide (i<l.aZ.length)=true:=by simpa using hi'
   have hm:=bw hx;rw[this,aV,bj hx];simp only[aw];rw[Lw hB (hrr x hm).1.1];simp only[aw];rw[bP i (by omega),fj,Dt hx];exact ihk (i+1) (by omega) (by omega)
 rw[e66,xg,Lw hB hn,aw,ZV,wo,Dv (by omega),aw];exact h1 _ 0 rfl (by omega)
end
def oc (f:bl):Prop:=ek f.Name=true/\ek f.On=true/\f.Params.length<=8/\0<=f.Result/\f.Result<=4/\
 ∀(i:Nat) p,f.Params[i]? =some p->ek p.Name=true/\1<=p.aP/\p.aP<=4/\∀(j:Nat) q,j<i->f.Params[j]? =some q->q.Name≠p.Name
