/- lattice.Check and the reference's Check answer the same code. -/
import Derived.Test.YtfgnmgbiijpkiaaGreatKSb
import Derived.Test.YtfgnmgbiijpkiaaGreatKQg
import Derived.Test.YtfgnmgbiijpkiaaGreatKG6
import Derived.Test.YtfgnmgbiijpkiaaGreatKGk
set_option linter.all false
namespace Go.Proofs.YtfgnmgbiijpkiaaGreat
open Go Go.Bw
def eb (l:ah):Prop:= -1000000000<=l.Lo/\l.Lo<=l.Hi/\l.Hi<=1000000000
def oz (l:ah):Prop:=l.Kind=7->∃p,l.ax[0]? =some p/\kP p
open Classical in
noncomputable def bd (l:ah) (d b:Int):Int:=if 6<d then 6 else if 64<=b then 6 else if¬eV l then 1 else if¬mm l then 6 else if¬na l then 3 else if¬eb l then 5 else if¬oz l then 4 else 0
theorem ag.both {D:Type} {o:Option D} {P Q:D->Prop} (h1:ag o P) (h2:ag o Q):ag o (λr=>P r/\Q r):=by
 obtain⟨r,e,h⟩:=h1;obtain⟨s,e',h'⟩:=h2;rw[e]at e';cases e';exact⟨r,e,h,h'⟩
theorem age (l:ah):ag ((f166 Pf) l) (λr=>r=0\/r=1):=by
 rw[Rq,uo];simp only[cj,ah.aD,aU.aD,qM,aw,aV,bp];have w:∀b:Bool,ag (some (bif b then(1:Int)else 0)) (λr=>r=0\/r=1):=λb=>by cases b with|true=>exact ag.ret (.inr rfl)|false=>exact ag.ret (.inl rfl)
 repeat' (first|refine ag.bif (λ_=>?_) (λ_=>?_)|exact ag.ret (.inl rfl)|exact ag.ret (.inr rfl)|exact w _)
theorem afO (l:ah):(eV l/\(f166 Pf) l=some 0)\/(¬eV l/\(f166 Pf) l=some 1):=by
 obtain⟨r,e,h1,h2⟩:=ag.both (WR l) (age l);rcases h2 with rfl|rfl
 ·exact .inl ⟨h1 rfl,e⟩
 ·refine .inr ⟨λh=>?_,e⟩;rw[XK h]at e;cases e
theorem afI (l:ah):(mm l/\(f168 Pf) l=some 0)\/(¬mm l/\(f168 Pf) l=some 6):=by
 have h06:ag ((f168 Pf) l) (λr=>r=0\/r=6):=by
  rw[abY,wK];simp only[cj,aU.aD,qM,aw];have w:∀b:Bool,ag (some (bif b then(6:Int)else 0)) (λr=>r=0\/r=6):=λb=>by cases b with|true=>exact ag.ret (.inr rfl)|false=>exact ag.ret (.inl rfl)
  repeat' (first|exact w _|refine ag.bif (λ_=>?_) (λ_=>?_))
 obtain⟨r,e,h1,h2⟩:=ag.both (KL l) h06;rcases h2 with rfl|rfl
 ·exact .inl ⟨h1.1 rfl,e⟩
 ·exact .inr ⟨λh=>(by have:=h1.2 h;cases this),e⟩
theorem afJ (l:ah):(eb l/\(f170 Pf) l=some 0)\/(¬eb l/\(f170 Pf) l=some 5):=by
 have h05:ag ((f170 Pf) l) (λr=>r=0\/r=5):=by
  rw[Rs,ux];simp only[qM,aw];have w:∀b:Bool,ag (some (bif b then(5:Int)else 0)) (λr=>r=0\/r=5):=λb=>by cases b with|true=>exact ag.ret (.inr rfl)|false=>exact ag.ret (.inl rfl)
  repeat' (first|exact w _|refine ag.bif (λ_=>?_) (λ_=>?_))
 obtain⟨r,e,h1,h2⟩:=ag.both (VV l) h05;rcases h2 with rfl|rfl
 ·exact .inl ⟨h1 rfl,e⟩
 ·refine .inr ⟨λh=>?_,e⟩;rw[WS h]at e;cases e
theorem afK {l:ah} (hs:eV l):(oz l/\(f171 Pf) l=some 0)\/(¬oz l/\(f171 Pf) l=some 4):=by
 have h04:ag ((f171 Pf) l) (λr=>r=0\/r=4):=by
  obtain⟨r,e,_⟩:=VW l hs;refine⟨r,e,?_⟩;rw[Rt,uy]at e;simp only[qM,aw]at e;cases h:l.Kind==7 with
  |false=>rw[h]at e;cases e;exact .inl rfl
  |true=>
   rw[h,aV]at e;obtain⟨x,_,e⟩:=Option.bind_eq_some_iff.1 e;obtain⟨y,_,e⟩:=Option.bind_eq_some_iff.1 e;cases y with
   |true=>cases e;exact .inl rfl
   |false=>cases e;exact .inr rfl
 obtain⟨r,e,h1,h2⟩:=ag.both (VW l hs) h04;rcases h2 with rfl|rfl
 ·exact .inl ⟨h1 rfl,e⟩
 ·refine .inr ⟨λh=>?_,e⟩;rw[WT h]at e;cases e
section
variable {B:Nat} (hB:B<1099511627776)
include hB
theorem afb {l:ah} (hl:l.ok B) (L:Int->Option Int) (hL:∀s,L s=(bif decide (s<(↑(aU.rows l.aZ).length:Int))then((au (l.aZ) (s)).bind λx=>(bif (↑(aN x.If).length:Int)==0 then(some (3))else(((f214 Pf) (x.If)).bind λy=>(bif !y then(some (3))else(((f215 Pf) (x.If) (l.Names)).bind λz=>(bif !z then(some (3))else(((f81 Pf) (l.Names) (x.eP)).bind λu=>(bif !u then(some (3))else(L (IntKind.i64.wrap (s+1)))))))))))else(some (0)))):
  ag (L 0) (λr=>r=0\/r=3):=by
 rw[ah.c8]at hl;obtain⟨_,_,_,⟨hn,_⟩,_,⟨hr,hrr⟩⟩:=hl;exact kS (L:=L) (P:=λr=>r=0\/r=3) (len:=l.aZ.length) (λi=>True) (λi hi hI k=>by
  obtain⟨x,hx⟩:=bh hi;have hxo:=hrr x (bw hx);rw[hL,aU.aD,aY];have:decide (i<l.aZ.length)=true:=by simpa using hi
  rw[this,aV,bj hx,aw,cj,zj _ (by have:=hxo.1.1;omega),LA _ _ (by have:=hxo.1.1;omega) (by omega),has_eq _ _ (by omega),bP i (by omega)];simp only[aw];refine ag.bif (λ_=>ag.ret (.inr rfl)) (λh1=>?_);refine ag.bif (λ_=>ag.ret (.inr rfl)) (λh2=>?_);refine ag.bif (λ_=>ag.ret (.inr rfl)) (λh3=>?_);refine ag.bif (λ_=>ag.ret (.inr rfl)) (λh4=>?_);exact k trivial) (λhI=>by
  rw[hL,aU.aD,aY];have:decide (l.aZ.length<l.aZ.length)=false:=by simp
  rw[this,bp];exact ag.ret (.inl rfl)) 0 (by omega) trivial
theorem afP {l:ah} (hl:l.ok B):ag ((f169 Pf) l) (λr=>r=0\/r=3):=by
 rw[Rr,rj];have hl':=hl;rw[ah.c8]at hl;obtain⟨_,_,_,⟨hn,hnn⟩,_,⟨hr,hrr⟩⟩:=hl;exact kS (L:=λi=>(lO Pf) l 0 i) (P:=λr=>r=0\/r=3) (len:=l.Names.length) (λi=>True) (λi hi hI k=>by
  show ag ((lO Pf) l 0 i) _;obtain⟨x,hx⟩:=bh hi;rw[Aa,pc,cj,aY];have:decide (i<l.Names.length)=true:=by simpa using hi
  have hxl:=hnn x (bw hx);rw[this,aV,bj hx,aw,lN x (by omega),aw,bP i (by omega),tc (by omega),aw,contains_eq _ _ (by rw[gT];omega),aw];refine ag.bif (λ_=>ag.ret (.inr rfl)) (λh1=>?_);refine ag.bif (λh6=>?_) (λh6=>k trivial);exact ag.bif (λ_=>ag.ret (.inr rfl)) (λh7=>k trivial)) (λhI=>by
  show ag ((lO Pf) l 0 _) _;rw[Aa,pc,cj,aY];have:decide (l.Names.length<l.Names.length)=false:=by simp
  rw[this,bp];rw[zj _ (by omega)];refine ag.bif (λh6=>?_) (λh6=>?_)
  ·rw[aw];exact ag.bif (λ_=>ag.ret (.inr rfl)) (λh8=>afb hB hl' _ (λs=>Mn l s))
  ·exact afb hB hl' _ (λs=>Mo l s)) 0 (by omega) trivial
theorem afC {l:ah} (hl:l.ok B):(na l/\(f169 Pf) l=some 0)\/(¬na l/\(f169 Pf) l=some 3):=by
 obtain⟨r,e,h1,h2⟩:=ag.both (U8 hB hl) (afP hB hl);rcases h2 with rfl|rfl
 ·exact .inl ⟨h1 rfl,e⟩
 ·refine .inr ⟨λh=>?_,e⟩;rw[Vp hB hl h]at e;cases e
omit hB in
theorem or4 (a b c d:Int):(f167 Pf) [a,b,c,d]=some (if a≠0 then a else if b≠0 then b else if c≠0 then c else d):=by
 have one:∀(i:Nat) (x:Int),i<4->[a,b,c,d][i]? =some x->(mK Pf) [a,b,c,d] (i:Int)=if x≠0 then some x else(mK Pf) [a,b,c,d] ((i+1:Nat):Int):=λi x hi hx=>by
  rw[Ab,pd,ql,aY];have:decide (i<[a,b,c,d].length)=true:=by simpa using hi
  rw[this,aV,bj hx,aw,bP i (by omega)];by_cases h:x=0
  ·have e:(x !=0)=false:=by simp[h]
   rw[e,bp,cM (by simpa using h)]
  ·have e:(x !=0)=true:=by simpa using h
   rw[e,aV,dj h]
 rw[Ru,rm];have h0:=one 0 a (by omega) rfl;have h1:=one 1 b (by omega) rfl;have h2:=one 2 c (by omega) rfl;have h3:=one 3 d (by omega) rfl;have h4:(mK Pf) [a,b,c,d] ((4:Nat):Int)=some 0:=by
  rw[Ab,pd,ql,aY];rfl
 show(mK Pf) [a,b,c,d] ((0:Nat):Int)=_;rw[h0,h1,h2,h3,h4];by_cases ha:a=0<;>by_cases hb:b=0<;>by_cases hc:c=0<;>by_cases hd:d=0<;>simp[ha,hb,hc,hd]
end
section
variable {B:Nat} (hB:B<1099511627776)
include hB
open Classical in
theorem afM {l:ah} (hl:l.ok B) (d b:Int):(f90 Pf) l d b=some (bd l d b):=by
 suffices h:ag ((f90 Pf) l d b) (λr=>r=bd l d b)by
  obtain⟨r,e,h⟩:=h;rw[e,h]
 rw[TR,uU];simp only[cj,aU.aD];by_cases h1:6<d
 ·have e:decide (d>6)=true:=by simpa using h1
  simp only[e,aV];refine ag.bif (λ_=>?_) (λ_=>ag.bif (λ_=>?_) (λ_=>?_))
  all_goals exact ag.ret (by simp[bd,h1])
 have e1:decide (d>6)=false:=by simpa using h1
 by_cases h2:64<=b
 ·have e:decide (b>=64)=true:=by simpa using h2
  simp only[e1,e,aV,bp];refine ag.bif (λ_=>?_) (λ_=>ag.bif (λ_=>?_) (λ_=>?_))
  all_goals exact ag.ret (by simp[bd,h1,h2])
 have e2:decide (b>=64)=false:=by simpa using h2
 simp only[e1,e2,bp];by_cases h3:¬eV l
 ·obtain⟨y,ey,hy⟩:=VZ l;have hy:y=false:=by cases y with|false=>rfl|true=>exact absurd (hy rfl) h3
  subst hy;rw[ey];simp only[aw,u5,aV];refine ag.bif (λ_=>?_) (λ_=>ag.bif (λ_=>?_) (λ_=>?_))
  all_goals exact ag.ret (by simp[bd,h1,h2,h3])
 have h3:eV l:=Classical.not_not.1 h3;rw[WV h3];simp only[aw,xQ,bp];have hn:(f154 Pf) l=some (decide (na l)):=by
  obtain⟨y,ey,hy⟩:=V0 hB hl h3;cases y with
  |true=>rw[ey,decide_eq_true (hy rfl)]
  |false=>
   by_cases h5:na l
   ·rw[WX hB hl h5]at ey;cases ey
   ·rw[ey,decide_eq_false h5]
 rw[hn];simp only[aw];have tail:∀(X:Option Int),mm l->na l->(eb l->ag X (λr=>r=bd l d b))->ag (bif decide (l.Lo>l.Hi)then some 5 else bif decide (l.Lo< -1000000000)then some 5 else bif decide (l.Hi>1000000000)then some 5 else X) (λr=>r=bd l d b):=by
  intro X h4 h5 hX;refine ag.bif (λh=>ag.ret ?_) (λq1=>ag.bif (λh=>ag.ret ?_) (λq2=>ag.bif (λh=>ag.ret ?_) (λq3=>hX ?_)))
  ·have:¬eb l:=λg=>by unfold eb at g;simp at h;omega
   simp[bd,h1,h2,h3,h4,h5,this]
  ·have:¬eb l:=λg=>by unfold eb at g;simp at h;omega
   simp[bd,h1,h2,h3,h4,h5,this]
  ·have:¬eb l:=λg=>by unfold eb at g;simp at h;omega
   simp[bd,h1,h2,h3,h4,h5,this]
  ·unfold eb;simp at q1 q2 q3;omega
 have all:∀(n:Int) (X:Option Int),(mm l↔(l.Names.length:Int)<=n/\l.aZ.length<=32)->(mm l->na l->eb l->ag X (λr=>r=bd l d b))->ag (bif decide ((l.Names.length:Int)>n)then some 6 else bif decide ((l.aZ.length:Int)>32)then some 6 else bif !decide (na l)then some 3 else bif decide (l.Lo>l.Hi)then some 5 else bif decide (l.Lo< -1000000000)then some 5 else bif decide (l.Hi>1000000000)then some 5 else X) (λr=>r=bd l d b):=by
  intro n X hlim hX;refine ag.bif (λh=>ag.ret ?_) (λq1=>ag.bif (λh=>ag.ret ?_) (λq2=>?_))
  ·have:¬mm l:=λg=>by have:=(hlim.1 g).1;simp at h;omega
   simp[bd,h1,h2,h3,this]
  ·have:¬mm l:=λg=>by have:=(hlim.1 g).2;simp at h;omega
   simp[bd,h1,h2,h3,this]
  have h4:mm l:=hlim.2 (by simp at q1 q2;omega);refine ag.bif (λh=>ag.ret ?_) (λh=>?_)
  ·have:¬na l:=by simpa using h
   simp[bd,h1,h2,h3,h4,this]
  ·have h5:na l:=by simpa using h
   exact tail X h4 h5 λg=>hX h4 h5 g
 refine ag.bif (λk6=>?_) (λk6=>ag.bif (λk10=>?_) (λk10=>?_))
 ·have k:l.Kind=6:=by simpa using k6
  refine all 8 _ (by simp[mm,k];omega) λh4 h5 h6=>ag.ret ?_;have:oz l:=λe=>by rw[k]at e;cases e
  simp[bd,h1,h2,h3,h4,h5,h6,this]
 ·have k:l.Kind=10:=by simpa using k10
  refine all 12 _ (by simp[mm,k];omega) λh4 h5 h6=>ag.ret ?_;have:oz l:=λe=>by rw[k]at e;cases e
  simp[bd,h1,h2,h3,h4,h5,h6,this]
 ·have q6:l.Kind≠6:=by simpa using k6
  have q10:l.Kind≠10:=by simpa using k10
  refine all 32 _ (by simp[mm,q6,q10];omega) λh4 h5 h6=>?_;refine ag.bif (λh7=>?_) (λh7=>ag.ret ?_)
  ·have h7:l.Kind=7:=by simpa using h7
   have hp2:l.ax.length=2:=by have:=h3;simp[eV,h7]at this;exact this.1
   obtain⟨p,hp⟩:=bh (l:=l.ax) (i:=0) (by omega);have e0:au l.ax 0=some p:=hp;rw[e0,aw];obtain⟨y,ey,hy⟩:=CM _ p (bQ _);rw[ey,aw];refine ag.bif (λh=>ag.ret ?_) (λh=>ag.ret ?_)
   ·have:¬oz l:=λg=>by
     obtain⟨p',hp',hc⟩:=g h7;rw[hp]at hp';cases hp';rw[WW hc]at ey;cases ey;cases h
    simp[bd,h1,h2,h3,h4,h5,h6,this]
   ·have:oz l:=λ_=>⟨p,hp,hy (by simpa using h)⟩;simp[bd,h1,h2,h3,h4,h5,h6,this]
  ·have:oz l:=λe=>by rw[e]at h7;cases h7
   simp[bd,h1,h2,h3,h4,h5,h6,this]
theorem afN {l:ah} (hl:l.ok B) (d b:Int) (hb:0<=b/\b<=64):(bd l d b≠0/\∃m,(f99 Pf) ⟨b⟩ l d=some (bd l d b,⟨m⟩))\/(bd l d b=0/\d<=6/\b<64/\(f99 Pf) ⟨b⟩ l d=(mT Pf) l d 0 ⟨b+1⟩):=by
 rw[TJ,uL];by_cases h1:6<d
 ·have e:decide (d>6)=true:=by simpa using h1
  rw[e,aV];exact .inl ⟨by simp[bd,h1],b,by simp[bd,h1]⟩
 have e1:decide (d>6)=false:=by simpa using h1
 rw[e1,bp];by_cases h2:64<=b
 ·have e:decide ((⟨b⟩:dp).nodes>=64)=true:=by simpa using h2
  rw[e,aV];exact .inl ⟨by simp[bd,h1,h2],b,by simp[bd,h1,h2]⟩
 have e2:decide ((⟨b⟩:dp).nodes>=64)=false:=by simpa using h2
 have w:IntKind.i64.wrap ((⟨b⟩:dp).nodes+1)=b+1:=wrap64 (by show _<=b+1;omega) (by show b+1<_;omega);rw[e2,bp,w];rcases afO l with⟨h3,e3⟩|⟨h3,e3⟩
 ·rw[e3,aw];have e0:((0:Int) !=0)=false:=rfl;rw[e0,bp];have body:∀a b' c' d':Int,(f168 Pf) l=some a->(f169 Pf) l=some b'->(f170 Pf) l=some c'->(f171 Pf) l=some d'->(if a≠0 then a else if b'≠0 then b' else if c'≠0 then c' else d')=bd l d b->(bd l d b≠0/\∃m,(((f168 Pf) l).bind λy5=>(((f169 Pf) l).bind λy6=>(((f170 Pf) l).bind λy7=>(((f171 Pf) l).bind λy8=>(((f167 Pf) ([y5,y6,y7,y8])).bind λy9=>(bif y9 !=0 then(some (y9,({nodes:=b+1:dp})))else((mT Pf) l d 0 ({nodes:=b+1:dp}))))))))=some (bd l d b,⟨m⟩))\/(bd l d b=0/\d<=6/\b<64/\(((f168 Pf) l).bind λy5=>(((f169 Pf) l).bind λy6=>(((f170 Pf) l).bind λy7=>(((f171 Pf) l).bind λy8=>(((f167 Pf) ([y5,y6,y7,y8])).bind λy9=>(bif y9 !=0 then(some (y9,({nodes:=b+1:dp})))else((mT Pf) l d 0 ({nodes:=b+1:dp}))))))))=(mT Pf) l d 0 ⟨b+1⟩):=by
   intro a b' c' d' h1' h2' h3' h4' h5;rw[h1',h2',h3',h4'];simp only[aw];rw[or4,aw,h5];by_cases h0:bd l d b=0
   ·exact .inr ⟨h0,by omega,by omega,by rw[h0];rfl⟩
   ·have e:(bd l d b !=0)=true:=by simpa using h0
    exact .inl ⟨h0,b+1,by rw[e,aV]⟩
  rcases afI l with⟨h4,e4⟩|⟨h4,e4⟩<;>rcases afC hB hl with⟨h5,e5⟩|⟨h5,e5⟩<;>rcases afJ l with⟨h6,e6⟩|⟨h6,e6⟩<;>rcases afK h3 with⟨h7,e7⟩|⟨h7,e7⟩<;>exact body _ _ _ _ e4 e5 e6 e7 (by simp[bd,h1,h2,h3,h4,h5,h6,h7])
 ·rw[e3,aw];exact .inl ⟨by simp[bd,h1,h2,h3],b+1,by simp[bd,h1,h2,h3]⟩
theorem afT (l:ah):l.ok B->∀d b:Int,0<=d->d<=7->0<=b->b<=64->∃e m m',(f99 Pf) ⟨b⟩ l d=some (e,⟨m⟩)/\(f46 Pf) l d b=some (m',e)/\(e=0->m=m'/\0<=m/\m<=64):=by
 revert l;refine aaJ λl ih hl d b hd hd7 hb hb64=>?_;rw[TU,uV,afM hB hl,aw];rcases afN hB hl d b ⟨hb,hb64⟩with⟨h0,m,hv⟩|⟨h0,hd6,hb6,hv⟩
 ·have e:(bd l d b !=0)=true:=by simpa using h0
  rw[e,aV];exact⟨_,m,b,hv,rfl,λh=>absurd h h0⟩
 have e:(bd l d b !=0)=false:=by rw[h0];rfl
 rw[e,bp,hv,wrap64 (x:=b+1) (by omega) (by omega)];rw[ah.c8]at hl;obtain⟨_,_,_,_,⟨hp,hpp⟩,_⟩:=hl;have key:∀(k i:Nat) (b:Int),i+k=l.ax.length->0<=b->b<=64->∃e m m',(mT Pf) l d (i:Int) ⟨b⟩=some (e,⟨m⟩)/\(mW Pf) l d b (i:Int)=some (m',e)/\(e=0->m=m'/\0<=m/\m<=64):=by
  intro k
  induction k with
  |zero=>
   intro i b hi h1 h2;have:i=l.ax.length:=by omega
   subst this;rw[Aw,py,AB,pD,ah.aD,aY];have:decide (l.ax.length<l.ax.length)=false:=by simp
   rw[this,bp,bp];exact⟨0,b,b,rfl,rfl,λ_=>⟨rfl,h1,h2⟩⟩
  |succ k im=>
   intro i b hi h1 h2;obtain⟨x,hx⟩:=bh (l:=l.ax) (i:=i) (by omega);have hxm:=bw hx;obtain⟨e,m,m',g1,g2,g3⟩:=ih x hxm (ah.iS hpp hxm) (d+1) b (by omega) (by omega) h1 h2;rw[Aw,py,AB,pD,ah.aD,aY];have:decide (i<l.ax.length)=true:=by simp;omega
   rw[this,aV,aV,bj hx,aw,aw,wrap64 (x:=d+1) (by omega) (by omega),g1,g2,aw,aw,bP i (by omega)];by_cases he:e=0
   ·subst he;obtain⟨rfl,h3,h4⟩:=g3 rfl;exact im (i+1) m (by omega) h3 h4
   ·have e':(e !=0)=true:=by simpa using he
    rw[e',aV,aV];exact⟨e,m,b,rfl,rfl,λh=>absurd h he⟩
 exact key l.ax.length 0 (b+1) (by omega) (by omega) (by omega)
theorem afL {l:ah} (hl:l.ok B):(f54 Pf) l=(f15 Pf) l:=by
 obtain⟨e,m,m',g1,g2,_⟩:=afT hB l hl 1 0 (by omega) (by omega) (by omega) (by omega);rw[TL,uM,TV,uW,show dp.z=⟨0⟩from rfl,g1,g2];rfl
end
section
variable {B:Nat} (hB:B<=1048576) (hB0:70000<=B)
include hB hB0
theorem afE {os:List bt} (hos:os.length<=B/\∀o∈os,o.ok B) {n:ab} (hn:LNqq n):
  ∃y f,(f27 Pf) os n=some (y,f)/\(f28 Pf) os n=some (y,f)/\y.ok B/\(f.Code=0->(f15 Pf) y=some 0):=by
 have hd:RR (DQ1 B) ((f117 Pf) ⟨os⟩ n) ((f68 Pf) os n):=afZ hB hB0 (c:=⟨os⟩) hos hn;have zok:ah.ok B ah.z:=Qk B;rcases hd with⟨y,z,⟨rfl,hy⟩,e1,e2⟩|⟨a,b,z,ha,e1,e2⟩
 ·obtain⟨r,erqq,_⟩:=VY (by omega) hy;have ecqq:=(afL (by omega) hy).trans erqq;by_cases hr:r=0
  ·subst hr;have e3:(f67 Pf) ⟨os⟩ n=some (.ret z):=by
    rw[e67,tx,e1];show(((f54 Pf) z).bind _)=_;rw[ecqq];rfl
   refine⟨z,⟨0,0⟩,?_,?_,hy,λ_=>erqq⟩
   ·rw[e27,tF,e3];show(((f66 Pf) z).bind _)=_;rw[sH hB z hy];rfl
   ·rw[e28,wq,e2];show(bif (0:Int) !=0 then some (ah.z,(⟨0,0⟩:aM))else(((f15 Pf) z).bind _))=_;rw[erqq];rfl
  ·have hrb:(r !=0)=true:=by simpa using hr
   have e3:(f67 Pf) ⟨os⟩ n=some (.aO (FF r n.At)):=by
    rw[e67,tx,e1];show(((f54 Pf) z).bind _)=_;rw[ecqq,aw,hrb,aV,lq,iL];rfl
   refine⟨ah.z,⟨r,n.At⟩,?_,?_,zok,λh=>absurd h hr⟩
   ·rw[e27,tF,e3];show(bif r !=0 then some (ah.z,(⟨r,n.At⟩:aM))else some (ah.z,(⟨r,n.At⟩:aM)))=_;rw[hrb];rfl
   ·rw[e28,wq,e2];show(bif (0:Int) !=0 then some (ah.z,(⟨0,0⟩:aM))else(((f15 Pf) z).bind _))=_;rw[show((0:Int) !=0)=false from rfl,bp,erqq,aw,hrb,aV,e41,BG];rfl
 ·have hab:(a !=0)=true:=by simpa using ha
  refine⟨ah.z,⟨a,b⟩,?_,?_,zok,λh=>absurd h ha⟩
  ·rw[e27,tF,e67,tx,e1];show(bif a !=0 then some (ah.z,(⟨a,b⟩:aM))else some (ah.z,(⟨a,b⟩:aM)))=_;rw[hab];rfl
  ·rw[e28,wq,e2];show(bif a !=0 then some (ah.z,(⟨a,b⟩:aM))else _)=_;rw[hab];rfl
end
theorem afD {l:ah} {nm src:List UInt8} (hl:l.ok 1048576):(f7 Pf) l nm src=some true:=by
 refine ag.of ?_;rw[e7,B7qq,wx,x9,aam];have awqq:ag ((some true).bind λy2=>(some (y2))) (λr=>r=true):=ag.ret rfl;refine ag.bif (λ_=>awqq) (λhlen=>ag.bif (λ_=>awqq) (λhnm=>?_));refine ag.bind (VY (B:=1048576) (by decide) hl) (λb _=>ag.bif (λ_=>awqq) (λ_=>?_));refine ag.bind (afF (by simp at hlen;omega)) (λn hn=>ag.bif (λ_=>awqq) (λh4=>?_));have hln:=hn (by simpa using h4);have hnm:nm.length<=40:=by simp at hnm;omega
 have hos:([⟨nm,l⟩]:List bt).length<=1048576/\∀o∈([⟨nm,l⟩]:List bt),o.ok 1048576:=⟨by simp,λo ho=>by
  simp at ho;subst ho;exact⟨by show nm.length<=_;omega,hl⟩⟩
 obtain⟨y,f,e1,e2,hy,hc⟩:=afE (bQ _) (by decide) hos hln;rw[e1,e2,aw,aw,aw];have e:(f.Code==f.Code&&(f.At==f.At&&true))=true:=by simp
 show ag (bif true then bif f.Code==f.Code&&(f.At==f.At&&true)then((f29 Pf) y y).bind _ else _ else _) _;rw[e,aV,aV,WQ (by decide) y y hy,Ds.2 rfl,aw,aV];refine ag.bif (λ_=>ag.ret rfl) (λh=>?_);rw[hc (by simpa using h)];exact ag.ret rfl
set_option maxRecDepth 100000 in
theorem afB (xs:List AV) (h:tf Tryz.prog 1048576 Tryz.f7.params.toList xs):Bw.Pure env.toCx 7 xs (.ret (PI true)):=by
 rw[Tryz.params7]at h;obtain⟨x,r,rfl,hx,x2,r2,rfl,hx2,x3,r3,rfl,hx3,hr⟩:=h;simp only[tf]at hr;subst hr;simp only[nW,Tryz.underlying43,n9]at hx hx2 hx3;obtain⟨n,row,hx,rfl⟩:=hx;obtain⟨n2,hx2⟩:=hx2;obtain⟨n3,hx3⟩:=hx3;obtain⟨l,rfl,hl⟩:=ah.sh _ _ hx;obtain⟨⟨⟨a⟩⟩,e2,_⟩:=nV n9 hx2;obtain⟨⟨⟨src⟩⟩,e3,_⟩:=nV n9 hx3;simp only[lC,and_true]at e2 e3;subst e2;subst e3;exact p7qq _ _ _ _ (afD hl)
