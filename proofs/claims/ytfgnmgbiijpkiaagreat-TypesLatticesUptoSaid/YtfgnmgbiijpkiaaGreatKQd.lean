/- The reference's set of names is names.Of; quoted names. -/
import Derived.Test.YtfgnmgbiijpkiaaGreatKSn
import Derived.Test.YtfgnmgbiijpkiaaGreatKRr
import Derived.Test.YtfgnmgbiijpkiaaGreatKQa
set_option linter.all false
namespace Go.Proofs.YtfgnmgbiijpkiaaGreat
open Go Go.Bw
theorem aeN {a:List (List UInt8)} {t:List UInt8}:(a.any λy=>y==t)=true↔t∈a:=by
 rw[ka];exact⟨λ⟨x,h,e⟩=>(by simpa using e:x=t)▸h,λh=>⟨t,h,by simp⟩⟩
theorem agA {x y:List UInt8}:(Op.bytesLess y x||y==x)=false->Op.bytesLess x y=true:=by
 intro h;rw[Bool.or_eq_false_iff]at h;have h1:=h.1;have hc:gK x y<=0:=by unfold gK;rw[h1];cases Op.bytesLess x y<;>simp
 rcases KO.1 hc with e|e
 ·have:=h.2;simp[e]at this
 ·exact e
theorem af' {A C:List (List UInt8)} {x y:List UInt8}:(((A++y::x::C).set A.length x).set (A.length+1) y)=A++x::y::C:=by
 rw[List.set_append_right _ _ (bQ _),Nat.sub_self,xI,List.set_append_right _ _ (by omega),show A.length+1-A.length=1 by omega];rfl
section
variable {a0:List (List UInt8)} (h0:a0.length<=1000000)
include h0
theorem agq {s1:List (List UInt8)} {i:Int} {x4 x8:List UInt8} {y6:Bool} {x:List UInt8} {P:Option (List (List UInt8))->Prop}:∀(n:Nat) (A C:List (List UInt8)),A.length=n->A.length+C.length<=1000000->rising (A++C)=true->x∉A->(∀c∈C,Op.bytesLess x c=true)->
  (∀R:List (List UInt8),rising R=true->(∀z,z∈R↔z=x\/z∈A++C)->P ((k7 Pf) a0 R (IntKind.i64.wrap (i+1))))->P ((adT Pf) a0 s1 i x4 y6 x8 (A++x::C) (n:Int)):=by
 intro n
 induction n with
 |zero=>
  intro A C hA hl hr hx hC k;have:A=[]:=Jv.1 hA;subst this;rw[aeR,adC];have:decide (((0:Nat):Int)>0)=false:=by simp
  rw[this,bp];exact k _ (by rw[C8];exact xF.2 ⟨hC,C8.1 hr⟩) (λz=>by simp)
 |succ n im=>
  intro A C hA hl hr hx hC k;obtain⟨A',y,rfl⟩:∃A' y,A=A'++[y]:=⟨A.dropLast,A.getLast (by intro h;subst h;simp at hA),(List.dropLast_concat_getLast _).symm⟩;have hA':A'.length=n:=by simpa using hA
  subst hA';have hpw:=C8.1 hr;rw[aeR,adC];have:decide (((A'.length+1:Nat):Int)>0)=true:=by simp
  have e1:(A'++[y])++x::C=A'++y::x::C:=by simp
  have g1:(A'++y::x::C)[A'.length]? =some y:=by simp
  have g2:(A'++y::x::C)[A'.length+1]? =some x:=by simp
  have w1:IntKind.i64.wrap (((A'.length+1:Nat):Int)-1)=(A'.length:Int):=by rw[wrap64 (by omega) (by omega)];omega
  have hl':A'.length+1+C.length<=1000000:=by simpa using hl
  rw[this,aV,w1,e1,bj g1,aw,bj g2,aw];cases hc:(Op.bytesLess y x||y==x)with
  |true=>
   rw[xQ,bp];refine k _ ?_ (λz=>by simp;constructor<;>(intro h;rcases h with h|h|h|h<;>simp[h]));have hyx:Op.bytesLess y x=true:=by
    rcases Bool.or_eq_true_iff.1 hc with h|h
    ·exact h
    ·exact absurd (by simp[(by simpa using h:y=x)]) hx
   rw[C8];rw[jZ]at hpw;obtain⟨q1,q2,q3⟩:=List.pairwise_append.1 hpw;rw[List.singleton_append,xF]at q2;refine List.pairwise_append.2 ⟨q1,xF.2 ⟨λz hz=>?_,xF.2 ⟨hC,q2.2⟩⟩,λz hz w hw=>?_⟩
   ·rcases cm.1 hz with rfl|h
    ·exact hyx
    ·exact q2.1 z h
   ·rcases cm.1 hw with rfl|h
    ·exact q3 z hz _ (by simp)
    ·rcases cm.1 h with rfl|h
     ·exact vx (q3 z hz y (by simp)) hyx
     ·exact q3 z hz w (by simp[h])
  |false=>
   have hxy:=agA hc;rw[u5,aV,aw,aw,aw];have t1:((A'.length:Nat):Int).toNat=A'.length:=by simp
   have t2:((A'.length+1:Nat):Int).toNat=A'.length+1:=by simp
   rw[t1,t2];have g3:((A'++y::x::C).set A'.length x)[A'.length+1]? =some x:=by rw[jX (by omega)];exact g2
   rw[bj g3,aw,af'];refine im A' (y::C) rfl (by simp;omega) (by simpa using hr) (λh=>hx (by simp[h])) (λc hc'=>?_) (λR hR hm=>k R hR λz=>(hm z).trans (by simp));rcases cm.1 hc' with rfl|h
   ·exact hxy
   ·exact hC c h
theorem agp:(f179 Pf) a0=some (fR a0):=by
 rw[agO,adI];have key:∀(m i:Nat) (R:List (List UInt8)),i+m=a0.length->rising R=true->R.length<=i->(∀z,z∈R↔z∈a0.take i)->(k7 Pf) a0 R (i:Int)=some (fR a0):=by
  intro m
  induction m with
  |zero=>
   intro i R hi hR hl hm;have:i=a0.length:=by omega
   subst this;rw[aeS,adB,cj,aY];have:decide (a0.length<a0.length)=false:=by simp
   rw[this,bp];rw[jW]at hm;rw[aeC hR Vs λz=>(hm z).trans XR.symm]
  |succ m im=>
   intro i R hi hR hl hm;obtain⟨x,hx⟩:=bh (l:=a0) (i:=i) (by omega);rw[aeS,adB,cj,aY];have:decide (i<a0.length)=true:=by simp;omega
   rw[this,aV,bj hx,aw,Ek _ _ (by omega),aw];have hmm:∀z,z∈a0.take (i+1)↔z=x\/z∈a0.take i:=λz=>by rw[<-lK hx];simp[or_comm]
   cases ha:(R.any λy=>y==x)with
   |true=>
    have:x∈R:=aeN.1 ha;rw[aV,bP i (by omega)];refine im (i+1) R (by omega) hR (by omega) λz=>?_;rw[hmm];exact⟨λh=> .inr ((hm z).1 h),λh=>h.elim (λe=>e▸this) (hm z).2⟩
   |false=>
    have hn:x∉R:=λh=>by rw[aeN.2 h]at ha;cases ha
    rw[bp,aw];have hg:decide ((R++[x]).length<=274877906944)=true:=by simp;omega
    rw[hg,aV];have hlen:IntKind.i64.wrap ((↑(aN R++[List.take 1 (AV.v (Value.string {data:={toList:=x:Array UInt8}:ByteArray})::(List.map AV.v []).append [])]).length:Int)-1)=(R.length:Int):=by
     rw[jV,cj,List.length_singleton,wrap64 (by omega) (by omega)];omega
    rw[hlen];refine agq h0 (P:=λo=>o=some (fR a0)) R.length R [] rfl (by simp;omega) (by simpa using hR) hn (λc hc=>by cases hc) λQ hQ hmQ=>?_;rw[bP i (by omega)];have hq:Q.length<=i+1:=by
     have:Q.Perm (x::R):=(List.perm_ext_iff_of_nodup (xX hQ) (Ce.2 ⟨hn,xX hR⟩)).2 λz=>by rw[hmQ z];simp
     rw[this.length_eq];simp;omega
    exact im (i+1) Q (by omega) hQ hq λz=>by rw[hmQ z,hmm,<-hm z];simp
 exact key a0.length 0 [] (by omega) rfl (by simp) (λz=>by simp)
end
theorem aeM (a:List (List UInt8)) (x:List UInt8):(a.any λy=>x==y)=(a.any λy=>y==x):=by
 congr 1;funext y;exact Bool.beq_comm
theorem aeG {D:Type} (q:D->Bool):∀(l:List D) (i:Nat),(idxOf q l (i:Int)= -1/\l.find? q=none)\/∃(j:Nat) (o:D),idxOf q l (i:Int)=((i+j:Nat):Int)/\l[j]? =some o/\l.find? q=some o
 |[],i=> .inl ⟨rfl,rfl⟩
 |x::r,i=>by
  rw[idxOf,List.find?_cons];cases hx:q x with
  |true=>exact .inr ⟨0,x,by simp,rfl,rfl⟩
  |false=>
   rcases aeG q r (i+1)with⟨h1,h2⟩|⟨j,o,h1,h2,h3⟩
   ·exact .inl ⟨by simpa using h1,h2⟩
   ·refine .inr ⟨j+1,o,?_,h2,h3⟩;have e:((i:Nat):Int)+1=((i+1:Nat):Int):=by omega
    rw[bp,e,h1];congr 1;omega
abbrev ox (ns:List ab):List (List UInt8):=ns.map (·.Text)
theorem ad6 {ns:List ab} (hn:ns.length<=70000):RR (λy z=>z=y/\y=fR (ox ns)) ((f177 Pf) ns) ((f118 Pf) ns):=by
 rw[agM,adH,agP,adJ];have key:∀(m i:Nat) (s s':List (List UInt8)),i+m=ns.length->s=ox (ns.take i)->RR (λy z=>z=y/\y=fR (ox ns)) ((adM Pf) ns s (i:Int)) ((adU Pf) ns s' s (i:Int)):=by
  intro m
  induction m with
  |zero=>
   intro i s s' hi hs;have:i=ns.length:=by omega
   subst this;rw[jW]at hs;subst hs;rw[aeQ,adA,lr,aeT,adD,ab.aD,aY];have:decide (ns.length<ns.length)=false:=by simp
   rw[this,bp,bp];exact RR.l (ZG (by simp;omega)) (RR.r (agp (by simp;omega)) (RR.ret ⟨rfl,rfl⟩))
  |succ m im=>
   intro i s s' hi hs;obtain⟨x,hx⟩:=bh (l:=ns) (i:=i) (by omega);have hsl:s.length<=70000:=by rw[hs];simp;omega
   rw[aeQ,adA,lr,aeT,adD,ab.aD,aY];have:decide (i<ns.length)=true:=by simp;omega
   rw[this,aV,aV,bj hx,aw,aw];refine RR.l (has_eq _ _ (by omega)) (RR.r (Ek _ _ (by omega)) ?_);rw[aeM];refine RR.bc (λh=>RR.t h ?_) (λh=>RR.f h ?_)
   ·rw[aw];exact RR.fail
   ·have hg:decide ((s++[x.Text]).length<=274877906944)=true:=by simp;omega
    rw[aw,hg,aV,aV,bP i (by omega)];exact im (i+1) _ _ (by omega) (by rw[hs,<-lK hx];simp)
 exact key ns.length 0 [] [] (by omega) rfl
theorem fst_eq (ks:List ab) (h:ks.length<9223372036854775807):(ad7 Pf) ks=some (idxOf (λk:ab=>k.Kind !=47) ks 0):=by
 rw[afX,I1];refine vy (λk:ab=>k.Kind !=47) (λi y hy hi=>?_) ?_
 ·rw[aey,wz,ab.aD,aY];have:decide (i<ks.length)=true:=by simpa using hi
  rw[this,aV,bj hy,aw,agL,ad0,aw,bP i (by omega)]
 ·rw[aey,wz,ab.aD,aY];have:decide (ks.length<ks.length)=false:=by simp
  rw[this];rfl
theorem aei {D:Type} (q:D->Bool):∀(l r:List D) (i:Nat),(∀x∈l,q x=false)->idxOf q (l++r) (i:Int)=idxOf q r ((i+l.length:Nat):Int)
 |[],r,i,_=>by simp
 |x::l,r,i,h=>by
  rw[lE,idxOf,h x (by simp),bp];have e:((i:Nat):Int)+1=((i+1:Nat):Int):=by omega
  rw[e,aei q l r (i+1) λy hy=>h y (by simp[hy])];congr 2;simp;omega
theorem LNqq.agx {n:ab} (h:LNqq n):n.Kind≠47:=by
 cases h<;>omega
theorem aeD {qs:List ab} (h:bx qs):∀x∈qs,(x.Kind !=47)=false:=λx hx=>by rw[(h x hx).1];rfl
theorem af1 (os:List bt) (n:ab) (h:os.length<9223372036854775807):(adz Pf) os n=some (idxOf (λo:bt=>o.Name==n.Text) os 0):=by
 rw[afY,I2];refine vy (λo:bt=>o.Name==n.Text) (λi y hy hi=>?_) ?_
 ·rw[aez,F3,bt.aD,aY];have:decide (i<os.length)=true:=by simpa using hi
  rw[this,aV,bj hy,aw,agN,ad1,aw,bP i (by omega)]
 ·rw[aez,F3,bt.aD,aY];have:decide (os.length<os.length)=false:=by simp
  rw[this];rfl
section
variable {B:Nat} (hB:B<=1048576) (hB0:70000<=B) {os:List bt} (hos:os.length<=B/\∀o∈os,o.ok B)
include hB hos
theorem afQ {n:ab}:RR (λy z=>z=y/\y.ok B) (((adz Pf) os n).bind λy=>(bif decide (y<0)then(Bw.aA ((f80 Pf) 3 n.At) λ_=>none)else((au os y).bind λx=>(some (.ret x.aj))))) ((o6 Pf) os n 0):=by
 have rl:∀m i:Nat,i+m=os.length->(o6 Pf) os n (i:Int)=match(os.drop i).find? (λo=>o.Name==n.Text)with|some o=>some (o.aj,aM.z)|none=>((f41 Pf) 3 n.At).bind λy=>some (ah.z,y):=by
  intro m
  induction m with
  |zero=>
   intro i hi;have:i=os.length:=by omega
   subst this;rw[afc,adE,bt.aD,aY,List.drop_length];have:decide (os.length<os.length)=false:=by simp
   rw[this];rfl
  |succ m im=>
   intro i hi;obtain⟨x,hx⟩:=bh (l:=os) (i:=i) (by omega);rw[afc,adE,bt.aD,aY,lM hx,List.find?_cons];have:decide (i<os.length)=true:=by simp;omega
   rw[this,aV,bj hx,aw,bP i (by omega)];cases hn:x.Name==n.Text with
   |true=>rfl
   |false=>exact im (i+1) (by omega)
 have r0:=rl os.length 0 (by omega);rw[List.drop_zero]at r0;have r0':(o6 Pf) os n 0=_:=r0;rw[r0'];refine RR.l (af1 os n (by omega)) ?_;rcases aeG (λo:bt=>o.Name==n.Text) os 0 with⟨h1,h2⟩|⟨j,o,h1,h2,h3⟩
 ·have h1:idxOf (λo:bt=>o.Name==n.Text) os 0= -1:=h1;rw[h1,h2];exact RR.fail
 ·have h1:idxOf (λo:bt=>o.Name==n.Text) os 0=((0+j:Nat):Int):=h1;rw[h1,h3,oS];refine RR.bc (λh=>by simp at h;omega) (λ_=>?_);rw[bj h2];exact RR.ret ⟨rfl,(hos.2 o (bw h2)).2⟩
end
section
variable {B:Nat} (hB:B<=1048576) (hB0:70000<=B)
abbrev DQ1 (B:Nat):ah->ah->Prop:=λy z=>z=y/\y.ok B
def bf (B:Nat) (c:fN) (n:ab):Prop:=RR (DQ1 B) ((f117 Pf) c n) ((f68 Pf) c.known n)
def ad2 (B:Nat) (l:List (List UInt8)):Prop:=l.length<=B/\∀y∈l,y.length<=B
theorem aeq {x:Int} (h: -1000000000000000<=x/\x<=1000000000000000):(Lit.int .i64 x).wf=true:=by
 have h1:IntKind.i64.min= -9223372036854775808:=by decide
 have h2:IntKind.i64.max=9223372036854775807:=by decide
 simp only[Lit.wf,h1,h2,bL,lB];omega
theorem k3 {k lo hi:Int} {ns:List (List UInt8)} {ps:List ah} {rs:List aU} (hk:0<=k/\k<=10) (hlo: -1000000000000000<=lo/\lo<=1000000000000000) (hhi: -1000000000000000<=hi/\hi<=1000000000000000) (hn:ad2 B ns) (hp:ps.length<=B/\∀p∈ps,p.ok B) (hr:rs.length<=B/\∀r∈rs,r.ok B):ah.ok B ⟨k,lo,hi,ns,ps,rs⟩:=by
 rw[ah.c8];exact⟨aeq (show _<=k/\k<=_ by omega),aeq hlo,aeq hhi,hn,⟨hp.1,ah.pL hp.2⟩,hr⟩
include hB0 in
theorem aef {qs:List ab} (h:bx qs) (hl:qs.length<=70000):ad2 B (fR (ox qs)):=by
 refine⟨?_,λy hy=>?_⟩
 ·have:=C' (l:=ox qs) (xX Vs) λ_=>XR;have h2:=this.1;simp at h2;omega
 ·obtain⟨q,hq,rfl⟩:=cP.1 (XR.1 hy);have:=(h q hq).2.1;omega
theorem aeh:ad2 B []:=⟨by simp,λy hy=>by cases hy⟩
theorem b0 {D:Type} {P:D->Prop}:([]:List D).length<=B/\∀p∈([]:List D),P p:=⟨by simp,λp hp=>by cases hp⟩
include hB hB0
variable {c:fN} (hos:c.known.length<=B/\∀o∈c.known,o.ok B)
include hos
theorem ago {n:ab} (h:n.Kind=10\/n.Kind=18\/n.Kind=21) (hl:n.Kids.length<9223372036854775807):bf B c n:=by
 unfold bf;rw[tw,ej,tQ,iu];refine RR.l (fst_eq _ hl) ?_;rcases h with h|h|h<;>rw[h]
 ·refine RR.f (by decide) (RR.t (by decide) ?_);refine RR.bc (λ_=>?_) (λ_=>?_)
  all_goals exact RR.bc (λ_=>RR.ret ⟨rfl,k3 (by omega) (by omega) (by omega) aeh b0 b0⟩) (λh=>absurd h (by decide))
 ·refine RR.f (by decide) (RR.f (by decide) (RR.t (by decide) ?_));refine RR.bc (λ_=>?_) (λ_=>?_)
  all_goals exact RR.bc (λh=>absurd h (by decide)) (λ_=>RR.bc (λ_=>RR.ret ⟨rfl,k3 (by omega) (by omega) (by omega) aeh b0 b0⟩) (λh=>absurd h (by decide)))
 ·refine RR.t (by decide) ?_;have krqq:=afQ hB hos (n:=n);refine RR.bc (λ_=>?_) (λ_=>?_)
  all_goals
   repeat(refine RR.bc (λh=>absurd h (by decide)) (λ_=>?_))
   exact RR.bc (λ_=>krqq) (λh=>absurd h (by decide))
theorem agu {n a b:ab} (h:n.Kind=11\/n.Kind=12) (hk:n.Kids=[a,b]) (hb:∀e∈n.Kids,-1000000000000000<=e.N/\e.N<=1000000000000000):bf B c n:=by
 unfold bf;have ha:=hb a (by simp[hk]);have hb:=hb b (by simp[hk]);have g0:au n.Kids 0=some a:=by rw[hk];rfl
 have g1:au n.Kids 1=some b:=by rw[hk];rfl
 rw[tw,ej,tQ,iu];refine RR.l (fst_eq _ (by rw[hk];simp)) ?_;rcases h with h|h<;>rw[h]
 all_goals
  repeat(refine RR.f (by decide) ?_)
  refine RR.t (by decide) ?_;rw[g0,g1,aw,aw];refine RR.bc (λ_=>?_) (λ_=>?_)
  all_goals
   repeat(refine RR.bc (λh=>absurd h (by decide)) (λ_=>?_))
   exact RR.bc (λ_=>RR.ret ⟨rfl,k3 (by omega) ha hb aeh b0 b0⟩) (λh=>absurd h (by decide))
theorem agv {n:ab} (h:n.Kind=13\/n.Kind=17) (hq:bx n.Kids) (hl:n.Kids.length<=70000):bf B c n:=by
 unfold bf;have qr:=ad6 hl;have qoqq:=aef hB0 hq hl;rw[tw,ej,tQ,iu];refine RR.l (fst_eq _ (by omega)) ?_;rcases h with h|h<;>rw[h]
 all_goals
  repeat(refine RR.f (by decide) ?_)
  refine RR.t (by decide) ?_;refine RR.bc (λ_=>?_) (λ_=>?_)
  all_goals
   repeat(refine RR.bc (λh=>absurd h (by decide)) (λ_=>?_))
   refine RR.bc (λ_=>RR.bind qr λy z e=>?_) (λh=>absurd h (by decide));rw[e.1,e.2];exact RR.ret ⟨rfl,k3 (by omega) (by omega) (by omega) qoqq b0 b0⟩
theorem agw {n m:ab} {qs:List ab} (h:n.Kind=14) (hk:n.Kids=qs++[m]) (hq:bx qs) (hl:qs.length<=70000) (hm:m.Kind≠47) (ih:bf B c m):bf B c n:=by
 unfold bf;have qr:=ad6 hl;have qoqq:=aef hB0 hq hl;have hi:idxOf (λk:ab=>k.Kind !=47) n.Kids 0=(qs.length:Int):=by
  have:=aei (λk:ab=>k.Kind !=47) qs [m] 0 (aeD hq);rw[hk];have e:(((0:Nat):Int))=0:=rfl;rw[e]at this;rw[this,idxOf];have:(m.Kind !=47)=true:=by simpa using hm
  rw[this];simp
 have g1:au n.Kids (qs.length:Int)=some m:=bj (by rw[hk];simp);have g2:iV n.Kids 0 (qs.length:Int)=some qs:=by rw[tc (by rw[hk];simp),hk];simp
 have g3:IntKind.i64.wrap ((↑(ab.rows n.Kids).length:Int)-1)=(qs.length:Int):=by rw[ab.aD,hk,wrap64 (by first|(simp;done)|(simp;omega)) (by first|(simp;done)|(simp;omega))];simp
 rw[tw,ej,tQ,iu];refine RR.l (fst_eq _ (by rw[hk];simp;omega)) ?_;rw[h,hi,g3,g1,g2]
 repeat(refine RR.f (by decide) ?_)
 refine RR.t (by decide) ?_;refine RR.bc (λh=>by simp at h;omega) (λ_=>?_)
 repeat(refine RR.bc (λh=>absurd h (by decide)) (λ_=>?_))
 refine RR.bc (λ_=>?_) (λh=>absurd h (by decide));rw[aw,aw];refine RR.bind qr λy z e=>?_;rw[e.1,e.2];refine RR.t rfl ?_;rw[aw];refine RR.bind ih λy z e=>?_;rw[e.1];exact RR.ret ⟨rfl,k3 (by omega) (by omega) (by omega) qoqq ⟨by simp;omega,by simp;exact e.2⟩ b0⟩
