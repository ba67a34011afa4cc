/- Expression: the elaboration of what the reference's parser reads, against the reference. -/
import Derived.Test.YtfgnmgbiijpkiaaGreatKRk
import Derived.Test.YtfgnmgbiijpkiaaGreatKRl
import Derived.Test.YtfgnmgbiijpkiaaGreatKRa
import Derived.Test.YtfgnmgbiijpkiaaGreatKG8
import Derived.Test.YtfgnmgbiijpkiaaGreatKGk
set_option linter.all false
namespace Go.Proofs.YtfgnmgbiijpkiaaGreat
open Go Go.Bw
inductive KB:ab->Prop
 |mk {y:ab}:y.Kids.length<=2097152->(∀k∈y.Kids,KB k)->KB y
theorem W.kb {l:ai} {ps:List TParam} {y:ab} {w:az} (h:W l ps y w):KB y:=by
 induction h with
 |map _ _ hn _ _ _ i1 i2=>
  refine .mk (by rw[yy];omega) λk hk=>?_;obtain⟨q,h1,h2⟩:=ec.1 hk;simp at h2;rcases h2 with rfl|rfl
  ·exact i1 q h1
  ·exact i2 q h1
 |CR _ _ hn _ _ i1=>exact .mk (oP hn (by decide)) i1
 |CS _ _ hn hl _ i1=>
  refine .mk (oP hn (by decide)) λk hk=>?_;obtain⟨i,hi⟩:=lx hk;obtain⟨p,hp⟩:=cn (i:=i) (by rw[<-hl];exact(c8.1 hi).1);exact i1 i k p hi hp
 |_=>exact .mk (by simp) (by simp[*])
section
variable {B:Nat} (hB:B<=1048576)
include hB
theorem MV:∀a:ab,TT B a->KB a->(f20 Pf) a a=some true:=by
 refine ab.ind λa ih ha hk=>?_;obtain⟨hlen,hks⟩:a.Kids.length<=2097152/\∀k∈a.Kids,KB k:=by cases hk;exact⟨by assumption,by assumption⟩
 have hkids:(p9 Pf) a a 0=some true:=by
  rw[pr (a:=a.Kids) (b:=a.Kids) (L:=(p9 Pf) a a) lu true rfl ?_ ?_]
  ·rw[uv,HJ rfl];simp[lu]
  ·intro i x y hx hy hi;rw[Ac,nJ,ab.bc,ng (by omega)];have h1:decide ((i:Int)<(a.Kids.length:Int))=true:=by simpa using hi
   rw[hx]at hy;cases hy;rw[h1,bW hx];show(((f20 Pf) x x).bind _)=_;rw[ih x (cy hx) (ha.Wa (cy hx)) (hks x (cy hx))];have:lu x x=true:=by simp[lu]
   rw[this];rfl
  ·rw[Ac,nJ,ab.bc];simp
 obtain⟨r,e1,hr⟩:=yA (b:=a.ak) hB ha.ty.ok;have e2:r=true:=hr.2 rfl;rw[L0,q0,e1,e2,ab.bc,hkids];simp only[aN,bne,beq_self_eq_true,Ec,cp]
theorem N8:(f20 Pf) ab.z ab.z=some true:=by
 obtain⟨r,e1,hr⟩:=yA (a:=ab.z.ak) (b:=ab.z.ak) hB (by show(⟨0,0,0,[],[],[]⟩:ai).ok B;simp only[ai.ok];exact⟨rfl,rfl,rfl,by simp,⟨by simp,by simp[ai.e9]⟩,by simp⟩);have e2:r=true:=hr.2 rfl;rw[L0,q0,e1,e2,ab.bc,Ac,nJ,ab.bc];rfl
end
theorem QR {s:cr} {n:ae} {w:az} {z:ab} {a b:Int} (ha:a≠0) (h:(f49 Pf) s n w=some (z,⟨a,b⟩)):z=ab.z:=by
 have key:∀{o:Option (ab×aK)} {z:ab} {f:aK},ag o (λr=>r.2.Code≠0->r.1=ab.z)->o=some (z,f)->f.Code≠0->z=ab.z:=by
  rintro o z f ⟨r,e,h⟩ e2 hf;rw[e]at e2;cases e2;exact h hf
 refine key ?_ h ha;have ok:∃r,(f49 Pf) s n w=some r:=⟨_,h⟩;clear h key;rw[L1,q7]at ok⊢;obtain⟨r,e⟩:=ok;obtain⟨y,hy,e⟩:=MA.1 e;rw[hy]at⊢;rw[aN];have same:y.2.Code=0->∀x:ab,ag (some (x,y.2)) (λr=>r.2.Code≠0->r.1=ab.z):=λh x=>ag.ret λg=>absurd h g;cases h0:y.2.Code==0 with
 |false=>exact ag.ret λ_=>rfl
 |true=>
  have h0':y.2.Code=0:=by simpa using h0
  rw[h0,bE]at e;rw[bE,kW,aN];rw[kW,aN]at e;refine ag.bif (λh=>?_) (λ_=>same h0' _);rw[h,bE]at e;obtain⟨y5,h5,e⟩:=MA.1 e;rw[h5,aN];refine ag.bif (λ_=>?_) (λ_=>same h0' _);rw[dB,aN];exact ag.bif (λ_=>ag.ret λ_=>rfl) (λh=>by simp at h)
theorem PB {ps:List TParam} (hn:ps.length<=1048576):ag ((f14 Pf) ps) (λr=>r=true->∀p∈ps,1<=p.aS/\p.aS<=4):=by
 rw[Dv,qX];refine mY (L:=λi=>(mq Pf) ps false i) (len:=ps.length) (λi=>∀j p,j<i->ps[j]? =some p->1<=p.aS/\p.aS<=4) (λi hi hI k=>?_) (λhI=>?_) 0 (by omega) (λj p h=>by omega)
 ·show ag ((mq Pf) ps false (i:Int)) _;have no:ag (some false) (λr=>r=true->∀p∈ps,1<=p.aS/\p.aS<=4):=ag.ret λh=>by cases h
  obtain⟨x,hx⟩:=cn hi;rw[HV,p0,TParam.bc,bX];have:decide (i<ps.length)=true:=by simpa using hi
  rw[this,bE,bW hx,aN];refine ag.bif (λ_=>no) (λh1=>ag.bj rfl (ag.bif (λ_=>no) (λh2=>ag.bif (λ_=>no) (λ_=>?_))));have hgo:ag ((mq Pf) ps false ((i+1:Nat):Int)) (λr=>r=true->∀p∈ps,1<=p.aS/\p.aS<=4):=k λj p hj hp=>by
   by_cases e:j=i
   ·subst e;rw[hx]at hp;cases hp;simp at h1 h2;exact⟨h1,h2⟩
   ·exact hI j p (by omega) hp
  have inner:∀m q:Nat,q+m=i->ag ((sf Pf) ps false (i:Int) x x false (q:Int)) (λr=>r=true->∀p∈ps,1<=p.aS/\p.aS<=4):=by
   intro m
   induction m with
   |zero=>
    intro q hq;rw[HU,pZ,bX];have:decide (q<i)=false:=by simp;omega
    rw[this,cp,cD i (by omega)];exact hgo
   |succ m im=>
    intro q hq;rw[HU,pZ,bX];have:decide (q<i)=true:=by simp;omega
    obtain⟨y,hy⟩:=cn (by omega:q<ps.length);rw[this,bE,bW hy,aN,bW hx,aN,cD q (by omega)];exact ag.bif (λ_=>no) (λ_=>im (q+1) (by omega))
  exact inner i 0 (by omega)
 ·show ag ((mq Pf) ps false (ps.length:Int)) _;rw[HV,p0,TParam.bc,bX];have:decide (ps.length<ps.length)=false:=by simp
  rw[this];refine ag.ret λ_ p hp=>?_;obtain⟨i,hi⟩:=lx hp;exact hI i p (c8.1 hi).1 hi
theorem MW {w:az} (hw:w.ok 1048576):ag ((f16 Pf) w) (λr=>r=true->cd 1048576 w):=by
 have ho:w.aj.ok 1048576:=hw.2;rw[Vu,tW];have no:ag (some false) (λr=>r=true->cd 1048576 w):=ag.ret λh=>by cases h
 have eq:=Fx (bA 1048576) w.aj l0 ho;have eq':(f29 Pf) w.aj ⟨0,0,0,[],[],[]⟩=some (gl w.aj l0):=eq;rw[eq',aN,aN];refine ag.bif (λh=>ag.bif (λh1=>ag.bif (λh2=>ag.ret λh3=>?_) (λ_=>no)) (λ_=>no)) (λh=>ag.bif (λh1=>ag.ret λ_=> .inl ?_) (λ_=>?_))
 ·have:=rP.1 h3;exact .inr (.inl ⟨by simpa using h1,by simpa using h2,this⟩)
 ·have:=rP.1 h1;have h0:w.aS=0:=by simpa using h
  cases w;cases h0;cases this;rfl
 ·refine ag.bind (E2 (B:=1048576) (by decide) ho) (λr hr=>ag.ret λh2=> .inr ?_);have h0:w.aS=0:=by simpa using h
  exact .inr ⟨h0,hr (by simpa using h2),ho⟩
theorem MH {l:ai} {ps:List TParam} {w:az} {src:List UInt8} (hl:l.ok 1048576) (hp:ps.length<=1048576) (hw:w.ok 1048576):(f4 Pf) l ps w src=some true:=by
 refine ag.of ?_;rw[e4,B4,wQ,x9,Rk];have aw:ag ((some true).bind λy2=>(some (y2))) (λr=>r=true):=ag.ret rfl;refine ag.bif (λ_=>aw) (λhlen=>?_);refine ag.bind (PB hp) (λb hb=>ag.bif (λ_=>aw) (λh1=>?_));have hpar:=hb (by simpa using h1);refine ag.bind (E2 (B:=1048576) (by decide) hl) (λb hb=>ag.bif (λ_=>aw) (λh2=>?_));have hlat:=hb (by simpa using h2);refine ag.bind (MW hw) (λb hb=>ag.bif (λ_=>aw) (λh3=>?_));have hww:=hb (by simpa using h3);refine ag.bind (N9 (by simp at hlen;omega)) (λn hn=>ag.bif (λ_=>aw) (λh4=>?_));have hg:=hn (by simpa using h4);have hce:CE 1048576 ⟨l,ps⟩:=⟨hlat,hl,hpar,hp⟩;have hre:=PC (bA _) hce hg.1 hg.2 w hww;have hE:∀o,(f49 Pf) ⟨l,ps⟩ n.1 w=some o->(f19 Pf) l ps w n.1=some o:=λo h=>by
  rw[VB,tZ,h];rfl
 rcases hre with⟨y,z,⟨rfl,hep⟩,e1,e2⟩|⟨a,b,z,ha,e1,e2⟩
 ·have h5:(f18 Pf) l ps w n.1=some (z,⟨0,0⟩):=by rw[LX,qZ,e1];rfl
  rw[h5,aN,hE _ e2,aN,aN];show ag (((f20 Pf) z z).bind λy20=>some y20) _;rw[MV (bA _) z (W.tt hce hep.2.2.2 hww) hep.2.2.2.kb];exact ag.ret rfl
 ·have hz:=QR ha e2;have h5:(f18 Pf) l ps w n.1=some (ab.z,⟨a,b⟩):=by
   rw[LX,qZ,e1];show(bif a !=0 then some (ab.z,(⟨a,b⟩:aK))else some (ab.z,(⟨a,b⟩:aK)))=_;cases a !=0<;>rfl
  rw[h5,aN,hE _ e2,aN,aN,hz];have e:(a==a&&(b==b&&true))=true:=by simp
  show ag (bif a==a&&(b==b&&true)then((f20 Pf) ab.z ab.z).bind λy20=>some y20 else _) _;rw[e,bE,N8 (bA _)];exact ag.ret rfl
set_option maxRecDepth 100000 in
theorem MG (xs:List AV) (h:pW Tryz.prog 1048576 Tryz.f4.params.toList xs):Bw.Pure env.toCx 4 xs (.ret (I7 true)):=by
 rw[Tryz.params4]at h;obtain⟨x,r,rfl,hx,x2,r2,rfl,hx2,x3,r3,rfl,hx3,x4,r4,rfl,hx4,hr⟩:=h;simp only[pW]at hr;subst hr;simp only[lD,Tryz.underlying43,Tryz.underlying46,Ab,kh]at hx hx2 hx3 hx4;obtain⟨n,row,hx,rfl⟩:=hx;obtain⟨n2,hx2⟩:=hx2;obtain⟨n3,row3,hx3,rfl⟩:=hx3;obtain⟨n4,hx4⟩:=hx4;obtain⟨l,rfl,hl⟩:=ai.sh _ _ hx;obtain⟨w,rfl,hw⟩:=az.sh _ _ hx3;obtain⟨⟨⟨src⟩⟩,e4,_⟩:=kO kh hx4;obtain⟨m,rows,rfl,e2,hB,h2⟩:=jV Ab HQ hx2;obtain⟨ps,rfl,hp⟩:=ji (f:=TParam.cs) (p:=λd=>TParam.ok 1048576 d) (rows:=rows) (λr hr=>TParam.sh _ _ (h2 r hr));simp only[jK,and_true]at e2 e4;subst e2;subst e4;exact p4 _ _ _ _ _ (MH hl (by simpa using hB) hw)
