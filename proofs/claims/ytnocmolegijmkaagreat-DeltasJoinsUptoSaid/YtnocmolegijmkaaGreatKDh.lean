/- What runs; what Delta and Update come to. -/
import Derived.Test.YtnocmolegijmkaaGreatKKm
import Derived.Test.YtnocmolegijmkaaGreatKDa
import Derived.Test.YtnocmolegijmkaaGreatKDj
import Derived.Test.YtnocmolegijmkaaGreatKG10
import Derived.Test.YtnocmolegijmkaaGreatKGk
set_option linter.all false
namespace Go.Proofs.YtnocmolegijmkaaGreat
open Go Go.Bw
theorem ab4 {B:Nat} (hB:B<=1048576) {f:cw} {v:af} {args:List bD} (hv:v.ok B) (ha:vo B args):ae ((f8 Pf) f v args) (λr=>r=true->bI f.Body<=60):=by
 rw[e8,B8];have no:∀{p:Prop},false=true->p:=λh=>by cases h
 refine ae.bind (abR f.Body (k:=60) (by decide) (by decide)) (λy hy=>ae.bif (λh=>?_) (λh=>?_))
 ·exact ae.ret no
 have hy:bI f.Body<=60:=by have:=hy (by simpa using h);omega
 refine ae.bind (abS (Wf hB v hv) (k:=40) (by decide) (by decide)) (λ_ _=>ae.bif (λ_=>ae.ret no) (λ_=>ae.bif (λ_=>ae.ret no) (λ_=>ae.bif (λ_=>ae.ret no) (λ_=>?_))));have hl:=ha.1;refine gE (L:=λi=>(sC Pf) args i) (P:=λr=>r=true->bI f.Body<=60) (len:=args.length) (λ_=>True) (λi hi _ k=>?_) (λ_=>?_) 0 (by omega) trivial
 ·show ae ((sC Pf) args i) _;obtain⟨y,hy'⟩:=bo hi;have:decide (i<args.length)=true:=by simpa using hi
  rw[Wh,wC,bD.aH,a7,this,aB,bf hy',au,bW i (by omega)];exact ae.bif (λ_=>ae.ret no) (λ_=>k trivial)
 ·show ae ((sC Pf) args args.length) _;have:decide (args.length<args.length)=false:=by simp
  rw[Wh,wC,bD.aH,a7,this,aC];exact ae.ret λ_=>hy
def mj (l:ag):ab:=⟨5,cX l,0,[],0,[]⟩
section
variable {B:Nat} (hB:B<=1048576)
include hB
theorem adv {l:ag} {f:cw} {v:af} {args:List bD} (hl:l.ok B) (hf:f.ok B) (hv:v.ok B) (ha:vo B args):ae ((f14 Pf) l f v args) (λr=>r=true->bI f.Body<=60/\f.Result=0/\Good B l f v args/\(f12 Pf) l f=some true/\(f37 Pf) l v=some true/\(f38 Pf) f.Params args=some 0):=by
 rw[e14,Dg];have no:∀{p:Prop},false=true->p:=λh=>by cases h
 refine ae.bind (ab4 hB hv ha) (λy hy=>ae.bif (λh=>ae.ret no) (λh=>ae.bif (λ_=>ae.ret no) (λh0=>?_)));have hc:=hy (by simpa using h);have h0:f.Result=0:=by simpa using h0
 obtain⟨b2,q2,h2⟩:=acW hB hl hf;rw[q2,au];refine ae.bif (λe2=>?_) (λ_=>ae.ret no);subst e2;have vf:=h2 rfl;obtain⟨b3,q3,h3⟩:=Td hB hl (Wf hB v hv);rw[q3,au];refine ae.bif (λe3=>?_) (λ_=>ae.ret no);subst e3;have hpl:f.Params.length<=B:=vf.ce.num;obtain⟨b4,q4,h4⟩:=acw hB (ps:=f.Params) (by omega) (adx hB ha);rw[q4,au];refine ae.ret λe=>?_;have e:b4=0:=by simpa using e
 subst e;exact⟨hc,h0,⟨vf,(h3.1 rfl).2,h4.1 rfl⟩,rfl,rfl,rfl⟩
theorem adw {l:ag} {f:cw} {v:af} {args:List bD} (hf:f.ok B) (h0:f.Result=0) (g:Good B l f v args) (q2:(f12 Pf) l f=some true) (q3:(f37 Pf) l v=some true) (q4:(f38 Pf) f.Params args=some 0):W l f.Params f.Body (cX l)/\TT B (mj l)/\(f15 Pf) l f v args=(f40 Pf) (bU bL (mj l) f.Body) v args/\(f16 Pf) l f v args=(f40 Pf) f.Body v args:=by
 have hb0:(f.Result !=0)=false:=by rw[h0];rfl
 have hb1:(f.Result==0)=true:=by rw[h0];rfl
 have e:sD l f=cX l:=by unfold sD;rw[h0];rfl
 have hwt:bx B (cX l):=bx.of g.vf.ce.dz g.vf.ce.ok;have hw:W l f.Params f.Body (cX l):=e▸g.vf.body;have hbk:=hf.2.2.2.2;have hrt:TT B (mj l):= .mk hwt (λk hk=>by simp[mj]at hk);have hpl:=hf.2.2.1.1;have ed:(f27 Pf) ⟨5,⟨0,l⟩,0,[],0,[]⟩ f.Body=some (bU bL (mj l) f.Body):=acX hB g.vf.ce hw hwt rfl hbk g.vf.tt (mj l) hrt rfl;refine⟨hw,hrt,?_,?_⟩
 ·rw[e15,Dm,e39,Dh,e9,B9,q2,q3,q4];simp only[au,fL,aC,hb0];rw[show(f25 Pf) f.Params=some f.Params by rw[e25];exact nM (by omega),au,ed,au,ab5 hB _ (ags _ hbk _)];exact tA _
 ·rw[e16,Dp,e41,Dn,q2,q3,q4];simp only[au,fL,aC,hb1];exact tA _
end
section
variable {B:Nat} (hB:B<=1048576)
include hB
omit hB in
theorem value_of {x:ab} {v a:af} {args:List bD} (hs:x.aO.a6=0) (he:(f86 Pf) ⟨v,args⟩ x=some ⟨⟨0,0,[],[]⟩,a⟩) (sa:SV a):(f40 Pf) x v args=some (a,0):=by
 have h:(x.aO.a6 !=0)=false:=by rw[hs];rfl
 rw[e40,Cz,h,aC,he,au,abN a sa];rfl
theorem SJ {l:ag} {a b:af} (hl:l.ok B) (hL:cA l) (ha:VE l a) (hb:VE l b) (ba:BV 68719476736 a) (bb:BV 68719476736 b):∃j,(f18 Pf) l a b=some j/\gO l a b j/\SV j:=by
 obtain⟨j,ej,j0,lj,bj⟩:=uw hB hl hL ha hb (ba.mono (by omega)) (bb.mono (by omega));refine⟨j.1,?_,lj,lj.ve.sv (by omega) (bj _ _ (by omega) ba bb)⟩;rw[e18,CA,ej,au,j0];rfl
theorem abt {l:ag} {f:cw} {v:af} {args:List bD} (hl:l.ok B) (hf:f.ok B) (hv:v.ok B) (ha:vo B args):(f5 Pf) l f v args=some true:=by
 rw[e5,B5,x7,agS,au,fL,aC];refine ae.of (ae.bind (adv hB hl hf hv ha) (λy1 h1=>ae.bif (λ_=>ae.ret rfl) (λe1=>?_)));obtain⟨hc,h0,g,q2,q3,q4⟩:=h1 (by simpa using e1);obtain⟨hw,hrt,eD,eU⟩:=adw hB hf h0 g q2 q3 q4;have hL:=g.vf.ce.dz;have hwt:bx B (cX l):=bx.of hL g.vf.ce.ok;have hargs:∀(i:Nat) p,f.Params[i]? =some p->∃d,args[i]? =some d/\DV p.a6 d/\d.Names.length<=1048576:=λi p hp=>by
  obtain⟨d,hd⟩:=bo (l:=args) (i:=i) (by have:=(cr.1 hp).1;have:=g.fits.1;omega);exact⟨d,hd,g.fits.2 i p d hp hd,(SK hB ha d (aV hd)).2.1⟩
 have bst:=agT hB v hv;obtain⟨a,ea,va,ba⟩:=n5 hB g.vf.ce (F:=⟨v,args⟩) g.ve bst hargs hw hwt rfl g.vf.tt (by omega);obtain⟨d,ed,vd,bd⟩:=rB hB g.vf.ce (F:=⟨v,args⟩) g.ve bst hargs hw hwt rfl (by omega) (mj l);have er:(f86 Pf) ⟨v,args⟩ (mj l)=some ⟨⟨0,0,[],[]⟩,v⟩:=by
  rw[ny,jL];show((f131 Pf) ⟨v,args⟩ (mj l)).bind _=_;rw[qI,mr];rfl
 have J:=agU hB g.vf.ce (F:=⟨v,args⟩) g.ve bst hargs _ _ hw hwt rfl g.vf.tt (by omega) (mj l) v a d er rfl g.ve bst ea ed;have va:VE l a:=va;have vd:VE l d:=vd;have J:Jn l v a d:=J;have ba:BV 68719476736 a:=ba.mono (by omega);have bd:BV 68719476736 d:=bd.mono (by omega);have ht:f.Body.aO=cX l:=hw.ty hwt.eW;have htd:(bU bL (mj l) f.Body).aO=cX l:=(FZ g.vf.ce hw hwt rfl (mj l)).ty hwt.eW;rw[eD,eU,value_of (by rw[htd];rfl) ed (vd.sv (by omega) bd),value_of (by rw[ht];rfl) ea (va.sv (by omega) ba),au,au];obtain⟨j,ej,lj,sj⟩:=SJ hB hl hL g.ve vd (bst.mono (by omega)) bd;obtain⟨k,ek,lk,_⟩:=SJ hB hl hL g.ve va (bst.mono (by omega)) ba;have jk:j=k:=aP.antisymm hL lj.ve lk.ve (lj.least k lk.ve lk.left (aP.trans hL vd va lk.ve J.1 lk.right)) (lk.least j lj.ve lj.left (J.2 j lj.ve lj.left lj.right));obtain⟨b,eb,hb⟩:=SL hB hl hL vd va (vd.sv (by omega) bd) (va.sv (by omega) ba);rw[hb.2 J.1]at eb;show ae (((f18 Pf) l v d).bind λx=>((f18 Pf) l v a).bind λy=>((f17 Pf) x y).bind λz=>bif z then((f19 Pf) l d a).bind _ else _) _;rw[ej,ek,au,au,<-jk,abO sj,eb];exact ae.ret rfl
end
theorem aeB {B n:Nat} {row:List AV} (h:Sh Tryz.prog B n 47 row):∃l:List bD,row=[.sl 4 (bD.rows l)]/\vo B l:=by
 obtain⟨m,rows,rfl,rfl,hB,h⟩:=l8 (show Tryz.prog.underlying 47=some (.slice 60)by kernel_rfl) (show Tryz.prog.cellsOf 60=4 by kernel_rfl) h;obtain⟨xs,rfl,hx⟩:=lz (f:=bD.cs) (p:=λd=>bD.ok B d) (rows:=rows) (λr hr=>bD.sh _ _ (h r hr));exact⟨xs,rfl,by simpa using hB,hx⟩
set_option maxRecDepth 100000 in
theorem aaA (xs:List AV) (h:vp Tryz.prog 1048576 Tryz.f5.params.toList xs):Bw.Pure env.toCx 5 xs (.ret (VX true)):=by
 rw[Tryz.params5]at h;obtain⟨x,r,rfl,hx,x2,r2,rfl,hx2,x3,r3,rfl,hx3,x4,r4,rfl,hx4,hr⟩:=h;simp only[vp]at hr;subst hr;simp only[oZ,Tryz.underlying26,Tryz.underlying34,Tryz.underlying40,show Tryz.prog.underlying 47=some (.slice 60)by kernel_rfl]at hx hx2 hx3 hx4;obtain⟨n,row,hx,rfl⟩:=hx;obtain⟨n2,row2,hx2,rfl⟩:=hx2;obtain⟨n3,row3,hx3,rfl⟩:=hx3;obtain⟨n4,hx4⟩:=hx4;obtain⟨l,rfl,hl⟩:=ag.sh _ _ hx;obtain⟨f,rfl,hf⟩:=cw.sh _ _ hx2;obtain⟨v,rfl,hv⟩:=af.sh _ _ hx3;obtain⟨ds,e,hd⟩:=aeB hx4;simp only[kn,and_true]at e;subst e;exact p5 _ _ _ _ _ (abt (bX _) hl hf hv hd)
