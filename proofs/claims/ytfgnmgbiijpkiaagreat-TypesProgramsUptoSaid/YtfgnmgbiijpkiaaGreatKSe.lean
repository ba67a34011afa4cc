/- types.Program and the reference's say the same of every program. -/
import Derived.Test.YtfgnmgbiijpkiaaGreatKSa
import Derived.Test.YtfgnmgbiijpkiaaGreatKSn
import Derived.Test.YtfgnmgbiijpkiaaGreatKRa
import Derived.Test.YtfgnmgbiijpkiaaGreatKG8
import Derived.Test.YtfgnmgbiijpkiaaGreatKGk
set_option linter.all false
namespace Go.Proofs.YtfgnmgbiijpkiaaGreat
open Go Go.Bw
def OB (os:List bt):Prop:=∀(i:Nat) o,os[i]? =some o->ek o.Name=true/\dw o.aj/\∀q,0<i->os[i-1]? =some q->Op.bytesLess q.Name o.Name=true
def FB (os:List bt) (k:Bool) (fs:List bl):Prop:=∀(i:Nat) f,fs[i]? =some f->(∃o,os.find? (λo=>o.Name==f.On)=some o/\VX o.aj f)/\(f.Result==0)=k/\∀q,0<i->fs[i-1]? =some q->Op.bytesLess q.Name f.Name=true
abbrev jT (os:List bt):=os.map (·.Name)
abbrev gS (fs:List bl):=fs.map (·.Name)
def mw (p:cp):Prop:=p.bH.length+p.cQ.length+p.Queries.length<=64/\OB p.bH/\FB p.bH true p.cQ/\FB p.bH false p.Queries/\(jT p.bH++gS p.cQ++gS p.Queries).Nodup
def mv (p:cp):Prop:=p.bH.length+p.cQ.length+p.Queries.length<=64/\OB p.bH/\(FB p.bH true p.cQ/\∀f∈p.cQ,f.Name∉jT p.bH)/\FB p.bH false p.Queries/\∀f∈p.Queries,f.Name∉jT p.bH++gS p.cQ
theorem CK {D:Type} {l:List D} {g:D->List UInt8} (h:∀(i:Nat) x q,l[i]? =some x->0<i->l[i-1]? =some q->Op.bytesLess (g q) (g x)=true):rising (l.map g)=true:=by
 refine C2 λj x y h1 h2=>?_;rw[my]at h1 h2;cases hx:l[j]? with
 |none=>rw[hx]at h1;cases h1
 |some u=>
  cases hy:l[j+1]? with
  |none=>rw[hy]at h2;cases h2
  |some v=>
   rw[hx]at h1;rw[hy]at h2;cases h1;cases h2;exact h (j+1) v u hy (by omega) hx
theorem aaE {p:cp}:mw p↔mv p:=by
 unfold mw mv;constructor
 ·rintro ⟨h1,h2,h3,h4,h5⟩;rw[iO,iO]at h5;obtain⟨⟨_,_,g1⟩,_,g2⟩:=h5;exact⟨h1,h2,⟨h3,λf hf hm=>g1 _ hm _ (cP.2 ⟨f,hf,rfl⟩) rfl⟩,h4,λf hf hm=>g2 _ hm _ (cP.2 ⟨f,hf,rfl⟩) rfl⟩
 ·rintro ⟨h1,h2,⟨h3,g1⟩,h4,g2⟩;refine⟨h1,h2,h3,h4,?_⟩;rw[iO,iO];refine⟨⟨xX (CK λi x q a b c=>(h2 i x a).2.2 q b c),xX (CK λi x q a b c=>(h3 i x a).2.2 q b c),λa ha b hb e=>?_⟩,xX (CK λi x q a b c=>(h4 i x a).2.2 q b c),λa ha b hb e=>?_⟩
  ·obtain⟨f,hf,rfl⟩:=cP.1 hb;exact g1 f hf (e▸ha)
  ·obtain⟨f,hf,rfl⟩:=cP.1 hb;exact g2 f hf (e▸ha)
theorem L6 {D:Type} (q:D->Bool):∀(l:List D) (i:Nat),(idxOf q l (i:Int)= -1/\l.find? q=none)\/∃(j:Nat) (o:D),idxOf q l (i:Int)=((i+j:Nat):Int)/\l[j]? =some o/\l.find? q=some o
 |[],i=> .inl ⟨rfl,rfl⟩
 |x::r,i=>by
  rw[idxOf,List.find?_cons];cases hx:q x with
  |true=>exact .inr ⟨0,x,by simp,rfl,rfl⟩
  |false=>
   rcases L6 q r (i+1)with⟨h1,h2⟩|⟨j,o,h1,h2,h3⟩
   ·exact .inl ⟨by simpa using h1,h2⟩
   ·refine .inr ⟨j+1,o,?_,h2,h3⟩;have e:((i:Nat):Int)+1=((i+1:Nat):Int):=by omega
    rw[bp,e,h1];congr 1;omega
theorem ZF (os:List bt) (f:bl) (h:os.length<9223372036854775807):(z7 Pf) os f=some (idxOf (λo:bt=>o.Name==f.On) os 0):=by
 rw[XW,sN];refine vy (λo:bt=>o.Name==f.On) (λi y hy hi=>?_) ?_
 ·rw[Kl,sj,bt.aD,aY];have:decide (i<os.length)=true:=by simpa using hi
  rw[this,aV,bj hy,aw,e56,xd,aw,bP i (by omega)]
 ·rw[Kl,sj,bt.aD,aY];have:decide (os.length<os.length)=false:=by simp
  rw[this];rfl
theorem Xn (os:List bt) (t:List UInt8) (h:os.length<9223372036854775807):(f59 Pf) os t=some (match os.find? (λo=>o.Name==t)with|some o=>(o.aj,true)|none=>(l0,false)):=by
 rw[e59,uP];have key:∀m i:Nat,i+m=os.length->(vX Pf) os t (i:Int)=some (match(os.drop i).find? (λo=>o.Name==t)with|some o=>(o.aj,true)|none=>(l0,false)):=by
  intro m
  induction m with
  |zero=>
   intro i hi;have:i=os.length:=by omega
   subst this;rw[NW,tq,bt.aD,aY,List.drop_length];have:decide (os.length<os.length)=false:=by simp
   rw[this];rfl
  |succ m im=>
   intro i hi;obtain⟨x,hx⟩:=bh (l:=os) (i:=i) (by omega);rw[NW,tq,bt.aD,aY,lM hx,List.find?_cons];have:decide (i<os.length)=true:=by simp;omega
   rw[this,aV,bj hx,aw,bP i (by omega)];cases hn:x.Name==t with
   |true=>rfl
   |false=>exact im (i+1) (by omega)
 exact key os.length 0 (by omega)
section
variable {B:Nat} (hB:B<=1048576)
include hB
theorem zG {i:Nat} (h:0<i) (h2:i<=B):IntKind.i64.wrap ((i:Int)-1)=((i-1:Nat):Int):=by rw[wrap64 (by omega) (by omega)];omega
theorem Qi {p:cp} (hos:p.bH.length<=B/\∀o∈p.bH,o.ok B) {s2 s19:Bool} {s3 s18 acc:List (List UInt8)} {s4:Int} {k:Nat} {fs:List bl} (hk:k<=1) (hfs:fs.length<=B) (hff:∀f∈fs,f.ok B) (hacc:acc.length<=2097152)
  (hno:¬FB p.bH (k==0) fs->¬mw p) (hgo:FB p.bH (k==0) fs->ag ((vW Pf) p s2 s3 s4 (acc++gS fs) true ((k+1:Nat):Int)) (λr=>r=true↔mw p)):
  ag ((mV Pf) p s2 s3 s4 s18 s19 (k:Int) fs acc true 0) (λr=>r=true↔mw p):=by
 have no:¬FB p.bH (k==0) fs->ag (some false) (λr=>r=true↔mw p):=λh=>ag.ret ⟨λe=>(by cases e),λe=>absurd e (hno h)⟩;refine eg (L:=λi s=>(mV Pf) p s2 s3 s4 s18 s19 (k:Int) fs s true i) (len:=fs.length) (λi s=>s=acc++gS (fs.take i)/\∀(j:Nat) f,j<i->fs[j]? =some f->(∃o,p.bH.find? (λo=>o.Name==f.On)=some o/\VX o.aj f)/\(f.Result==0)=(k==0)/\∀q,0<j->fs[j-1]? =some q->Op.bytesLess q.Name f.Name=true) (λi s hi hI kk=>?_) (λs hI=>?_) 0 acc (by omega) ⟨by simp,λj f h=>by omega⟩
 ·show ag ((mV Pf) p s2 s3 s4 s18 s19 (k:Int) fs s true i) _;obtain⟨f,hf⟩:=bh hi;have hfo:=hff f (bw hf);have hsl:s.length<=2097152+i:=by rw[hI.1];simp;omega
  have hlen:decide ((s++[f.Name]).length<=274877906944)=true:=by simp;omega
  rw[NT,tn,bl.aD,aY];have:decide (i<fs.length)=true:=by simpa using hi
  rw[this,aV,bj hf,aw,ZF p.bH f (by omega),aw,bP i (by omega),hlen];rcases L6 (λo:bt=>o.Name==f.On) p.bH 0 with⟨h1,h2⟩|⟨j,o,h1,h2,h3⟩
  ·have h1:idxOf (λo:bt=>o.Name==f.On) p.bH 0= -1:=h1;rw[h1];refine ag.bif (λ_=>no λh=>?_) (λh=>by simp at h);obtain⟨⟨o,ho,_⟩,_⟩:=h i f hf;rw[h2]at ho;cases ho
  have h1:idxOf (λo:bt=>o.Name==f.On) p.bH 0=(j:Int):=by
   have h1:idxOf (λo:bt=>o.Name==f.On) p.bH 0=((0+j:Nat):Int):=h1;rw[h1];simp
  rw[h1];have hoo:=hos.2 o (bw h2);refine ag.bif (λh=>by simp at h;omega) (λ_=>?_);have hkb:(((k:Nat):Int)==0)=(k==0):=by rw[gu];simp
  rw[hkb];refine ag.bif (λh=>no λg=>?_) (λhres=>?_)
  ·rw[(g i f hf).2.1]at h;simp at h
  have hres:(f.Result==0)=(k==0):=by simpa using hres
  have tail:(∀q,0<i->fs[i-1]? =some q->Op.bytesLess q.Name f.Name=true)->ag ((au p.bH (j:Int)).bind λx37=>(((f25 Pf) x37.aj f).bind λy39=>(bif !y39 then(some (false))else(bif true then((mV Pf) p s2 s3 s4 s18 s19 (k:Int) fs (s++[f.Name]) true ((i+1:Nat):Int))else none)))) (λr=>r=true↔mw p):=by
   intro hprev;rw[bj h2,aw];refine ag.bind (Wx hB hoo.2 hfo) (λb hb=>ag.bif (λh=>no λg=>?_) (λh=>?_))
   ·obtain⟨⟨o',ho',hv⟩,_⟩:=g i f hf;rw[h3]at ho';cases ho';rw[hb.2 hv]at h;cases h
   ·refine kk _ ⟨by rw[hI.1,<-lK hf,gS,gS,oQ];simp,λm g hm hg=>?_⟩;rcases iQ.1 hm with h5|rfl
    ·exact hI.2 m g h5 hg
    ·rw[hf]at hg;cases hg;exact⟨⟨o,h3,hb.1 (by simpa using h)⟩,hres,hprev⟩
  refine ag.bif (λh0=>?_) (λh0=>tail λq hq=>?_)
  ·have h0:0<i:=by simp at h0;omega
   obtain⟨q,hq⟩:=bh (l:=fs) (i:=i-1) (by omega);rw[zG hB h0 (by omega),bj hq,aw];refine ag.bif (λh=>no λg=>?_) (λh=>tail λq' _ hq'=>?_)
   ·rw[(g i f hf).2.2 q h0 hq]at h;cases h
   ·rw[hq]at hq';cases hq';simpa using h
  ·simp at h0;omega
 ·show ag ((mV Pf) p s2 s3 s4 s18 s19 (k:Int) fs s true fs.length) _;rw[NT,tn,bl.aD,aY];have:decide (fs.length<fs.length)=false:=by simp
  rw[this,bp,bP k (by omega),hI.1,jW];exact hgo λi f hf=>hI.2 i f (cr.1 hf).1 hf
theorem Xo {p:cp} (hp:p.ok B):ag ((f22 Pf) p) (λr=>r=true↔mw p):=by
 obtain⟨hos,hus,hqs⟩:=hp;have no:¬mw p->ag (some false) (λr=>r=true↔mw p):=λh=>ag.ret ⟨λe=>(by cases e),λe=>absurd e h⟩;rw[I4,xk,bt.aD,bl.aD,bl.aD];rw[wrap64 (x:=(p.bH.length:Int)+(p.cQ.length:Int)) (by omega) (by omega),wrap64 (by omega) (by omega)];refine ag.bif (λh=>no λg=>?_) (λhsum=>?_)
 ·have:=g.1;simp at h;omega
 have hsum:p.bH.length+p.cQ.length+p.Queries.length<=64:=by simp at hsum;omega
 refine eg (L:=λi s=>(nR Pf) p false s i) (len:=p.bH.length) (λi s=>s=jT (p.bH.take i)/\∀(j:Nat) o,j<i->p.bH[j]? =some o->ek o.Name=true/\dw o.aj/\∀q,0<j->p.bH[j-1]? =some q->Op.bytesLess q.Name o.Name=true) (λi s hi hI kk=>?_) (λs hI=>?_) 0 [] (by omega) ⟨by simp,λj f h=>by omega⟩
 ·show ag ((nR Pf) p false s i) _;obtain⟨o,ho⟩:=bh hi;have hoo:=hos.2 o (bw ho);have hsl:s.length<=i:=by rw[hI.1];simp;omega
  have hlen:decide ((s++[o.Name]).length<=274877906944)=true:=by simp;omega
  rw[NU,tp,bt.aD,aY];have:decide (i<p.bH.length)=true:=by simpa using hi
  rw[this,aV,bj ho,aw,lN _ (by have:=hoo.1;omega),aw,bP i (by omega),hlen];refine ag.bif (λh=>no λg=>?_) (λh1=>?_)
  ·rw[(g.2.1 i o ho).1]at h;cases h
  refine ag.bind (Wy (by omega) hoo.2) (λy hy=>ag.bif (λh=>no λg=>?_) (λh2=>?_))
  ·rw[hy.2 (g.2.1 i o ho).2.1]at h;cases h
  have tail:(∀q,0<i->p.bH[i-1]? =some q->Op.bytesLess q.Name o.Name=true)->ag (bif true then((nR Pf) p false (s++[o.Name]) ((i+1:Nat):Int))else none) (λr=>r=true↔mw p):=by
   intro hprev;refine kk _ ⟨by rw[hI.1,<-lK ho,jT,jT,oQ];simp,λm g hm hg=>?_⟩;rcases iQ.1 hm with h5|rfl
   ·exact hI.2 m g h5 hg
   ·rw[ho]at hg;cases hg;exact⟨by simpa using h1,hy.1 (by simpa using h2),hprev⟩
  refine ag.bif (λh0=>?_) (λh0=>tail λq hq=>?_)
  ·have h0:0<i:=by simp at h0;omega
   obtain⟨q,hq⟩:=bh (l:=p.bH) (i:=i-1) (by omega);rw[zG hB h0 (by omega),bj hq,aw];refine ag.bif (λh=>no λg=>?_) (λh=>tail λq' _ hq'=>?_)
   ·rw[(g.2.1 i o ho).2.2 q h0 hq]at h;cases h
   ·rw[hq]at hq';cases hq';simpa using h
  ·simp at h0;omega
 ·show ag ((nR Pf) p false s _) _;rw[NU,tp,bt.aD,aY];have:decide (p.bH.length<p.bH.length)=false:=by simp
  rw[this,bp];have hob:OB p.bH:=λi o ho=>hI.2 i o (cr.1 ho).1 ho;have hs:s=jT p.bH:=by rw[hI.1,jW]
  rw[hs];rw[Er,qN,lr];refine ag.bif (λ_=>ag.aB (v:=p.cQ) rfl ?_) (λh=>absurd h (by decide));refine Qi hB hos (k:=0) (by omega) hus.1 hus.2 (by simp;omega) (λh g=>h g.2.2.1) (λhU=>?_);rw[Er,qN,lr];refine ag.bif (λ_=>ag.aB (v:=p.Queries) rfl ?_) (λh=>absurd h (by decide));refine Qi hB hos (k:=1) (by omega) hqs.1 hqs.2 (by simp;omega) (λh g=>h g.2.2.2.1) (λhQ=>?_);rw[Er,qN,lr];refine ag.bif (λh=>absurd h (by decide)) (λ_=>ag.bif (λ_=>?_) (λh=>by cases h));rw[ZG (by simp;omega),aw,cj,cj];have hco:(((fR (jT p.bH++gS p.cQ++gS p.Queries)).length:Int)==((jT p.bH++gS p.cQ++gS p.Queries).length:Int))=true↔(jT p.bH++gS p.cQ++gS p.Queries).Nodup:=by
   rw[<-VN];simp only[beq_iff_eq];omega
  exact ag.ret ⟨λe=>⟨hsum,hob,hU,hQ,hco.1 e⟩,λg=>hco.2 g.2.2.2.2⟩
end
theorem NJ {a:List (List UInt8)} {t:List UInt8}:(a.any λy=>y==t)=true↔t∈a:=by
 rw[ka];exact⟨λ⟨x,h,e⟩=>(by simpa using e:x=t)▸h,λh=>⟨t,h,by simp⟩⟩
section
variable {B:Nat} (hB:B<=1048576)
include hB
theorem ZE {p:cp} {s5 s7 s33:Bool} {s6 acc:List (List UInt8)} {i7 i38:Int} {k:Nat} {fs:List bl} {T:Bool->Prop} (hk:k<=1) (hx:au ([p.cQ,p.Queries]) (k:Int)=some fs) (hfs:fs.length<=B) (hacc:acc.length<=2097152)
  (hgo:ag ((tK Pf) p s5 s6 i7 s7 (acc++gS fs) ((k+1:Nat):Int)) T):
  ag ((pE Pf) p s5 s6 i7 s33 acc (k:Int) s7 i38 fs acc 0) T:=by
 refine eg (L:=λi s=>(pE Pf) p s5 s6 i7 s33 acc (k:Int) s7 i38 fs s i) (len:=fs.length) (λi s=>s=acc++gS (fs.take i)) (λi s hi hI kk=>?_) (λs hI=>?_) 0 acc (by omega) (by simp)
 ·show ag ((pE Pf) p s5 s6 i7 s33 acc (k:Int) s7 i38 fs s i) _;obtain⟨f,hf⟩:=bh hi;have hsl:s.length<=2097152+i:=by rw[hI];simp;omega
  have hlen:decide ((s++[f.Name]).length<=274877906944)=true:=by simp;omega
  rw[N4,tI,hx,aw,bl.aD,aY];have:decide (i<fs.length)=true:=by simpa using hi
  rw[this,aV,aw,bj hf,aw,hlen,aV,bP i (by omega)];exact kk _ (by rw[hI,<-lK hf,gS,gS,oQ];simp)
 ·show ag ((pE Pf) p s5 s6 i7 s33 acc (k:Int) s7 i38 fs s fs.length) _;rw[N4,tI,hx,aw,bl.aD,aY];have:decide (fs.length<fs.length)=false:=by simp
  rw[this,bp,bP k (by omega),hI,jW];exact hgo
theorem PA {p:cp} (hos:p.bH.length<=B/\∀o∈p.bH,o.ok B) {s5 s33:Bool} {s6 acc:List (List UInt8)} {i7:Int} {k:Nat} {fs:List bl} (hk:k<=1) (hx:au ([p.cQ,p.Queries]) (k:Int)=some fs) (hfs:fs.length<=B) (hff:∀f∈fs,f.ok B) (hacc:acc.length<=2097152)
  (hno:¬(FB p.bH (k==0) fs/\∀f∈fs,f.Name∉acc)->¬mv p) (hgo:FB p.bH (k==0) fs/\(∀f∈fs,f.Name∉acc)->ag ((tK Pf) p s5 s6 i7 s33 (acc++gS fs) ((k+1:Nat):Int)) (λr=>r=true↔mv p)):
  ag ((mX Pf) p s5 s6 i7 s33 acc (k:Int) s33 0) (λr=>r=true↔mv p):=by
 have no:¬(FB p.bH (k==0) fs/\∀f∈fs,f.Name∉acc)->ag (some false) (λr=>r=true↔mv p):=λh=>ag.ret ⟨λe=>(by cases e),λe=>absurd e (hno h)⟩;refine eg (L:=λi (_:Unit)=>(mX Pf) p s5 s6 i7 s33 acc (k:Int) s33 i) (len:=fs.length) (λi _=>∀(j:Nat) f,j<i->fs[j]? =some f->((∃o,p.bH.find? (λo=>o.Name==f.On)=some o/\VX o.aj f)/\(f.Result==0)=(k==0)/\∀q,0<j->fs[j-1]? =some q->Op.bytesLess q.Name f.Name=true)/\f.Name∉acc) (λi s hi hI kk=>?_) (λs hI=>?_) 0 () (by omega) (λj f h=>by omega)
 ·show ag ((mX Pf) p s5 s6 i7 s33 acc (k:Int) s33 i) _;obtain⟨f,hf⟩:=bh hi;have hfm:=bw hf;have hfo:=hff f hfm;rw[N5,tJ,hx,aw,bl.aD,aY];have:decide (i<fs.length)=true:=by simpa using hi
  rw[this,aV,aw,bj hf,aw,Xn p.bH f.On (by omega),aw,bP i (by omega)];rcases ho:p.bH.find? (λo=>o.Name==f.On)with _|o
  ·simp only[ho];refine no λh=>?_;obtain⟨⟨o,ho',_⟩,_⟩:=h.1 i f hf;rw[ho]at ho';cases ho'
  simp only[ho];have hoo:=hos.2 o (List.mem_of_find?_eq_some ho);refine ag.bif (λh=>by cases h) (λ_=>?_);have hkb:(((k:Nat):Int)==0)=(k==0):=by rw[gu];simp
  rw[hkb];refine ag.bif (λh=>no λg=>?_) (λhres=>?_)
  ·rw[(g.1 i f hf).2.1]at h;simp at h
  have hres:(f.Result==0)=(k==0):=by simpa using hres
  have tail:(∀q,0<i->fs[i-1]? =some q->Op.bytesLess q.Name f.Name=true)->ag (((f42 Pf) acc f.Name).bind λy55=>(bif y55 then(some false)else(((f60 Pf) o.aj f).bind λy57=>(bif !y57 then(some false)else((mX Pf) p s5 s6 i7 s33 acc (k:Int) s33 ((i+1:Nat):Int)))))) (λr=>r=true↔mv p):=by
   intro hprev;rw[Ek _ _ (by omega),aw];refine ag.bif (λh=>no λg=>g.2 f hfm (NJ.1 h)) (λhna=>?_);have hna:f.Name∉acc:=λh=>by rw[NJ.2 h]at hna;cases hna
   refine ag.bind (VL hB hoo.2 hfo) (λb hb=>ag.bif (λh=>no λg=>?_) (λh=>?_))
   ·obtain⟨⟨o',ho',hv⟩,_⟩:=g.1 i f hf;rw[ho]at ho';cases ho';rw[hb.2 hv]at h;cases h
   ·refine kk () λm g hm hg=>?_;rcases iQ.1 hm with h5|rfl
    ·exact hI m g h5 hg
    ·rw[hf]at hg;cases hg;exact⟨⟨⟨o,ho,hb.1 (by simpa using h)⟩,hres,hprev⟩,hna⟩
  refine ag.bif (λh0=>?_) (λh0=>tail λq hq=>?_)
  ·have h0:0<i:=by simp at h0;omega
   obtain⟨q,hq⟩:=bh (l:=fs) (i:=i-1) (by omega);rw[zG hB h0 (by omega),aw,bj hq,aw];refine ag.bif (λh=>no λg=>?_) (λh=>tail λq' _ hq'=>?_)
   ·rw[(g.1 i f hf).2.2 q h0 hq]at h;cases h
   ·rw[hq]at hq';cases hq';simpa using h
  ·simp at h0;omega
 ·show ag ((mX Pf) p s5 s6 i7 s33 acc (k:Int) s33 fs.length) _;rw[N5,tJ,hx,aw,bl.aD,aY];have:decide (fs.length<fs.length)=false:=by simp
  rw[this,bp];refine ZE hB hk hx hfs hacc (hgo ⟨λi f hf=>(hI i f (cr.1 hf).1 hf).1,λf hf hm=>?_⟩);obtain⟨i,hi⟩:=List.mem_iff_getElem?.1 hf;exact(hI i f (cr.1 hi).1 hi).2 hm
theorem Wv {p:cp} (hp:p.ok B):ag ((f23 Pf) p) (λr=>r=true↔mv p):=by
 obtain⟨hos,hus,hqs⟩:=hp;have no:¬mv p->ag (some false) (λr=>r=true↔mv p):=λh=>ag.ret ⟨λe=>(by cases e),λe=>absurd e h⟩;rw[e23,xu,bt.aD,bl.aD,bl.aD];rw[wrap64 (x:=(p.bH.length:Int)+(p.cQ.length:Int)) (by omega) (by omega),wrap64 (by omega) (by omega)];refine ag.bif (λh=>no λg=>?_) (λ_=>ag.bif (λh=>no λg=>?_) (λ_=>ag.bif (λh=>no λg=>?_) (λ_=>ag.bif (λh=>no λg=>?_) (λhsum=>?_))))
 ·have:=g.1;simp at h;omega
 ·have:=g.1;simp at h;omega
 ·have:=g.1;simp at h;omega
 ·have:=g.1;simp at h;omega
 have hsum:p.bH.length+p.cQ.length+p.Queries.length<=64:=by simp at hsum;omega
 refine eg (L:=λi s=>(nT Pf) p false s i) (len:=p.bH.length) (λi s=>s=jT (p.bH.take i)/\∀(j:Nat) o,j<i->p.bH[j]? =some o->ek o.Name=true/\dw o.aj/\∀q,0<j->p.bH[j-1]? =some q->Op.bytesLess q.Name o.Name=true) (λi s hi hI kk=>?_) (λs hI=>?_) 0 [] (by omega) ⟨by simp,λj f h=>by omega⟩
 ·show ag ((nT Pf) p false s i) _;obtain⟨o,ho⟩:=bh hi;have hoo:=hos.2 o (bw ho);have hsl:s.length<=i:=by rw[hI.1];simp;omega
  have hlen:decide ((s++[o.Name]).length<=274877906944)=true:=by simp;omega
  rw[N6,tM,p6,bt.aD,aY];have:decide (i<p.bH.length)=true:=by simpa using hi
  rw[this,aV,bj ho,aw,sF _ (by have:=hoo.1;omega),aw,bP i (by omega),aw];refine ag.bif (λh=>no λg=>?_) (λh1=>?_)
  ·rw[(g.2.1 i o ho).1]at h;cases h
  have tail:(∀q,0<i->p.bH[i-1]? =some q->Op.bytesLess q.Name o.Name=true)->ag (((f15 Pf) o.aj).bind λy28=>(bif y28 !=0 then(some false)else((some o).bind λx30=>(bif decide (((s:List (List UInt8))++([x30.Name]:List (List UInt8))).length<=274877906944)then((nT Pf) p false (s++[x30.Name]) ((i+1:Nat):Int))else none)))) (λr=>r=true↔mv p):=by
   intro hprev;refine ag.bind (KI (by omega) hoo.2) (λy hy=>ag.bif (λh=>no λg=>?_) (λh2=>?_))
   ·rw[hy.2 (g.2.1 i o ho).2.1]at h;cases h
   rw[aw,hlen];refine kk _ ⟨by rw[hI.1,<-lK ho,jT,jT,oQ];simp,λm g hm hg=>?_⟩;rcases iQ.1 hm with h5|rfl
   ·exact hI.2 m g h5 hg
   ·rw[ho]at hg;cases hg;exact⟨by simpa using h1,hy.1 (by simpa using h2),hprev⟩
  refine ag.bif (λh0=>?_) (λh0=>tail λq hq=>?_)
  ·have h0:0<i:=by simp at h0;omega
   obtain⟨q,hq⟩:=bh (l:=p.bH) (i:=i-1) (by omega);rw[zG hB h0 (by omega),bj hq,aw];refine ag.bif (λh=>no λg=>?_) (λh=>tail λq' _ hq'=>?_)
   ·rw[(g.2.1 i o ho).2.2 q h0 hq]at h;cases h
   ·rw[hq]at hq';cases hq';simpa using h
  ·simp at h0;omega
 ·show ag ((nT Pf) p false s _) _;rw[N6,tM,p6,bt.aD,aY];have:decide (p.bH.length<p.bH.length)=false:=by simp
  rw[this,bp];have hob:OB p.bH:=λi o ho=>hI.2 i o (cr.1 ho).1 ho;have hs:s=jT p.bH:=by rw[hI.1,jW]
  rw[hs];rw[Et,qS];refine ag.bif (λ_=>?_) (λh=>absurd h (by decide));refine PA hB hos (k:=0) (by omega) rfl hus.1 hus.2 (by simp;omega) (λh g=>h g.2.2.1) (λhU=>?_);rw[Et,qS];refine ag.bif (λ_=>?_) (λh=>absurd h (by decide));refine PA hB hos (k:=1) (by omega) rfl hqs.1 hqs.2 (by simp;omega) (λh g=>h g.2.2.2) (λhQ=>?_);rw[Et,qS];refine ag.bif (λh=>absurd h (by decide)) (λ_=>?_);exact ag.ret ⟨λ_=>⟨hsum,hob,hU,hQ⟩,λ_=>rfl⟩
end
theorem Ww:∀(x:ae) (k:Int),k<=1000000-> -1<=k->ag ((f97 Pf) x k) (λr=>r<=k/\ -1<=r):=by
 refine ae.ind λx ih k hk hk0=>?_;rw[e97,xw];simp only[ae.aD];refine ag.bif (λh=>ag.ret ⟨by omega,by omega⟩) (λh1=>?_);have h1:1<=k:=by simpa using h1
 refine ag.bif (λh=>ag.ret ⟨by omega,by omega⟩) (λh2=>?_);have h2:(x.Kids.length:Int)<=k:=by simpa using h2
 rw[wrap64 (by omega) (by omega)];refine eg (L:=λi s=>(qU Pf) x s i) (P:=λr=>r<=k/\ -1<=r) (len:=x.Kids.length) (λi s=>s<=k/\ -1<=s) (λi s hi hI kk=>?_) (λs hI=>?_) 0 (k-1) (by omega) ⟨by omega,by omega⟩
 ·show ag ((qU Pf) x s i) _;obtain⟨y,hy⟩:=bh hi;have:decide (i<x.Kids.length)=true:=by simpa using hi
  rw[N8,tO];simp only[ae.aD];rw[aY,this,aV];refine ag.bif (λh=>?_) (λh=>ag.ret hI);rw[bj hy,aw,bP i (by omega)];exact ag.bind (ih y (bw hy) s (by omega) (by omega)) (λr hr=>kk r ⟨by omega,hr.2⟩)
 ·show ag ((qU Pf) x s x.Kids.length) _;have:decide (x.Kids.length<x.Kids.length)=false:=by simp
  rw[N8,tO];simp only[ae.aD];rw[aY,this,bp];exact ag.ret hI
theorem KJ (x:ae) {k:Int} (hk:k<=1000000) (hk0: -1<=k):ag ((f52 Pf) x k) (λ_=>True):=by
 rw[e52,xx];exact ag.bind (Ww x k hk hk0) (λr hr=>ag.ret trivial)
section
variable {B:Nat} (hB:B<=1048576)
include hB
theorem Em {L:Int->Int->Option Int} {ps:List ah} (hps:ps.length<=B) (ih:∀x∈ps,∀k:Int,k<=1000000->0<=k->ag ((f165 Pf) x k) (λr=>r<=1000000/\ -4398046511104<=r))
  (hL:∀(s i:Int),L s i=bif decide (i<(ps.length:Int))then(bif decide (s>=0)then((au ps i).bind λx7=>(((f165 Pf) x7 s).bind λy9=>L y9 (IntKind.i64.wrap (i+1))))else some s)else some s) {s:Int} (h1:s<=1000000) (h2: -4398046511104<=s):ag (L s 0) (λr=>r<=1000000/\ -4398046511104<=r):=by
 refine eg (L:=λi s=>L s i) (P:=λr=>r<=1000000/\ -4398046511104<=r) (len:=ps.length) (λi s=>s<=1000000/\ -4398046511104<=s) (λi s hi hI kk=>?_) (λs hI=>?_) 0 s (by omega) ⟨h1,h2⟩
 ·show ag (L s i) _;obtain⟨y,hy⟩:=bh hi;have:decide (i<ps.length)=true:=by simpa using hi
  rw[hL,aY,this,aV];refine ag.bif (λh=>?_) (λh=>ag.ret hI);have h:0<=s:=by simpa using h
  rw[bj hy,aw,bP i (by omega)];exact ag.bind (ih y (bw hy) s hI.1 h) (λr hr=>kk r hr)
 ·show ag (L s ps.length) _;have:decide (ps.length<ps.length)=false:=by simp
  rw[hL,aY,this,bp];exact ag.ret hI
theorem Vj:∀(x:ah) (k:Int),x.ok B->k<=1000000->0<=k->ag ((f165 Pf) x k) (λr=>r<=1000000/\ -4398046511104<=r):=by
 refine ah.ind λx ih k hx hk hk0=>?_;have ihp:∀y∈x.ax,∀k:Int,k<=1000000->0<=k->ag ((f165 Pf) y k) (λr=>r<=1000000/\ -4398046511104<=r):=λy hy k h1 h2=>ih y hy k (pw hx hy) h1 h2;have hx':=hx;rw[ah.c8]at hx';obtain⟨_,_,_,⟨hn,_⟩,⟨hp,_⟩,hr,_⟩:=hx';have hm:(x.Names.length:Int)*(x.aZ.length:Int)<=1048576*1048576:=Int.mul_le_mul (by omega) (by omega) (by omega) (by omega);have hm0:0<=(x.Names.length:Int)*(x.aZ.length:Int):=Int.mul_nonneg (by omega) (by omega);have hn:(x.Names.length:Int)<=1048576:=by omega
 rw[ack,wY,cj,aU.aD];generalize (x.Names.length:Int)*(x.aZ.length:Int)=m at hm hm0⊢;have hn0:(0:Int)<=(x.Names.length:Int):=by omega
 generalize (x.Names.length:Int)=n at hn hn0⊢;rw[wrap64 (x:=k-1) (by omega) (by omega),wrap64 (x:=k-1-n) (by omega) (by omega),wrap64 (x:=m) (by omega) (by omega)];refine ag.bif (λ_=>ag.bif (λh=>?_) (λh=>?_)) (λ_=>?_)
 ·rw[wrap64 (x:=k-1-n-m) (by omega) (by omega)];exact Em hB hp ihp (L:=(vE Pf) x) (λs i=>by rw[XZ,vF,ah.aD]) (by omega) (by omega)
 ·exact Em hB hp ihp (L:=(vG Pf) x) (λs i=>by rw[X0,vH,ah.aD]) (by omega) (by omega)
 ·exact Em hB hp ihp (L:=(vI Pf) x) (λs i=>by rw[X1,vJ,ah.aD]) (by omega) (by omega)
theorem VM {x:ah} (hx:x.ok B):ag ((f96 Pf) x) (λ_=>True):=by
 rw[e96,xv];exact ag.bind (Vj hB x 150 hx (by omega) (by omega)) (λr hr=>ag.ret trivial)
theorem UP {os:List bt} (ho:os.length<=B) (hos:∀o∈os,o.ok B):ag ((f51 Pf) os) (λ_=>True):=by
 rw[e51,uR];refine eg (L:=λi (_:Unit)=>(qT Pf) os i) (len:=os.length) (λ_ _=>True) (λi s hi hI kk=>?_) (λs hI=>?_) 0 () (by omega) trivial
 ·show ag ((qT Pf) os i) _;obtain⟨o,hoi⟩:=bh hi;rw[N7,tN,bt.aD,aY];have:decide (i<os.length)=true:=by simpa using hi
  rw[this,aV,bj hoi,aw,bP i (by omega)];exact ag.bind (VM hB (hos o (bw hoi)).2) (λr _=>ag.bif (λ_=>ag.ret trivial) (λ_=>kk () trivial))
 ·show ag ((qT Pf) os os.length) _;rw[N7,tN,bt.aD,aY];have:decide (os.length<os.length)=false:=by simp
  rw[this];exact ag.ret trivial
theorem Yr {p:cp} (hp:p.ok B):ag ((f21 Pf) p) (λ_=>True):=by
 obtain⟨hos,hus,hqs⟩:=hp;rw[e21,xy];have tF:ag (some false) (λ_:Bool=>True):=ag.ret trivial;have tQ:ag ((pF Pf) p 0) (λ_=>True):=by
  refine eg (L:=λi (_:Unit)=>(pF Pf) p i) (len:=p.Queries.length) (λ_ _=>True) (λi s hi hI kk=>?_) (λs hI=>?_) 0 () (by omega) trivial
  ·show ag ((pF Pf) p i) _;obtain⟨f,hf⟩:=bh hi;rw[N9,tP,bl.aD,aY];have:decide (i<p.Queries.length)=true:=by simpa using hi
   rw[this,aV,bj hf,aw,bP i (by omega),aw];exact ag.bind (KJ f.Body (by omega) (by omega)) (λr _=>ag.bif (λ_=>tF) (λ_=>ag.bif (λ_=>tF) (λ_=>kk () trivial)))
  ·show ag ((pF Pf) p _) _;rw[N9,tP,bl.aD,aY];have:decide (p.Queries.length<p.Queries.length)=false:=by simp
   rw[this];exact ag.ret trivial
 refine ag.bif (λ_=>tF) (λ_=>ag.bind (UP hB hos.1 hos.2) (λr _=>ag.bif (λ_=>tF) (λ_=>ag.bif (λ_=>tF) (λ_=>ag.bif (λ_=>tF) (λ_=>?_)))));refine eg (L:=λi (_:Unit)=>(qV Pf) p false i) (len:=p.cQ.length) (λ_ _=>True) (λi s hi hI kk=>?_) (λs hI=>?_) 0 () (by omega) trivial
 ·show ag ((qV Pf) p false i) _;obtain⟨f,hf⟩:=bh hi;rw[Oa,tR,bl.aD,aY];have:decide (i<p.cQ.length)=true:=by simpa using hi
  rw[this,aV,bj hf,aw,bP i (by omega),aw];exact ag.bind (KJ f.Body (by omega) (by omega)) (λr _=>ag.bif (λ_=>tF) (λ_=>ag.bif (λ_=>tF) (λ_=>kk () trivial)))
 ·show ag ((qV Pf) p false _) _;rw[Oa,tR,bl.aD,aY];have:decide (p.cQ.length<p.cQ.length)=false:=by simp
  rw[this];exact tQ
theorem UU {p:cp} (hp:p.ok B):(f5 Pf) p=some true:=by
 rw[e5,B5,x9,aam];obtain⟨r,e,_⟩:=Yr hB hp;rw[e];obtain⟨a,ea,ha⟩:=Xo hB hp;obtain⟨b,eb,hb⟩:=Wv hB hp;rw[ea,eb];have:a=b:=by rw[gu,ha,hb,aaE]
 subst this;cases r<;>simp
end
set_option maxRecDepth 100000 in
theorem UF (xs:List AV) (h:tf Tryz.prog 1048576 Tryz.f5.params.toList xs):Bw.Pure env.toCx 5 xs (.ret (PI true)):=by
 rw[Tryz.params5]at h;obtain⟨x,r,rfl,hx,hr⟩:=h;simp only[tf]at hr;subst hr;simp only[nW,Tryz.underlying34]at hx;obtain⟨n,row,hx,rfl⟩:=hx;obtain⟨p,rfl,hp⟩:=cp.sh _ _ hx;exact p5 _ _ (UU (bQ _) hp)
