/- The elaborator against the reference's: sets, maps. -/
import Derived.Test.YtfgnmgbiijpkiaaGreatKRb
set_option linter.all false
namespace Go.Proofs.YtfgnmgbiijpkiaaGreat
open Go Go.Bw
section
variable {B:Nat} (hB:B<=1048576) {c:bR}
theorem FD {s:cr} {n:ae} {w:az} {i:Int} {b:List ab} {f:aK} (hf:f.Code≠0):∃z',(jj Pf) s n w i b f=some (z',f):=by
 rw[zA,np,gE hf];cases decide (i<((ae.rows n.Kids).length:Int))<;>exact⟨_,rfl⟩
include hB in
theorem OV {n:ae} {w:az} (hn:n.Kids.length<=B) (ih:∀k∈n.Kids,RE B c k):∀(m i:Nat) (b:List ab),i+m=n.Kids.length->b.length=i->RR EQ ((gZ Pf) c n w i b) ((jj Pf) (sc c) n w i b ⟨0,0⟩):=by
 intro m
 induction m with
 |zero=>
  intro i b hi hb;rw[px,kH,zA,np,ae.bc,bX];have:decide (i<n.Kids.length)=false:=by simp;omega
  rw[this];exact .inl ⟨_,_,rfl,rfl,rfl⟩
 |succ m im=>
  intro i b hi hb;rw[px,kH,zA,np,ae.bc,bX];have hl:i<n.Kids.length:=by omega
  have:decide (i<n.Kids.length)=true:=by simpa using hl
  obtain⟨e,he⟩:=cn hl;rw[this,bE,bE,bW he,aN,aN,cD i (by omega)];refine RR.t rfl ?_;have hlen:∀z:ab,decide ((b++[z]).length<=274877906944)=true:=λz=>by simp;omega
  refine RR.bind (ih e (cy he) (ba 0) (.inl rfl)) (λy u h=>?_) (λp q z hp=>?_)
  ·obtain⟨rfl,hu⟩:=h;have e1:(b++[ab.z])[b.length]? =some ab.z:=by simp
   have e2:IntKind.i64.wrap ((((ab.rows b++ab.rows [ab.z]).length:Nat):Int)-1)=(b.length:Int):=by
    rw[jL,ab.bc,ab.bc,wrap64 (by simp<;>omega) (by simp<;>omega)];simp
   have e3:(b++[u])[b.length]? =some u:=by simp
   rw[hlen,bE,ab.bc,pe,iJ,nG,e1,aN,e2,pe,e3,aN];have go:RR EQ ((gZ Pf) c n w ((i+1:Nat):Int) (b++[u])) (bif decide ((b++[u]).length<=274877906944)then(jj Pf) (sc c) n w ((i+1:Nat):Int) (b++[u]) ⟨0,0⟩else none):=by
    rw[hlen];exact im (i+1) (b++[u]) (by omega) (by simp[hb])
   refine RR.t rfl ?_;refine RR.aZ (λh3=>RR.t h3 ?_) (λh3=>RR.f h3 go);refine RR.aZ (λh4=>RR.t h4 ?_) (λh4=>RR.f h4 go);refine RR.r (v:=e) rfl (RR.r (dB 4 e.At) ?_);rw[jE,gD];obtain⟨z',e4⟩:=FD (s:=sc c) (n:=n) (w:=w) (i:=((i+1:Nat):Int)) (b:=b++[u]) (f:=⟨4,e.At⟩) (by show(4:Int)≠0;decide);refine RR.t (hlen u) ?_;show RR EQ _ ((jj Pf) (sc c) n w ((i+1:Nat):Int) (b++[u]) ⟨4,e.At⟩);rw[e4];exact .inr ⟨4,e.At,z',by decide,rfl,rfl⟩
  ·obtain⟨z',e4⟩:=FD (s:=sc c) (n:=n) (w:=w) (i:=((i+1:Nat):Int)) (b:=b++[z]) (f:=⟨p,q⟩) hp;refine⟨z',?_⟩;show(bif (p==0)then _ else bif decide ((b++[z]).length<=274877906944)then _ else none)=_;rw[gE hp,hlen];exact e4
theorem FE {s:cr} {n:ae} {w:az} {i:Int} {b:List ab} {f:aK} (hf:f.Code≠0):∃z',(jk Pf) s n w i b f=some (z',f):=by
 rw[zB,nq,gE hf];cases decide (i<((ae.rows n.Kids).length:Int))<;>exact⟨_,rfl⟩
include hB in
theorem OW {n:ae} {w:az} (hn:n.Kids.length<=B) (ih:∀k∈n.Kids,RE B c k):∀(m i:Nat) (b:List ab),i+m=n.Kids.length->b.length=i->RR EQ ((gZ Pf) c n w i b) ((jk Pf) (sc c) n w i b ⟨0,0⟩):=by
 intro m
 induction m with
 |zero=>
  intro i b hi hb;rw[px,kH,zB,nq,ae.bc,bX];have:decide (i<n.Kids.length)=false:=by simp;omega
  rw[this];exact .inl ⟨_,_,rfl,rfl,rfl⟩
 |succ m im=>
  intro i b hi hb;rw[px,kH,zB,nq,ae.bc,bX];have hl:i<n.Kids.length:=by omega
  have:decide (i<n.Kids.length)=true:=by simpa using hl
  obtain⟨e,he⟩:=cn hl;rw[this,bE,bE,bW he,aN,aN,cD i (by omega)];refine RR.t rfl ?_;have hlen:∀z:ab,decide ((b++[z]).length<=274877906944)=true:=λz=>by simp;omega
  refine RR.bind (ih e (cy he) (ba 0) (.inl rfl)) (λy u h=>?_) (λp q z hp=>?_)
  ·obtain⟨rfl,hu⟩:=h;have e1:(b++[ab.z])[b.length]? =some ab.z:=by simp
   have e2:IntKind.i64.wrap ((((ab.rows b++ab.rows [ab.z]).length:Nat):Int)-1)=(b.length:Int):=by
    rw[jL,ab.bc,ab.bc,wrap64 (by simp<;>omega) (by simp<;>omega)];simp
   have e3:(b++[u])[b.length]? =some u:=by simp
   rw[hlen,bE,ab.bc,pe,iJ,nG,e1,aN,e2,pe,e3,aN];have go:RR EQ ((gZ Pf) c n w ((i+1:Nat):Int) (b++[u])) (bif decide ((b++[u]).length<=274877906944)then(jk Pf) (sc c) n w ((i+1:Nat):Int) (b++[u]) ⟨0,0⟩else none):=by
    rw[hlen];exact im (i+1) (b++[u]) (by omega) (by simp[hb])
   refine RR.t rfl ?_;refine RR.aZ (λh3=>RR.t h3 ?_) (λh3=>RR.f h3 go);refine RR.aZ (λh4=>RR.t h4 ?_) (λh4=>RR.f h4 go);refine RR.r (v:=e) rfl (RR.r (dB 4 e.At) ?_);rw[jE,gD];obtain⟨z',e4⟩:=FE (s:=sc c) (n:=n) (w:=w) (i:=((i+1:Nat):Int)) (b:=b++[u]) (f:=⟨4,e.At⟩) (by show(4:Int)≠0;decide);refine RR.t (hlen u) ?_;show RR EQ _ ((jk Pf) (sc c) n w ((i+1:Nat):Int) (b++[u]) ⟨4,e.At⟩);rw[e4];exact .inr ⟨4,e.At,z',by decide,rfl,rfl⟩
  ·obtain⟨z',e4⟩:=FE (s:=sc c) (n:=n) (w:=w) (i:=((i+1:Nat):Int)) (b:=b++[z]) (f:=⟨p,q⟩) hp;refine⟨z',?_⟩;show(bif (p==0)then _ else bif decide ((b++[z]).length<=274877906944)then _ else none)=_;rw[gE hp,hlen];exact e4
theorem OX {s:cr} {n:ae} {w:az} {i:Int} {b:List ab} {f:aK} (hf:f.Code≠0):∃z',(nr Pf) s n w i b f=some (z',f):=by
 rw[zD,nw,gE hf];cases decide (i<((ae.rows n.Kids).length:Int))<;>exact⟨_,rfl⟩
include hB in
theorem PO {n:ae} {w:az} {p:ai} (hp:w.aj.aB=[p]) (hwp:bq B (cJ p)) (hn:n.Kids.length<=B) (ih:∀e∈n.Kids,∃a b,e.Kids=[a,b]/\RE B c a/\RE B c b):∀(m i:Nat) (b:List ab),i+m=n.Kids.length->b.length=2*i->RR EQ ((kI Pf) c n w i b) ((nr Pf) (sc c) n w i b ⟨0,0⟩):=by
 intro m
 induction m with
 |zero=>
  intro i b hi hb;rw[vj,mc,zD,nw,ae.bc,bX];have:decide (i<n.Kids.length)=false:=by simp;omega
  rw[this];exact .inl ⟨_,_,rfl,rfl,rfl⟩
 |succ m im=>
  intro i b hi hb;rw[vj,mc,zD,nw,ae.bc,bX];have hl:i<n.Kids.length:=by omega
  have:decide (i<n.Kids.length)=true:=by simpa using hl
  obtain⟨e,he⟩:=cn hl;obtain⟨x,z,hxz,hx,hz⟩:=ih e (cy he);rw[this,bE,bE,bW he,aN,aN,cD i (by omega),hxz,hp];refine RR.t rfl (RR.l (v:=x) rfl (RR.l (dh 3) (RR.r (cX 3) (RR.r (v:=p) rfl (RR.r (kx p) ?_)))));have h2:∀ys:List ab,ys.length<=2->decide ((b++ys).length<=274877906944)=true:=λys h=>by simp;omega
  refine vU hx (.inr (bq.sort (by simp))) hz (.inr hwp) (f:=λu v=>(kI Pf) c n w ((i+1:Nat):Int) (b++[u,v])) (λu hu=>?_) (λu v hu hv=>?_) (λa q ha=>?_)
  ·have e1:(b++[ab.z])[b.length]? =some ab.z:=by simp
   rw[h2 [ab.z] (by simp),bE,ab.bc,iJ,nG,bW e1,aN];show((some z).bind _)=_;rw[aN];show((some p).bind _)=_;rw[aN,of_eq,aN];congr 1;funext v;have e2:(((ab.rows b++ab.rows [ab.z]).length:Nat):Int)=(((b++[u]).length:Nat):Int):=by
    rw[jL,ab.bc,ab.bc];simp
   have e3:((b++[u])++[ab.z])[(b++[u]).length]? =some ab.z:=by simp
   have h3:decide (((b++[u])++[ab.z]).length<=274877906944)=true:=by simp;omega
   rw[h3,bE,e2,bW e3,aN,iJ,nG,iI];rfl
  ·refine RR.t (h2 [u,v] (by simp)) ?_;exact im (i+1) (b++[u,v]) (by omega) (by simp;omega)
  ·obtain⟨z',e4⟩:=OX (s:=sc c) (n:=n) (w:=w) (i:=((i+1:Nat):Int)) (b:=b++[]) (f:=⟨a,q⟩) ha;refine⟨z',?_⟩;show(bif decide ((b++[]).length<=274877906944)then _ else none)=_;rw[h2 [] (by simp)];exact e4
end
theorem HN {D : Type} {L : Int → D} {F : Nat → D} {E : D} {a : List (List UInt8)} {t : List UInt8} (hs : ∀ (i : Nat) y, a[i]? = some y → L (i : Int) = bif t == y then F i else L ((i + 1 : Nat) : Int)) (he : L (a.length : Int) = E) :
    (idxOf (fun y => t == y) a 0 < 0 ∧ L 0 = E) ∨ ∃ (j : Nat) (y : List UInt8), idxOf (fun y => t == y) a 0 = (j : Int) ∧ a[j]? = some y ∧ t = y ∧ L 0 = F j := by
  rcases rB (fun y => t == y) a 0 with ⟨h1, h2⟩ | ⟨i, x, h1, h2, h3, h4⟩
  · have h1 : idxOf (fun y => t == y) a 0 = -1 := h1
    refine .inl ⟨by rw [h1]; decide, ?_⟩
    have key : ∀ m i : Nat, i + m = a.length → L (i : Int) = E := by
      intro m
      induction m with
      | zero => intro i hi; have : i = a.length := by omega
                rw [this]; exact he
      | succ m im =>
        intro i hi
        obtain ⟨y, hy⟩ := cn (l := a) (i := i) (by omega)
        rw [hs i y hy, h2 y (cy hy)]
        exact im (i + 1) (by omega)
    exact key a.length 0 (by omega)
  · have h1 : idxOf (fun y => t == y) a 0 = ((0 + i : Nat) : Int) := h1
    refine .inr ⟨i, x, by rw [h1]; simp, h2, by simpa using h3, ?_⟩
    have key : ∀ m k : Nat, k + m = i → L (k : Int) = F i := by
      intro m
      induction m with
      | zero => intro k hk; have : k = i := by omega
                rw [this, hs i x h2, h3]; rfl
      | succ m im =>
        intro k hk
        have hil := (c8.1 h2).1
        obtain ⟨y, hy⟩ := cn (l := a) (i := k) (by omega)
        rw [hs k y hy, h4 k y (by omega) hy]
        exact im (k + 1) (by omega)
    exact key i 0 (by omega)
theorem PL (a:List (List UInt8)) (t:List UInt8) (ha:a.length<1000000000):(f42 Pf) a t=some (a.any λy=>y==t):=by
 rw[Vv,qY];have key:∀m i:Nat,i+m=a.length->(si Pf) a t (i:Int)=some ((a.drop i).any λy=>y==t):=by
  intro m
  induction m with
  |zero=>
   intro i hi;rw[HZ,p8,du,bX];have:decide (i<a.length)=false:=by simp;omega
   rw[this,List.drop_of_length_le (by omega)];rfl
  |succ m im=>
   intro i hi;obtain⟨y,hy⟩:=cn (l:=a) (i:=i) (by omega);rw[HZ,p8,du,bX];have hl:i<a.length:=by omega
   have:decide (i<a.length)=true:=by simpa using hl
   rw[this,bE,bW hy,aN,cD i (by omega),im (i+1) (by omega),List.drop_eq_getElem_cons hl,List.any_cons];have:a[i]=y:=by rw[List.getElem?_eq_getElem hl]at hy;simpa using hy
   rw[this];cases y==t<;>rfl
 have:=key a.length 0 (by omega);simpa using this
section
variable {B:Nat} (hB:B<=1048576) {c:bR}
def jc (n:ae) (p:ai):ab:=⟨6,cJ p,0,[],n.At,[]⟩
include hB in
theorem fill_eq {s:cr} {n:ae} {w:az} (h6:w.aj.aB.length=w.aj.Names.length) (hl:w.aj.aB.length<=B):(nz Pf) s n w 0 []=(kK Pf) s n w (w.aj.aB.length:Int) (w.aj.aB.map (jc n)) [] 0 (w.aj.aB.map (jc n)) aK.z:=by
 have key:∀m i:Nat,i+m=w.aj.aB.length->(nz Pf) s n w (i:Int) ((w.aj.aB.take i).map (jc n))=(kK Pf) s n w (w.aj.aB.length:Int) (w.aj.aB.map (jc n)) [] 0 (w.aj.aB.map (jc n)) aK.z:=by
  intro m
  induction m with
  |zero=>
   intro i hi;rw[GB,pG,du,bX];have h0:i=w.aj.aB.length:=by omega
   have:decide (i<w.aj.Names.length)=false:=by simp;omega
   rw[this,cp,h0,D6]
  |succ m im=>
   intro i hi;rw[GB,pG,du,bX];have hl':i<w.aj.aB.length:=by omega
   have:decide (i<w.aj.Names.length)=true:=by simp;omega
   obtain⟨p,hp⟩:=cn hl';rw[this,bE,bW hp,aN,kx,aN,cD i (by omega)];have h2:decide (((w.aj.aB.take i).map (jc n)++[({Op:=6,ak:=cJ p,N:=0,Text:=[],At:=n.At,Kids:=[]}:ab)]).length<=274877906944)=true:=by simp;omega
   rw[h2,bE];have h3:(w.aj.aB.take i).map (jc n)++[({Op:=6,ak:=cJ p,N:=0,Text:=[],At:=n.At,Kids:=[]}:ab)]=(w.aj.aB.take (i+1)).map (jc n):=by
    rw[List.take_add_one,hp];simp[jc]
   rw[h3];exact im (i+1) (by omega)
 have:=key w.aj.aB.length 0 (by omega);simpa using this
theorem OU {s:cr} {n:ae} {w:az} {i0 i:Int} {b0 b:List ab} {gv:List (List UInt8)} {f:aK} (hf:f.Code≠0):∃z',(kK Pf) s n w i0 b0 gv i b f=some (z',f):=by
 rw[zE,ny,gE hf];cases decide (i<((ae.rows n.Kids).length:Int))<;>exact⟨_,rfl⟩
include hB in
theorem PM {n:ae} {l:ai} (ho:l.ok B) {s4:List Bool} {s3 ys:List ab} (h4:s4.length=l.aB.length) (hy:ys.length=l.aB.length) (hI:∀(j:Nat) p x f,l.aB[j]? =some p->s3[j]? =some x->s4[j]? =some f->ys[j]? =some (bif f then x else jc n p)):∀(m i:Nat) (s:List ab),i+m=l.aB.length->s.length=l.aB.length->(∀j,j<i->s[j]? =ys[j]?)->(∀j,i<=j->s[j]? =s3[j]?)->(kJ Pf) n l s4 s (i:Int)=some (.ret ys):=by
 have hlen:l.aB.length<=B:=by rw[ai.eP]at ho;exact ho.2.2.2.2.1.1
 intro m
 induction m with
 |zero=>
  intro i s hi hs h1 _;rw[vk,mg,ai.bc,bX];have:decide (i<l.aB.length)=false:=by simp;omega
  have e:s=ys:=by
   apply My;intro j;by_cases h:j<i
   ·exact h1 j h
   ·rw[uz (by omega),uz (by omega)]
  rw[this,cp,e]
 |succ m im=>
  intro i s hi hs h1 h2;rw[vk,mg,ai.bc,bX];have hil:i<l.aB.length:=by omega
  have:decide (i<l.aB.length)=true:=by simpa using hil
  obtain⟨p,hp⟩:=cn hil;obtain⟨f,hf⟩:=cn (l:=s4) (i:=i) (by omega);obtain⟨x,hx⟩:=cn (l:=s) (i:=i) (by omega);have hm:=cy hp;have hx3:s3[i]? =some x:=by rw[<-h2 i (by omega)];exact hx
  have hyi:=hI i p x f hp hx3 hf;rw[this,bE,bW hp,aN,bW hf,aN,cD i (by omega),iJ];cases f with
  |false=>
   show(((f66 Pf) p).bind _)=_;rw[uY hB p (pV ho hm),aN,of_eq,aN,bW hx,aN];refine im (i+1) _ (by omega) (by simp[hs]) (λj hj=>?_) (λj hj=>?_)
   ·by_cases e:j=i
    ·subst e;rw[rm (by omega),hyi];rfl
    ·rw[mV (by omega)];exact h1 j (by omega)
   ·rw[mV (by omega)];exact h2 j (by omega)
  |true=>
   refine im (i+1) s (by omega) hs (λj hj=>?_) (λj hj=>h2 j (by omega));by_cases e:j=i
   ·subst e;rw[hx,hyi];rfl
   ·exact h1 j (by omega)
include hB in
theorem PN {n:ae} {w:az} (hw:bq B w) (hs0:w.aS=0) (h6:w.aj.Kind=6) (hd:∀(i j:Nat) t,w.aj.Names[i]? =some t->w.aj.Names[j]? =some t->i=j) (hn:n.Kids.length<=B) (h1:∀e∈n.Kids,∃k,e.Kids=[k]/\RE B c k) {i0:Int} {b0:List ab}:
  ∀(m i:Nat) (s3:List ab) (s4:List Bool) (gv:List (List UInt8)) (ks:List ab),i+m=n.Kids.length->s3.length=w.aj.aB.length->s4.length=w.aj.aB.length->ks.length=w.aj.aB.length->gv.length<=i->
   (∀(j:Nat) p x f,w.aj.aB[j]? =some p->s3[j]? =some x->s4[j]? =some f->ks[j]? =some (bif f then x else jc n p))->
   (∀t,t∈gv↔∃j:Nat,w.aj.Names[j]? =some t/\s4[j]? =some true)->
   RR (λys z=>z=(⟨25,w,0,[],0,ys⟩:ab)) ((me Pf) c n w.aj s3 s4 i) ((kK Pf) (sc c) n w i0 b0 gv i ks ⟨0,0⟩):=by
 have hl:=(hw.dI hs0).1;have ho:=(hw.dI hs0).2;have hlen:w.aj.aB.length<=B:=by rw[ai.eP]at ho;exact ho.2.2.2.2.1.1
 have hpn:=sA hl h6;intro m
 induction m with
 |zero=>
  intro i s3 s4 gv ks hi h3 h4 hk hg I1 I2;rw[vl,mf,zE,ny,ae.bc,bX];have:decide (i<n.Kids.length)=false:=by simp;omega
  have e:=PM hB (n:=n) ho h4 hk I1 w.aj.aB.length 0 s3 (by omega) h3 (λj hj=>by omega) (λj _=>rfl);have e0:((0:Nat):Int)=0:=rfl;rw[e0]at e;rw[this,cp,cp,e];exact .inl ⟨_,_,rfl,rfl,rfl⟩
 |succ m im=>
  intro i s3 s4 gv ks hi h3 h4 hk hg I1 I2;rw[vl,mf,zE,ny,ae.bc,bX];have hil:i<n.Kids.length:=by omega
  have:decide (i<n.Kids.length)=true:=by simpa using hil
  obtain⟨e,he⟩:=cn hil;obtain⟨kd,hkd,hE⟩:=h1 e (cy he);rw[this,bE,bE,bW he,aN,vb _ _ (by omega),aN,cD i (by omega)];refine RR.t rfl ?_;have S:=HN (L:=λk=>(mi Pf) (sc c) n w i0 b0 gv i ks ⟨0,0⟩ k) (a:=w.aj.Names) (t:=e.Text)
   (E:=some (({Op:=25,ak:=w,N:=0,Text:=[],At:=0,Kids:=ks}:ab),({Code:=3,At:=e.At}:aK)))
   (F:=λk=>((f42 Pf) gv e.Text).bind λy=>bif y then some (({Op:=25,ak:=w,N:=0,Text:=[],At:=0,Kids:=ks}:ab),({Code:=3,At:=e.At}:aK))else(ax w.aj.aB (k:Int)).bind λp=>((f49 Pf) (sc c) kd (cJ p)).bind λr=>(ax ks (k:Int)).bind λ_=>(kK Pf) (sc c) n w i0 b0 (gv++[e.Text]) ((i+1:Nat):Int) (ks.set k r.fst) r.snd)
   (λk y hy=>by
    show(mi Pf) (sc c) n w i0 b0 gv i ks ⟨0,0⟩ (k:Int)=_;have hkl:=(c8.1 hy).1;have d1:decide (k<w.aj.Names.length)=true:=by simpa using hkl
    have d2:((k:Int)==(w.aj.Names.length:Int))=false:=by simp;omega
    have d3:decide ((gv++[e.Text]).length<=274877906944)=true:=by simp;omega
    have d4:(y==e.Text)=(e.Text==y):=by rw[gx,beq_iff_eq,beq_iff_eq];exact eq_comm
    have d5:ax e.Kids 0=some kd:=by rw[hkd];rfl
    rw[GA,pF,du,bX,d1,bE,bW hy,aN,bW he];simp only[aN,d2,d3,d4,d5,dB,kx,bE,cp,iJ,cD i (show i<9223372036854775807 by omega),cD k (show k<9223372036854775807 by omega)];cases e.Text==y<;>rfl)
   (by
    show(mi Pf) (sc c) n w i0 b0 gv i ks ⟨0,0⟩ (w.aj.Names.length:Int)=_;have d1:decide (w.aj.Names.length<w.aj.Names.length)=false:=by simp
    have d2:((w.aj.Names.length:Int)==(w.aj.Names.length:Int))=true:=by simp
    rw[GA,pF,du,bX,d1,cp,d2,bE,bW he,aN,dB];rfl)
  have F3:∀{q:Option (ab×aK)},q=some (({Op:=25,ak:=w,N:=0,Text:=[],At:=0,Kids:=ks}:ab),({Code:=3,At:=e.At}:aK))->RR (λys z=>z=(⟨25,w,0,[],0,ys⟩:ab)) (Bw.aH ((f80 Pf) 3 e.At) λ_=>(none:Option (aU (List ab)))) q:=λh=>by
   rw[jE,gD,h];exact .inr ⟨3,e.At,_,by decide,rfl,rfl⟩
  rcases S with⟨hneg,hL⟩|⟨j,y,hj,hy,hty,hL⟩
  ·exact RR.aZ (λ_=>F3 hL) (λh=>by simp at h;omega)
  ·have hL:(mi Pf) (sc c) n w i0 b0 gv i ks ⟨0,0⟩ 0=_:=hL;rw[hL,PL gv _ (by omega),aN,hj];have hjl:j<w.aj.aB.length:=by rw[hpn];exact(c8.1 hy).1
   obtain⟨f,hf⟩:=cn (l:=s4) (i:=j) (by omega);obtain⟨x,hx⟩:=cn (l:=s3) (i:=j) (by omega);obtain⟨p,hp⟩:=cn hjl;obtain⟨k0,hk0⟩:=cn (l:=ks) (i:=j) (by omega);have hm:=cy hp;have hfg:(gv.any λz=>z==e.Text)=f:=by
    rw[gx,l3];constructor
    ·rintro ⟨z,hz,e1⟩;have e1:z=e.Text:=by simpa using e1
     rw[e1]at hz;obtain⟨j',h5,h6⟩:=(I2 _).1 hz;have:j'=j:=hd j' j e.Text h5 (by rw[hty];exact hy);rw[this,hf]at h6;simpa using h6
    ·intro h;exact⟨e.Text,(I2 _).2 ⟨j,by rw[hty];exact hy,by rw[hf,h]⟩,by simp⟩
   rw[hfg];refine RR.aZ (λh=>by simp at h;omega) (λ_=>RR.l (fM hf) ?_);cases f with
   |true=>exact F3 rfl
   |false=>
    rw[hkd,cp,cp];refine RR.l (v:=kd) rfl (RR.l (fM hp) (RR.l (of_eq p) (RR.r (fM hp) ?_)));refine RR.bind (hE (cJ p) (.inr (bq.of (hl.part hm) (pV ho hm)))) (λy2 u h=>?_) (λa b z ha=>?_)
    ·obtain⟨rfl,hu⟩:=h;refine RR.l (fM hx) (RR.l (fM hf) (RR.r (fM hk0) ?_));rw[iJ];refine im (i+1) (s3.set j u) (s4.set j true) (gv++[e.Text]) (ks.set j u) (by omega) (by simp[h3]) (by simp[h4]) (by simp[hk]) (by simp;omega) (λq r x f g1 g2 g3=>?_) (λt=>?_)
     ·by_cases e1:q=j
      ·subst e1;rw[rm (by omega)]at g2 g3⊢;cases g2;cases g3;rfl
      ·rw[mV (by omega)]at g2 g3⊢;exact I1 q r x f g1 g2 g3
     ·rw[cN,I2 t];constructor
      ·rintro (⟨q,g1,g2⟩|g)
       ·refine⟨q,g1,?_⟩;by_cases e1:q=j
        ·subst e1;rw[rm (by omega)]
        ·rw[mV (by omega)];exact g2
       ·have g:t=e.Text:=by simpa using g
        exact⟨j,by rw[g,hty];exact hy,by rw[rm (by omega)]⟩
      ·rintro ⟨q,g1,g2⟩;by_cases e1:q=j
       ·subst e1;rw[hy]at g1;cases g1;exact .inr (by simp[hty])
       ·rw[mV (by omega)]at g2;exact .inl ⟨q,g1,g2⟩
    ·obtain⟨z',e4⟩:=OU (s:=sc c) (n:=n) (w:=w) (i0:=i0) (i:=((i+1:Nat):Int)) (b0:=b0) (b:=ks.set j z) (gv:=gv++[e.Text]) (f:=⟨a,b⟩) ha;refine⟨z',?_⟩;show(Option.bind (ax ks (j:Int)) _)=_;rw[bW hk0,aN];exact e4
end
section
variable {B:Nat} (hB:B<=1048576) {c:bR} (hc:CE B c)
include hB in
theorem OT {n:ae} {w:az} (hw:cd B w) (hA:ao ((f91 Pf) c n w) (AP B c w) dO) (hR:RR EQ ((f91 Pf) c n w) ((f94 Pf) (sc c) n w)):RR (λy z=>z=y/\EP B c n w y) ((f48 Pf) c n w) ((f49 Pf) (sc c) n w):=by
 refine RR.and ?_ (HM hB hw hA);rw[LW,qV,L1,q7];refine RR.bind (RR.and hR hA) (λy u h=>?_);obtain⟨rfl,hu⟩:=h;refine RR.t rfl (RR.l (uY hB _ hu.1.ok) (RR.l (jo w) (RR.r (kW w) ?_)));cases isNone w with
 |true=>exact .inl ⟨_,_,rfl,rfl,rfl⟩
 |false=>
  obtain⟨r,e1,h1⟩:=Gc (b:=u.ak) hB hw.ok;obtain⟨r',e2,h2⟩:=yA (b:=w) hB hu.1.ok;have:r'=r:=by rw[gx,h1,h2];exact eq_comm
  subst this;refine RR.l e1 (RR.r e2 ?_);cases r' with
  |true=>exact .inl ⟨_,_,rfl,rfl,rfl⟩
  |false=>
   show RR EQ (Bw.aH ((f80 Pf) 4 n.At) λ_=>none) _;refine RR.r (dB 4 n.At) ?_;rw[jE,gD];exact .inr ⟨4,n.At,_,by decide,rfl,rfl⟩
theorem MY {n:ae} {w:az} (hw:cd B w) (hB:B<=1048576) (hs:dC n) (hk:n.Kind=30\/n.Kind=36\/n.Kind=38\/n.Kind=39\/n.Kind=42\/n.Kind=43) (hW:∀k∈n.Kids,WN B k) (ih:∀k∈n.Kids,RE B c k):RR EQ (Bw.aH ((f160 Pf) c n w) λy=>some (.ret y)) ((f94 Pf) (sc c) n w):=by
 have s2:cd B (ba 2):= .inr (bq.sort (by simp));have s3:cd B (ba 3):= .inr (bq.sort (by simp));have z0:az.z=ba 0:=rfl;have F4:∀{f} {a:Int} {z:ab},RR (EQ (D:=ab)) (Bw.aH ((f80 Pf) 4 a) f) (some (z,⟨4,a⟩)):=λ{f a z}=>by
  rw[jE,gD];exact .inr ⟨4,a,z,by decide,rfl,rfl⟩
 have F3:∀{f} {a:Int} {z:ab},RR (EQ (D:=ab)) (Bw.aH ((f80 Pf) 3 a) f) (some (z,⟨3,a⟩)):=λ{f a z}=>by
  rw[jE,gD];exact .inr ⟨3,a,z,by decide,rfl,rfl⟩
 rw[Kr,qE,L2,q8];rcases hk with h|h|h|h|h|h
 ·obtain⟨x,y,z,hx⟩:=qv (l:=n.Kids) (by unfold dC at hs;omega);simp only[dh,cX,dB,kW,jo,aN,h,Int.reduceBEq,bE,cp,iK,l6,kF,jU];rw[hx]at hW ih⊢;refine RR.l (v:=x) rfl (RR.r (v:=x) rfl (RR.bind (ih x (by simp) _ s2) λy1 u hh=>?_));obtain⟨rfl,hu⟩:=hh;refine RR.f rfl ?_;cases isNone w with
  |true=>
   rw[bE,bE];refine RR.l (v:=y) rfl ?_;refine RR.l (v:=z) rfl ?_;refine RR.r (v:=y) rfl ?_;refine RR.r (v:=z) rfl ?_;refine RR.bind (xH (n:=n) (hW y (by simp)) (hW z (by simp)) (ih y (by simp)) (ih z (by simp))) (λr ks hr=>?_);obtain⟨rfl,_⟩:=hr;exact .inl ⟨_,_,rfl,rfl,rfl⟩
  |false=>
   rw[cp,cp];refine RR.l (v:=y) rfl ?_;refine RR.r (v:=[y,z]) rfl ?_;exact vU (ih y (by simp)) hw (ih z (by simp)) hw (f:=λv t=>some (.ret ⟨7,v.ak,0,[],0,[u,v,t]⟩)) (λv hv=>rfl) (λv t hv ht=> .inl ⟨_,_,rfl,rfl,rfl⟩)
 ·obtain⟨x,y,hx⟩:=gg (l:=n.Kids) (by unfold dC at hs;omega);simp only[dh,cX,dB,kW,jo,aN,h,Int.reduceBEq,bE,cp,iK,l6,kF,jU];rw[hx]at hW ih⊢;refine RR.l (v:=x) rfl ?_;refine RR.r (v:=x) rfl ?_;refine RR.bind (ih x (by simp) _ (.inl rfl)) (λy1 u hh=>?_);obtain⟨rfl,hu⟩:=hh;refine RR.f rfl ?_;refine RR.aZ (λh0=>RR.t h0 ?_) (λh0=>RR.f h0 ?_)
  ·refine RR.l (v:=x) rfl ?_;refine RR.r (v:=x) rfl ?_;exact F4
  ·refine RR.l (v:=y) rfl ?_;refine RR.r (v:=y) rfl ?_;refine RR.bind (ih y (by simp) _ (.inr hu.2.1)) (λy1 v hh=>?_);obtain⟨rfl,hv⟩:=hh;exact .inl ⟨_,_,rfl,rfl,rfl⟩
 ·obtain⟨x,y,hx⟩:=gg (l:=n.Kids) (by unfold dC at hs;omega);simp only[dh,cX,dB,kW,jo,aN,h,Int.reduceBEq,bE,cp,iK,l6,kF,jU];rw[hx]at hW ih⊢;refine RR.l (v:=x) rfl ?_;refine RR.l (v:=y) rfl ?_;refine RR.r (v:=x) rfl ?_;refine RR.r (v:=y) rfl ?_;refine RR.bind (xH (n:=n) (hW x (by simp)) (hW y (by simp)) (ih x (by simp)) (ih y (by simp))) (λr ks hr=>?_);obtain⟨rfl,_⟩:=hr;exact .inl ⟨_,_,rfl,rfl,rfl⟩
 ·obtain⟨x,y,hx⟩:=gg (l:=n.Kids) (by unfold dC at hs;omega);simp only[dh,cX,dB,kW,jo,aN,h,Int.reduceBEq,bE,cp,iK,l6,kF,jU];cases hn:isNone w with
  |true=>
   rw[hx]at hW ih⊢;simp only[Ec,cp,bE];refine RR.l (v:=x) rfl ?_;refine RR.l (v:=y) rfl ?_;refine RR.r (v:=x) rfl ?_;refine RR.r (v:=y) rfl ?_;refine RR.bind (xH (n:=n) (hW x (by simp)) (hW y (by simp)) (ih x (by simp)) (ih y (by simp))) (λr ks hr=>?_);obtain⟨rfl,_⟩:=hr;exact .inl ⟨_,_,rfl,rfl,rfl⟩
  |false=>
   simp only[D5,cp,bE];refine RR.aZ (λh0=>RR.t h0 F4) (λh0=>RR.f h0 ?_);refine Gi hx (ih x (by rw[hx];simp)) (ih y (by rw[hx];simp)) hw hw (λu v hu hv=>?_);have e:u.ak=w:=(hu.2.2.1 hn).symm;exact .inl ⟨⟨16,w,0,[],0,[u,v]⟩,⟨16,w,0,[],0,[u,v]⟩,rfl,rfl,by rw[<-e];rfl⟩
 ·obtain⟨x,hx⟩:=jy (l:=n.Kids) (by unfold dC at hs;omega);simp only[dh,cX,dB,kW,jo,aN,h,Int.reduceBEq,bE,cp,iK,l6,kF,jU];rw[hx]at hW ih⊢;refine RR.l (v:=x) rfl ?_;rw[vZ,mE];simp only[iK,l6,kF,jU];refine sL (ih x (by simp)) (.inl rfl) (λu hu=>?_);refine RR.f rfl (RR.r (v:=u) rfl ?_);have bad:u.ak.aj.Kind≠6->((f199 Pf) [6] u.ak.aj.Kind)=some false:=λh=>by
   rw[kN _ _ (by simp)];have:(u.ak.aj.Kind==6)=false:=by simpa using h
   simp[this]
  have good:u.ak.aj.Kind=6->((f199 Pf) [6] u.ak.aj.Kind)=some true:=λh=>by
   rw[kN _ _ (by simp),h];rfl
  by_cases hk:u.ak.aj.Kind=6
  case neg=>
   refine RR.t (by simpa using hk) ?_;refine RR.aZ (λ_=>F4) (λ_=>RR.l (bad hk) ?_);exact F4
  refine RR.f (by simp[hk]) ?_;have hs0:u.ak.aS=0:=by
   by_cases h0:u.ak.aS=0
   ·exact h0
   ·have:=hu.2.1.nX h0;rw[hk]at this;cases this
  have hl:=hu.2.1.dI hs0;refine RR.aZ (λh0=>by simp[hs0]at h0) (λ_=>RR.l (good hk) ?_);refine RR.aZ (λh0=>by cases h0) (λ_=>?_);have hnl:u.ak.aj.Names.length<=B:=by have:=hl.2;rw[ai.eP]at this;exact this.2.2.2.1.1
  have S:=HN (L:=λk=>(lC Pf) n ([u],⟨0,0⟩) u k) (a:=u.ak.aj.Names) (t:=n.Text)
   (E:=some (({Op:=0,ak:=az.z,N:=0,Text:=[],At:=0,Kids:=[u]}:ab),({Code:=3,At:=n.At}:aK)))
   (F:=λk=>(ax u.ak.aj.aB (k:Int)).bind λp=>some (({Op:=19,ak:=cJ p,N:=k,Text:=[],At:=0,Kids:=[u]}:ab),({Code:=0,At:=0}:aK)))
   (λk y hy=>by
    show(lC Pf) n ([u],⟨0,0⟩) u (k:Int)=_;have hkl:=(c8.1 hy).1;have d1:decide (k<u.ak.aj.Names.length)=true:=by simpa using hkl
    have d4:(y==n.Text)=(n.Text==y):=by rw[gx,beq_iff_eq,beq_iff_eq];exact eq_comm
    rw[H0,qa,du,bX,d1,bE,bW hy,aN,d4,cD k (by omega)];simp only[kx,aN])
   (by
    show(lC Pf) n ([u],⟨0,0⟩) u (u.ak.aj.Names.length:Int)=_;have d1:decide (u.ak.aj.Names.length<u.ak.aj.Names.length)=false:=by simp
    rw[H0,qa,du,bX,d1,cp,dB,aN])
  rw[vb _ _ (by omega),aN];rcases S with⟨hneg,hL⟩|⟨j,y,hj,hy,hty,hL⟩
  ·refine RR.aZ (λ_=>?_) (λh=>by simp at h;omega);have hL:(lC Pf) n ([u],⟨0,0⟩) u 0=_:=hL;rw[hL];exact F3
  ·have hL:(lC Pf) n ([u],⟨0,0⟩) u 0=_:=hL;rw[hL,hj];refine RR.aZ (λh=>by simp at h;omega) (λ_=>?_);obtain⟨p,hp⟩:=cn (l:=u.ak.aj.aB) (i:=j) (by rw[sA hl.1 hk];exact(c8.1 hy).1);refine RR.l (fM hp) (RR.l (of_eq p) (RR.r (fM hp) ?_));exact .inl ⟨_,_,rfl,rfl,rfl⟩
 ·obtain⟨x,y,hx⟩:=gg (l:=n.Kids) (by unfold dC at hs;omega);simp only[dh,cX,dB,kW,jo,aN,h,Int.reduceBEq,bE,cp,iK,l6,kF,jU];rw[hx]at hW ih⊢;refine RR.l (v:=x) rfl ?_;refine RR.r (v:=x) rfl ?_;rw[vZ,mE];simp only[iK,l6,kF,jU];refine RR.bind (ih x (by simp) _ (.inl rfl)) (λy1 u hh=>?_);obtain⟨rfl,hu⟩:=hh;refine RR.f rfl ?_;have bad:u.ak.aj.Kind≠5->((f199 Pf) [5] u.ak.aj.Kind)=some false:=λh=>by
   rw[kN _ _ (by simp)];have:(u.ak.aj.Kind==5)=false:=by simpa using h
   simp[this]
  have good:u.ak.aj.Kind=5->((f199 Pf) [5] u.ak.aj.Kind)=some true:=λh=>by
   rw[kN _ _ (by simp),h];rfl
  by_cases hk:u.ak.aj.Kind=5
  case neg=>
   refine RR.t (by simpa using hk) ?_;refine RR.aZ (λ_=>F4) (λ_=>RR.l (bad hk) ?_);exact F4
  refine RR.f (by simp[hk]) ?_;have hs0:u.ak.aS=0:=by
   by_cases h0:u.ak.aS=0
   ·exact h0
   ·have:=hu.2.1.nX h0;rw[hk]at this;cases this
  have hl:=hu.2.1.dI hs0;refine RR.aZ (λh0=>by simp[hs0]at h0) (λ_=>RR.l (good hk) ?_);refine RR.aZ (λh0=>by cases h0) (λ_=>?_);obtain⟨p,hp⟩:=qe hl.1 hk;refine RR.l (v:=y) rfl ?_;refine RR.r (v:=y) rfl ?_;have hp0:ax u.ak.aj.aB 0=some p:=by rw[hp];rfl
  refine RR.bind (ih y (by simp) _ s3) (λy1 v hh=>?_) (λa b z ha=>?_)
  ·obtain⟨rfl,hv⟩:=hh;refine RR.l hp0 (RR.l (of_eq p) (RR.r hp0 (RR.r (kx p) ?_)));exact .inl ⟨_,_,rfl,rfl,rfl⟩
  ·refine⟨⟨20,cJ p,0,[],0,[u,z]⟩,?_⟩;show(ax u.ak.aj.aB 0).bind _=_;rw[hp0,aN,kx];rfl
