/- describe against the reference's: pairs and records. -/
import Derived.Test.YtfgnmgbiijpkiaaGreatKQd
set_option linter.all false
namespace Go.Proofs.YtfgnmgbiijpkiaaGreat
open Go Go.Bw
section
variable {B:Nat} (hB:B<=1048576) (hB0:70000<=B)
include hB hB0
variable {c:fN} (hos:c.known.length<=B/\∀o∈c.known,o.ok B)
include hos
theorem aeK {n a b:ab} (hk:n.Kids=[a,b]) (iha:bf B c a) (ihb:bf B c b) {F:Int->List ah->Option (aX ah)}
  (hF:∀i s,F i s=bif decide (i<(↑(ab.rows n.Kids).length:Int))then((au n.Kids i).bind λx35=>(Bw.aA ((f117 Pf) c x35) λy37=>(bif decide (((s:List ah)++([y37]:List ah)).length<=274877906944)then(F (IntKind.i64.wrap (i+1)) (s++[y37]))else none)))else(some (.ret ({Kind:=7,Lo:=0,Hi:=0,Names:=[],ax:=s,aZ:=[]:ah})))):
  RR (DQ1 B) (F 0 []) ((o7 Pf) c.known n 0 [] aM.z):=by
 have l2:(↑(ab.rows n.Kids).length:Int)=2:=by rw[ab.aD,hk];rfl
 have g0:au n.Kids 0=some a:=by rw[hk];rfl
 have g1:au n.Kids 1=some b:=by rw[hk];rfl
 have w1:IntKind.i64.wrap ((0:Int)+1)=1:=by decide
 have w2:IntKind.i64.wrap ((1:Int)+1)=2:=by decide
 have d1:∀x:ah,decide (([]++[x]:List ah).length<=274877906944)=true:=λx=>by simp
 have d2:∀x y:ah,decide (([]++[x]++[y]:List ah).length<=274877906944)=true:=λx y=>by simp
 have r2:∀(ps:List ah) (f:aM),(o7 Pf) c.known n 2 ps f=some (⟨7,0,0,[],ps,[]⟩,f):=λps f=>by rw[aeg,n5];rfl
 have r1:∀(ps:List ah) (a b:Int),a≠0->(o7 Pf) c.known n 1 ps ⟨a,b⟩=some (⟨7,0,0,[],ps,[]⟩,⟨a,b⟩):=λps a b ha=>by
  rw[aeg,n5];have:((⟨a,b⟩:aM).Code==0)=false:=by simpa using ha
  rw[this];rfl
 rw[hF,aeg,n5,l2,g0];refine RR.bc (λ_=>RR.t (by decide) (RR.t rfl ?_)) (λh=>absurd h (by decide));rw[aw,aw];refine RR.bind iha (λy z e=>?_) (λa' b' z ha=>⟨⟨7,0,0,[],[]++[z],[]⟩,?_⟩)
 ·rw[e.1,d1,aV,aV,w1,hF,aeg,n5,l2,g1];refine RR.bc (λ_=>RR.t (by decide) (RR.t rfl ?_)) (λh=>absurd h (by decide));rw[aw,aw];refine RR.bind ihb (λy2 z2 e2=>?_) (λa' b' z ha=>⟨⟨7,0,0,[],[]++[y]++[z],[]⟩,?_⟩)
  ·rw[e2.1,d2,aV,aV,w2,r2,hF,l2];refine RR.bc (λh=>absurd h (by decide)) (λ_=>RR.ret ⟨rfl,k3 (by omega) (by omega) (by omega) aeh ⟨by simp;omega,by simp;exact⟨e.2,e2.2⟩⟩ b0⟩)
  ·rw[d2,aV,w2,r2]
 ·rw[d1,aV,w1];exact r1 _ _ _ ha
theorem agy {n a b:ab} (h:n.Kind=16) (hk:n.Kids=[a,b]) (iha:bf B c a) (ihb:bf B c b):bf B c n:=by
 unfold bf;rw[tw,ej,tQ,iu];refine RR.l (fst_eq _ (by rw[hk];simp)) ?_;rw[h]
 repeat(refine RR.f (by decide) ?_)
 refine RR.t (by decide) ?_;refine RR.bc (λ_=>?_) (λ_=>?_)
 ·repeat(refine RR.bc (λh=>absurd h (by decide)) (λ_=>?_))
  exact RR.bc (λ_=>aeK hB hB0 hos hk iha ihb (F:=(adN Pf) c n) (λi s=>af3 ..)) (λh=>absurd h (by decide))
 ·repeat(refine RR.bc (λh=>absurd h (by decide)) (λ_=>?_))
  exact RR.bc (λ_=>aeK hB hB0 hos hk iha ihb (F:=(adQ Pf) c n) (λi s=>af6 ..)) (λh=>absurd h (by decide))
theorem aeL {n:ab} (hl:n.Kids.length<=70000) (hn:∀e∈n.Kids,e.Kind=22/\NV e.Text/\e.Kids.length=1) (ih:∀e∈n.Kids,∀k∈e.Kids,bf B c k) {F:Int->List (List UInt8)->List ah->Option (aX ah)}
  (hF:∀i s p,F i s p=bif decide (i<(↑(ab.rows n.Kids).length:Int))then((au n.Kids i).bind λx48=>(((f81 Pf) s x48.Text).bind λy50=>(bif y50 then(Bw.aA ((f80 Pf) 3 x48.At) λ_=>none)else(bif decide (((s:List (List UInt8))++([x48.Text]:List (List UInt8))).length<=274877906944)then((au x48.Kids 0).bind λx54=>(Bw.aA ((f117 Pf) c x54) λy56=>(bif decide (((p:List ah)++([y56]:List ah)).length<=274877906944)then(F (IntKind.i64.wrap (i+1)) (s++[x48.Text]) (p++[y56]))else none)))else none))))else(some (.ret ({Kind:=6,Lo:=0,Hi:=0,Names:=s,ax:=p,aZ:=[]:ah})))):
  ∀(m i:Nat) (s:List (List UInt8)) (p:List ah),i+m=n.Kids.length->s=ox (n.Kids.take i)->p.length=i->(∀l∈p,l.ok B)->RR (DQ1 B) (F i s p) ((adF Pf) c.known n i s p aM.z):=by
 have stop:∀(i:Nat) s p a b,a≠0->(adF Pf) c.known n (i:Int) s p ⟨a,b⟩=some (⟨6,0,0,s,p,[]⟩,⟨a,b⟩):=λi s p a b ha=>by
  rw[aep,s6];have:((⟨a,b⟩:aM).Code==0)=false:=by simpa using ha
  rw[this,bp];cases decide ((i:Int)<(↑(ab.rows n.Kids).length:Int))<;>rfl
 intro m
 induction m with
 |zero=>
  intro i s p hi hs hp hok;have:i=n.Kids.length:=by omega
  subst this;rw[jW]at hs;rw[hF,aep,s6,ab.aD,aY];have:decide (n.Kids.length<n.Kids.length)=false:=by simp
  rw[this,bp,bp];refine RR.ret ⟨rfl,k3 (by omega) (by omega) (by omega) ⟨by rw[hs];simp;omega,λy hy=>?_⟩ ⟨by omega,hok⟩ b0⟩;rw[hs]at hy;obtain⟨q,hq,rfl⟩:=cP.1 hy;have:=(hn q hq).2.1.1;omega
 |succ m im=>
  intro i s p hi hs hp hok;obtain⟨x,hx⟩:=bh (l:=n.Kids) (i:=i) (by omega);have hxm:=bw hx;have hsl:s.length<=70000:=by rw[hs];simp;omega
  obtain⟨k,hkk⟩:=List.length_eq_one_iff.1 (hn x hxm).2.2;have g0:au x.Kids 0=some k:=by rw[hkk];rfl
  have hg:decide ((s++[x.Text]).length<=274877906944)=true:=by simp;omega
  have hg2:∀y:ah,decide ((p++[y]).length<=274877906944)=true:=λy=>by simp;omega
  rw[hF,aep,s6,ab.aD,aY];have:decide (i<n.Kids.length)=true:=by simp;omega
  rw[this,aV,aV,bj hx,aw,aw];refine RR.t rfl ?_;refine RR.l (has_eq _ _ (by omega)) (RR.r (Ek _ _ (by omega)) ?_);rw[aeM];refine RR.bc (λh=>RR.t h ?_) (λh=>RR.f h ?_)
  ·rw[aw];exact RR.fail
  ·rw[hg,aV,g0,aw,aw,g0,aw,bP i (by omega)];refine RR.bind (ih x hxm k (by rw[hkk];simp)) (λy z e=>?_) (λa b z ha=>⟨⟨6,0,0,s++[x.Text],p++[z],[]⟩,?_⟩)
   ·rw[e.1,hg2,aV,aw,hg,aV,aV];refine im (i+1) _ _ (by omega) (by rw[hs,<-lK hx];simp) (by simp;omega) (λl hl=>?_);rcases cJ.1 hl with h|h
    ·exact hok l h
    ·simp at h;exact h▸e.2
   ·rw[aw,hg,aV,hg2,aV];exact stop (i+1) _ _ a b ha
theorem agz {n:ab} (h:n.Kind=15) (hl:n.Kids.length<=70000) (hn:∀e∈n.Kids,e.Kind=22/\NV e.Text/\e.Kids.length=1) (ih:∀e∈n.Kids,∀k∈e.Kids,bf B c k):bf B c n:=by
 unfold bf;rw[tw,ej,tQ,iu];refine RR.l (fst_eq _ (by omega)) ?_;rw[h]
 repeat(refine RR.f (by decide) ?_)
 refine RR.t (by decide) ?_;refine RR.bc (λ_=>?_) (λ_=>?_)
 ·repeat(refine RR.bc (λh=>absurd h (by decide)) (λ_=>?_))
  exact RR.bc (λ_=>aeL hB hB0 hos hl hn ih (F:=(adO Pf) c n) (λi s p=>af4 ..) n.Kids.length 0 [] [] (by omega) rfl rfl (λl hl=>by cases hl)) (λh=>absurd h (by decide))
 ·repeat(refine RR.bc (λh=>absurd h (by decide)) (λ_=>?_))
  exact RR.bc (λ_=>aeL hB hB0 hos hl hn ih (F:=(adR Pf) c n) (λi s p=>af7 ..) n.Kids.length 0 [] [] (by omega) rfl rfl (λl hl=>by cases hl)) (λh=>absurd h (by decide))
end
section
variable {B:Nat} (hB:B<=1048576) (hB0:70000<=B)
include hB hB0
theorem af0 {n:ab} {qs cs:List ab} {ns:List (List UInt8)} (hns:ad2 B ns) (hk:n.Kids=qs++cs) (hl:n.Kids.length<=70000) (hc:∀e∈cs,Clqq e) (hcl:∀e∈n.Kids,e.Kids.length<=70000) {F:Int->List aU->Option (aX ah)} {G:Int->List aU->aM->Option (ah×aM)}
  (hF:∀i s,F i s=bif decide (i<(↑(ab.rows cs).length:Int))then((au cs i).bind λx72=>((iV x72.Kids 0 (IntKind.i64.wrap ((↑(ab.rows x72.Kids).length:Int)-1))).bind λx74=>((au x72.Kids (IntKind.i64.wrap ((↑(ab.rows x72.Kids).length:Int)-1))).bind λx76=>(Bw.aA ((f177 Pf) x74) λy78=>(bif decide (((s:List aU)++([{If:=y78,eP:=x76.Text:aU}]:List aU)).length<=274877906944)then(F (IntKind.i64.wrap (i+1)) (s++[{If:=y78,eP:=x76.Text:aU}]))else none)))))else(some (.ret ({Kind:=10,Lo:=0,Hi:=0,Names:=ns,ax:=[],aZ:=s:ah}))))
  (hG:∀i s f,G i s f=bif decide (i<(↑(ab.rows n.Kids).length:Int))then(bif f.Code==0 then((au n.Kids i).bind λx95=>((au n.Kids i).bind λx97=>((iV x97.Kids 0 (IntKind.i64.wrap ((↑(ab.rows x95.Kids).length:Int)-1))).bind λx99=>(((f118 Pf) x99).bind λy101=>((au n.Kids i).bind λx102=>((au x102.Kids (IntKind.i64.wrap ((↑(ab.rows x95.Kids).length:Int)-1))).bind λx104=>(bif decide (((s:List aU)++([{If:=y101.fst,eP:=x104.Text:aU}]:List aU)).length<=274877906944)then(G (IntKind.i64.wrap (i+1)) (s++[{If:=y101.fst,eP:=x104.Text:aU}]) y101.snd)else none)))))))else(some (({Kind:=10,Lo:=0,Hi:=0,Names:=ns,ax:=[],aZ:=s:ah},f))))else(some (({Kind:=10,Lo:=0,Hi:=0,Names:=ns,ax:=[],aZ:=s:ah},f)))):
  ∀(m i:Nat) (s:List aU),i+m=cs.length->s.length=i->(∀r∈s,r.ok B)->RR (DQ1 B) (F i s) (G ((qs.length+i:Nat):Int) s aM.z):=by
 have hlen:n.Kids.length=qs.length+cs.length:=by rw[hk];simp
 have stop:∀(i:Nat) s a b,a≠0->G (i:Int) s ⟨a,b⟩=some (⟨10,0,0,ns,[],s⟩,⟨a,b⟩):=λi s a b ha=>by
  rw[hG];have:((⟨a,b⟩:aM).Code==0)=false:=by simpa using ha
  rw[this,bp];cases decide ((i:Int)<(↑(ab.rows n.Kids).length:Int))<;>rfl
 intro m
 induction m with
 |zero=>
  intro i s hi hs hok;have:i=cs.length:=by omega
  subst this;rw[hF,hG,ab.aD,ab.aD,<-hlen,aY,aY];have d1:decide (cs.length<cs.length)=false:=by simp
  have d2:decide (n.Kids.length<n.Kids.length)=false:=by simp
  rw[d1,d2,bp,bp];exact RR.ret ⟨rfl,k3 (by omega) (by omega) (by omega) hns b0 ⟨by omega,hok⟩⟩
 |succ m im=>
  intro i s hi hs hok;obtain⟨x,hx⟩:=bh (l:=cs) (i:=i) (by omega);have hxm:=bw hx;have hx2:n.Kids[qs.length+i]? =some x:=by rw[hk,B' (by omega)];simpa using hx
  obtain⟨_,qs',q,hkk,hq',hq⟩:=hc x hxm;have hxl:=hcl x (by rw[hk];simp[hxm]);have hq'l:qs'.length<=70000:=by rw[hkk]at hxl;simp at hxl;omega
  have w:IntKind.i64.wrap ((↑(ab.rows x.Kids).length:Int)-1)=(qs'.length:Int):=by rw[ab.aD,hkk,wrap64 (by first|(simp;done)|(simp;omega)) (by first|(simp;done)|(simp;omega))];simp
  have g1:au x.Kids (qs'.length:Int)=some q:=bj (by rw[hkk];simp);have g2:iV x.Kids 0 (qs'.length:Int)=some qs':=by rw[tc (by rw[hkk];simp),hkk];simp
  have hg:∀r:aU,decide ((s++[r]).length<=274877906944)=true:=λr=>by simp;omega
  rw[hF,hG,ab.aD,ab.aD,aY,aY];have d1:decide (i<cs.length)=true:=by simp;omega
  have d2:decide (qs.length+i<n.Kids.length)=true:=by simp;omega
  rw[d1,d2,aV,aV,bj hx,bj hx2];simp only[aw];rw[w,g2,g1];simp only[aw];refine RR.t rfl ?_;refine RR.bind (ad6 hq'l) (λy z e=>?_) (λa b z ha=>⟨⟨10,0,0,ns,[],s++[⟨z,q.Text⟩]⟩,?_⟩)
  ·rw[e.1,hg,aV,aV,bP i (by omega),bP (qs.length+i) (by omega)];refine im (i+1) _ (by omega) (by simp;omega) (λr hr=>?_);rcases cJ.1 hr with h|h
   ·exact hok r h
   ·simp at h;subst h;refine⟨?_,?_⟩
    ·show ad2 B y;rw[e.2];exact aef hB0 hq' hq'l
    ·show q.Text.length<=B;have:=hq.2.1;omega
  ·rw[hg,aV,bP (qs.length+i) (by omega)];exact stop (qs.length+i+1) _ a b ha
variable {c:fN} (hos:c.known.length<=B/\∀o∈c.known,o.ok B)
include hos
theorem agt {n : ab} (h : n.Kind = 19) (hcq : CQ n.Kids) (hl : n.Kids.length ≤ 70000) (hcl : ∀ e ∈ n.Kids, e.Kids.length ≤ 70000) : bf B c n := by
  obtain ⟨qs, cs, hk, hq, hc⟩ := hcq
  have hlen : n.Kids.length = qs.length + cs.length := by rw [hk]; simp
  have hql : qs.length ≤ 70000 := by omega
  have qr := ad6 hql
  have qoqq := aef hB0 hq hql
  have l4qq : ∀ m i : Nat, i + m = qs.length → (s7 Pf) n (i : Int) = (s7 Pf) n (qs.length : Int) := by
    intro m
    induction m with
    | zero => intro i hi; have : i = qs.length := by omega
              rw [this]
    | succ m im =>
      intro i hi
      obtain ⟨x, hx⟩ := bh (l := qs) (i := i) (by omega)
      have hx2 : n.Kids[i]? = some x := by rw [hk, rY (by omega)]; exact hx
      rw [afe, adG, ab.aD, aY]
      have d1 : decide (i < n.Kids.length) = true := by simp; omega
      have d2 : (x.Kind == 47) = true := by rw [(hq x (bw hx)).1]; rfl
      rw [d1, aV, bj hx2, aw, d2, aV, bP i (by omega)]
      exact im (i + 1) (by omega)
  have l40 := l4qq qs.length 0 (by omega)
  have l40 : (s7 Pf) n 0 = _ := l40
  have g2 : iV n.Kids 0 (qs.length : Int) = some qs := by rw [tc (by omega), hk]; simp
  unfold bf
  rw [tw, ej, tQ, iu]
  refine RR.l (fst_eq _ (by omega)) ?_
  rw [h, l40]
  repeat (refine RR.f (by decide) ?_)
  refine RR.t (by decide) ?_
  rw [afe, adG, ab.aD, aY]
  have hi := aei (fun k : ab => k.Kind != 47) qs cs 0 (aeD hq)
  have e0 : (((0 : Nat) : Int)) = 0 := rfl
  rw [e0, ← hk] at hi
  rw [hi]
  cases cs with
  | nil =>
    have hkq : n.Kids = qs := by rw [hk]; simp
    have d1 : decide (qs.length < n.Kids.length) = false := by rw [hkq]; simp
    rw [d1, bp, idxOf]
    refine RR.bc (fun _ => ?_) (fun h => absurd h (by decide))
    repeat (refine RR.bc (fun h => absurd h (by decide)) (fun _ => ?_))
    refine RR.bc (fun _ => ?_) (fun h => absurd h (by decide))
    have g3 : iV n.Kids (n.Kids.length : Int) (n.Kids.length : Int) = some [] := by rw [adL (bQ _) (bQ _)]; simp
    have g4 : iV n.Kids 0 (n.Kids.length : Int) = some qs := by rw [tc (bQ _), jW, hkq]
    rw [g2, g4, g3, aw, aw]
    have hL6 : ∀ (y : List (List UInt8) × aM) (f : aM), (adY Pf) n y (qs.length : Int) [] f = some (⟨10, 0, 0, y.1, [], []⟩, f) := fun y f => by
      rw [agf, adZ, ab.aD, aY, d1]; rfl
    refine RR.bind qr (fun y z e => ?_) (fun a b z ha => ⟨⟨10, 0, 0, z, [], []⟩, hL6 _ _⟩)
    rw [e.1, e.2, hL6, aw, af5, adP]
    exact RR.bc (fun h => absurd h (by rw [ab.aD]; simp)) (fun _ => RR.ret ⟨rfl, k3 (by omega) (by omega) (by omega) qoqq b0 b0⟩)
  | cons x cs =>
    have hx47 : (x.Kind != 47) = true := by rw [(hc x (by simp)).1]; rfl
    have hx2 : n.Kids[qs.length]? = some x := by rw [hk]; simp
    have d1 : decide (qs.length < n.Kids.length) = true := by rw [hlen]; simp
    have d2 : (x.Kind == 47) = false := by rw [(hc x (by simp)).1]; rfl
    rw [d1, aV, bj hx2, aw, d2, bp, idxOf, hx47, aV, oS]
    refine RR.bc (fun h => by simp at h; omega) (fun _ => ?_)
    repeat (refine RR.bc (fun h => absurd h (by decide)) (fun _ => ?_))
    refine RR.bc (fun _ => ?_) (fun h => absurd h (by decide))
    have g3 : iV n.Kids (qs.length : Int) (n.Kids.length : Int) = some (x :: cs) := by rw [adL (by omega) (bQ _), jW, hk]; simp
    rw [g2, g3, aw, aw]
    refine RR.bind qr (fun y z e => ?_) (fun a b z ha => ⟨⟨10, 0, 0, z, [], []⟩, ?_⟩)
    · rw [e.1, e.2, aw]
      exact af0 hB hB0 qoqq hk hl hc hcl (F := (adS Pf) (fR (ox qs)) (x :: cs)) (G := (adW Pf) n (fR (ox qs), ⟨0, 0⟩)) (fun i s => af8 ..) (fun i s f => afd ..) (x :: cs).length 0 [] (by omega) rfl (fun r hr => by cases hr)
    · have : ((⟨a, b⟩ : aM).Code == 0) = false := by simpa using ha
      rw [afd, adX, this, bp]
      cases decide ((qs.length : Int) < (↑(ab.rows n.Kids).length : Int)) <;> rfl
theorem afZ {n:ab} (h:LNqq n):bf B c n:=by
 induction h with
 |leaf h hk=>exact ago hB hB0 hos h (by rw[hk];simp)
 |num h hk hb=>exact agu hB hB0 hos h hk hb
 |quo h hq hl=>exact agv hB hB0 hos h hq hl
 |map h hk hq hl hn ih=>exact agw hB hB0 hos h hk hq hl hn.agx ih
 |lex h hk ha hb iha ihb=>exact agy hB hB0 hos h hk iha ihb
 |rc h hl hn hk ih=>exact agz hB hB0 hos h hl hn ih
 |clo h hq hl hcl=>exact agt hB hB0 hos h hq hl hcl
