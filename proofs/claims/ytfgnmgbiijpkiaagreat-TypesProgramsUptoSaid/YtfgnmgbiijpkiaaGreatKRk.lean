/- The elaborator against the reference's: calls, all expressions. -/
import Derived.Test.YtfgnmgbiijpkiaaGreatKRb
import Derived.Test.YtfgnmgbiijpkiaaGreatKVa9
set_option linter.all false
namespace Go.Proofs.YtfgnmgbiijpkiaaGreat
open Go Go.Bw
section
variable {B:Nat} (hB:B<=1048576) {c:bO} (hc:CE B c)
def kx:List (List UInt8):=[[102,108,97,103],[110,117,109],[115,101,116],dC,dg,[112,97,105,114],[111,110,101],[119,114,105,116,101],[115,105,122,101],[115,117,109],[110,117,109,98,101,114],[111,110],[107,101,121,115],[118,97,108,117,101,115],[99,111,110,102,108,105,99,116],[115,101,99,111,110,100],[102,105,114,115,116]]
inductive CN:ab->Prop
 |mk {n:ab}:(n.Kind=51->n.Text∈kx)->(∀k∈fh n,CN k)->CN n
theorem WL (hc:CE B c) (hB:B<=1048576) {n:ab}:RR EQ (((vj Pf) c.params n).bind λy=>bif decide (y<0)then(Bw.aA ((f80 Pf) 3 n.At) λ_=>none)else(au c.params y).bind λx=>((f113 Pf) x.aP).bind λt=>some (.ret (⟨4,t,y,[],0,[]⟩:ae))) ((qP Pf) (sc c) n 0):=by
 have hn:=hc.num;rw[E7 _ _ (by omega),aw];have key:∀m i:Nat,i+m=c.params.length->(∀(k:Nat) p,k<i->c.params[k]? =some p->(p.Name==n.Text)=false)->∃q,(qP Pf) (sc c) n (i:Int)=q/\RR EQ (bif decide (idxOf (λp:TParam=>p.Name==n.Text) c.params 0<0)then(Bw.aA ((f80 Pf) 3 n.At) λ_=>none)else(au c.params (idxOf (λp:TParam=>p.Name==n.Text) c.params 0)).bind λx=>((f113 Pf) x.aP).bind λt=>some (.ret (⟨4,t,idxOf (λp:TParam=>p.Name==n.Text) c.params 0,[],0,[]⟩:ae))) q:=by
  intro m
  induction m with
  |zero=>
   intro i hi hp;refine⟨_,rfl,?_⟩;rw[Es,qQ,TParam.aD];show RR EQ _ (bif decide ((i:Int)<(c.params.length:Int))then _ else _);rw[aY];have:decide (i<c.params.length)=false:=by simp;omega
   rw[this,bp,dR,aw];refine RR.bc (λ_=>?_) (λh=>?_)
   ·rw[lq,iL];exact .inr ⟨3,n.At,_,by decide,rfl,rfl⟩
   ·obtain⟨j,x,hj,hx,hx2⟩:=yn (by simpa using h);rw[hp j x (by have:=(cr.1 hx).1;omega) hx]at hx2;cases hx2
  |succ m im=>
   intro i hi hp;have hil:i<c.params.length:=by omega
   obtain⟨x,hx⟩:=bh hil;have hx':au (sc c).Params (i:Int)=some x:=bj hx;cases hxt:x.Name==n.Text with
   |false=>
    obtain⟨q,e,h⟩:=im (i+1) (by omega) (λk p hk hkp=>by
     by_cases e:k=i
     ·subst e;rw[hx]at hkp;cases hkp;exact hxt
     ·exact hp k p (by omega) hkp)
    refine⟨q,?_,h⟩;rw[Es,qQ,TParam.aD];show(bif decide ((i:Int)<(c.params.length:Int))then _ else _)=_;rw[aY];have:decide (i<c.params.length)=true:=by simpa using hil
    rw[this,aV,hx',aw,hxt,bp,bP i (by omega)];exact e
   |true=>
    refine⟨_,rfl,?_⟩;have hidx:idxOf (λp:TParam=>p.Name==n.Text) c.params 0=(i:Int):=by
     rcases qk (λp:TParam=>p.Name==n.Text) c.params 0 with⟨_,h2⟩|⟨j,z,h1,h2,h3,h4⟩
     ·have:=h2 x (bw hx);rw[hxt]at this;cases this
     ·have:j=i:=by
       rcases JH j i with h|h|h
       ·rw[hp j z h h2]at h3;cases h3
       ·exact h
       ·have:=h4 i x h hx;rw[hxt]at this;cases this
      subst this;have h1:idxOf (λp:TParam=>p.Name==n.Text) c.params 0=((0+j:Nat):Int):=h1;rw[h1];simp
    rw[hidx,Es,qQ,TParam.aD];show RR EQ _ (bif decide ((i:Int)<(c.params.length:Int))then _ else _);rw[aY];have:decide (i<c.params.length)=true:=by simpa using hil
    rw[this,aV,hx',aw,hxt,aV,aw,cY,aw];refine RR.bc (λh=>by simp at h;omega) (λ_=>RR.l (er hx) (RR.l (bC _) ?_));exact .inl ⟨_,_,rfl,rfl,rfl⟩
 obtain⟨q,e,h⟩:=key c.params.length 0 (by omega) (λk p hk=>by omega);have e:(qP Pf) (sc c) n 0=q:=e;rw[e];exact h
theorem YF (hc:CE B c) (hB:B<=1048576) {n:ab} {w:az} (hw:bY B w) (h:WN B n) (ih:∀k∈fh n,RE B c k) (hcall:n.Kind=51->RR EQ ((f159 Pf) c n w) ((f164 Pf) (sc c) n w)):RR EQ ((f91 Pf) c n w) ((f94 Pf) (sc c) n w):=by
 have s1:bY B (aL 1):= .inr (bq.sort (by simp));have s2:bY B (aL 2):= .inr (bq.sort (by simp));have s3:bY B (aL 3):= .inr (bq.sort (by simp));have s4:bY B (aL 4):= .inr (bq.sort (by simp));obtain⟨hs,hk⟩:dJ n/\∀k∈fh n,WN B k:=by cases h;exact⟨by assumption,by assumption⟩
 have cz:=λ(h51:n.Kind≠51) hk'=>U5 (n:=n) (w:=w) hw hB hs hk' (by rw[<-nb h51];exact hk) (by rw[<-nb h51];exact ih);have hK:n.Kind=30\/n.Kind=31\/n.Kind=32\/n.Kind=33\/n.Kind=34\/n.Kind=35\/n.Kind=36\/n.Kind=37\/n.Kind=38\/n.Kind=39\/n.Kind=40\/n.Kind=41\/n.Kind=42\/n.Kind=43\/n.Kind=44\/n.Kind=45\/n.Kind=46\/n.Kind=47\/n.Kind=48\/n.Kind=49\/n.Kind=50\/n.Kind=51:=by
  unfold dJ at hs;omega
 have two:∀{op:Int} {a b t:az},31<=n.Kind/\n.Kind<=43/\n.Kind≠33/\n.Kind≠42->bY B a->bY B b->RR EQ (Bw.aA ((f158 Pf) c op n a b t) λy=>some (.ret y)) (((f163 Pf) (sc c) n.Kids [a,b]).bind λy=>some ((⟨op,t,0,[],0,y.fst⟩:ae),y.snd)):=by
  intro op a b t hkk ha hb;obtain⟨x,y,hx⟩:=gC (l:=n.Kids) (by unfold dJ at hs;omega);rw[nb (by omega),hx]at ih;exact Mc hx (ih x (by simp)) (ih y (by simp)) ha hb (λu v _ _=> .inl ⟨_,_,rfl,rfl,rfl⟩)
 have op:n.Kind≠51->(n.Kind=30\/n.Kind=36\/n.Kind=38\/n.Kind=39\/n.Kind=42\/n.Kind=43)->RR EQ ((f91 Pf) c n w) ((f94 Pf) (sc c) n w):=λh51 hk'=>by
  have:=cz h51 hk';rw[eA,dN];rcases hk' with h|h|h|h|h|h<;>simpa only[bC,aw,h,Int.reduceBEq,aV,bp]using this
 rcases hK with h|h|h|h|h|h|h|h|h|h|h|h|h|h|h|h|h|h|h|h|h|h
 all_goals first|exact op (by omega) (by omega)|skip
 all_goals rw[eA,dN,TW,uX]
 all_goals simp only[bC,of_eq,cY,lA,dR,pP,fD,aw,h,Int.reduceBEq,aV,bp]
 all_goals first|exact two (by omega) s2 s2|skip
 all_goals first|exact two (by omega) s1 s1|skip
 all_goals first|exact two (by omega) s3 s4|skip
 all_goals first|exact .inl ⟨_,_,rfl,rfl,rfl⟩|skip
 ·obtain⟨x,hx⟩:=iZ (l:=n.Kids) (by unfold dJ at hs;omega);rw[nb (by omega),hx]at ih;rw[hx];refine RR.l (v:=x) rfl ?_;exact wI (ih x (by simp)) s2 (λu _=> .inl ⟨_,_,rfl,rfl,rfl⟩)
 ·have:=WL hc hB (n:=n);simpa only[bC,aw]using this
 ·have F4:∀{z:ae},RR (EQ (D:=ae)) (Bw.aA ((f80 Pf) 4 n.At) λ_=>none) (some (z,⟨4,n.At⟩)):=λ{z}=>by
   rw[lq,iL];exact .inr ⟨4,n.At,z,by decide,rfl,rfl⟩
  rcases hw with rfl|hw'
  ·exact F4
  ·refine RR.bc (λh0=>RR.t ?_ F4) (λh0=>?_)
   ·rw[hw'.rh (by simpa using h0)];rfl
   ·have:=(hw'.dy (by simpa using h0)).1.kind;rw[hw'.lY];exact RR.f (by simp;omega) (.inl ⟨_,_,rfl,rfl,rfl⟩)
 ·refine RR.bind (hcall h) (λy z e=>?_);cases e;exact .inl ⟨_,_,rfl,rfl,rfl⟩
theorem qo {ks:List Int} {w:az} {n:ab} {γ δ:Type} {Q':γ->δ->Prop} (hw:bY B w) (hk:ks.length<9223372036854775807) (h0:(0:Int)∉ks) {f:Unit->Option (aX γ)} {q:Option (δ×aM)}
  (h1:w.aP=0->w.aj.Kind∈ks->RR Q' (f ()) q) (h2:w.aj.Kind∉ks->∃z,q=some (z,⟨4,n.At⟩)):RR Q' (Bw.cx ((f198 Pf) ks w n) f) q:=by
 have bad:w.aj.Kind∉ks->RR Q' (Bw.cx (Bw.aA ((f80 Pf) 4 n.At) λ_=>(none:Option (aX Unit))) f) q:=λh=>by
  obtain⟨z,e⟩:=h2 h;rw[lq,iL,e];exact .inr ⟨4,n.At,z,by decide,rfl,rfl⟩
 rw[GK,rn];cases hs:w.aP !=0 with
 |true=>
  refine bad ?_;rcases hw with rfl|hw
  ·exact h0
  ·rw[hw.rh (by simpa using hs)];exact h0
 |false=>
  rw[bp,kq ks _ hk,aw];by_cases hm:w.aj.Kind∈ks
  ·have:(ks.any λy=>w.aj.Kind==y)=true:=ka.2 ⟨_,hm,by simp⟩;rw[this];exact h1 (by simpa using hs) hm
  ·have:(ks.any λy=>w.aj.Kind==y)=false:=by
    rw[va];intro y hy e;have e:w.aj.Kind=y:=by simpa using e
    exact hm (by rw[e];exact hy)
   rw[this];exact bad hm
end
theorem dz (ks:List ae) (h:ks.length<=3):decide (ks.length<=274877906944)=true:=by simp;omega
section
variable {B:Nat} (hB:B<=1048576) {c:bO}
theorem Xy {n : ab} {w : az} (hw : bY B w) (h51 : n.Kind = 51) (e : n.Text = [102, 108, 97, 103]) (ih : ∀ k ∈ n.Kids, RE B c k) : RR EQ ((f159 Pf) c n w) ((f164 Pf) (sc c) n w) := by
  have b0 : ∀ x : Option (ae × aM), (x.bind fun y => some y) = x := by intro x; cases x <;> rfl
  have ha : (f197 Pf) [102, 108, 97, 103] = some 1 := by rw [eu, dL]; rfl
  have hq : (f210 Pf) [102, 108, 97, 103] (n.Kids.length : Int) = some ((n.Kids.length : Int) == 1) := by rw [oo, kB]; rfl
  rw [ew, dM, ou, kC, e, ab.aD]
  refine RR.l ha (RR.r hq ?_)
  refine RR.bc (fun _ => ?_) (fun h => absurd h (by decide))
  refine RR.bc (fun h => RR.t ?_ RR.fail) (fun h => RR.f ?_ ?_)
  · have : (n.Kids.length : Int) ≠ 1 := fun h2 => by rw [h2] at h; simp at h
    simpa using this
  · have : (1 : Int) = (n.Kids.length : Int) := by simpa using h
    rw [← this]; rfl
  · have hl : n.Kids.length = 1 := by have : (1 : Int) = (n.Kids.length : Int) := by simpa using h
                                      omega
    obtain ⟨x, hx⟩ := iZ hl
    have ho : (f209 Pf) n = some true := by rw [nw, jJ, h51, e]; rfl
    have hcon : (f211 Pf) (sc c) n w = bif !(w.aj.Kind == 1) then some ((⟨0, w, 0, [], 0, []⟩ : ae), ⟨4, n.At⟩) else ((f163 Pf) (sc c) n.Kids [aL 2]).bind fun y => some ((⟨21, w, 0, [], 0, y.fst⟩ : ae), y.snd) := by rw [rB, me, e]; simp only [dR, cY, aw]; rfl
    refine RR.r ho (RR.t rfl ?_)
    rw [b0, hcon]
    refine RR.bc (fun _ => ?_) (fun h => absurd h (by decide))
    refine qo hw (by simp) (by simp) (fun hs0 hk => ?_) (fun hk => ?_)
    · have step : RR EQ ((au n.Kids 0).bind fun x => ((f113 Pf) 2).bind fun t => Bw.aA ((f48 Pf) c x t) fun y => bif decide (([ae.z] : List ae).length ≤ 274877906944) then (au [ae.z] 0).bind fun _ => some (.ret (⟨21, w, 0, [], 0, [ae.z].set (Int.toNat 0) y⟩ : ae)) else none) (((f163 Pf) (sc c) n.Kids [aL 2]).bind fun y => some ((⟨21, w, 0, [], 0, y.fst⟩ : ae), y.snd)) := by
        rw [hx]
        refine RR.l (v := x) rfl (RR.l (bC 2) ?_)
        exact wI (ih x (by rw [hx]; simp)) (.inr (bq.sort (by simp))) (fun u _ => .inl ⟨_, _, rfl, rfl, rfl⟩)
      refine RR.f (by simp at hk; rw [hk]; rfl) ?_
      exact step
    · exact ⟨_, by have : (w.aj.Kind == 1) = false := by simpa using hk
                   rw [this]; rfl⟩
theorem YD {n : ab} {w : az} (hw : bY B w) (h51 : n.Kind = 51) (e : n.Text = [110, 117, 109]) (ih : ∀ k ∈ n.Kids, RE B c k) : RR EQ ((f159 Pf) c n w) ((f164 Pf) (sc c) n w) := by
  have b0 : ∀ x : Option (ae × aM), (x.bind fun y => some y) = x := by intro x; cases x <;> rfl
  have ha : (f197 Pf) [110, 117, 109] = some 1 := by rw [eu, dL]; rfl
  have hq : (f210 Pf) [110, 117, 109] (n.Kids.length : Int) = some ((n.Kids.length : Int) == 1) := by rw [oo, kB]; rfl
  rw [ew, dM, ou, kC, e, ab.aD]
  refine RR.l ha (RR.r hq ?_)
  refine RR.bc (fun _ => ?_) (fun h => absurd h (by decide))
  refine RR.bc (fun h => RR.t ?_ RR.fail) (fun h => RR.f ?_ ?_)
  · have : (n.Kids.length : Int) ≠ 1 := fun h2 => by rw [h2] at h; simp at h
    simpa using this
  · have : (1 : Int) = (n.Kids.length : Int) := by simpa using h
    rw [← this]; rfl
  · have hl : n.Kids.length = 1 := by have : (1 : Int) = (n.Kids.length : Int) := by simpa using h
                                      omega
    obtain ⟨x, hx⟩ := iZ hl
    have ho : (f209 Pf) n = some true := by rw [nw, jJ, h51, e]; rfl
    have hcon : (f211 Pf) (sc c) n w = bif w.aj.Kind == 2 then ((f163 Pf) (sc c) n.Kids [aL 1]).bind fun y => some ((⟨22, w, 0, [], 0, y.fst⟩ : ae), y.snd) else bif !(w.aj.Kind == 3) then some ((⟨0, w, 0, [], 0, []⟩ : ae), ⟨4, n.At⟩) else ((f163 Pf) (sc c) n.Kids [aL 1]).bind fun y => some ((⟨22, w, 0, [], 0, y.fst⟩ : ae), y.snd) := by rw [rB, me, e]; simp only [dR, cY, aw]; rfl
    refine RR.r ho (RR.t rfl ?_)
    rw [b0, hcon]
    refine RR.bc (fun h => absurd h (by decide)) (fun _ => RR.bc (fun _ => ?_) (fun h => absurd h (by decide)))
    refine qo hw (by simp) (by simp) (fun hs0 hk => ?_) (fun hk => ?_)
    · have step : RR EQ ((au n.Kids 0).bind fun x => ((f113 Pf) 1).bind fun t => Bw.aA ((f48 Pf) c x t) fun y => bif decide (([ae.z] : List ae).length ≤ 274877906944) then (au [ae.z] 0).bind fun _ => some (.ret (⟨22, w, 0, [], 0, [ae.z].set (Int.toNat 0) y⟩ : ae)) else none) (((f163 Pf) (sc c) n.Kids [aL 1]).bind fun y => some ((⟨22, w, 0, [], 0, y.fst⟩ : ae), y.snd)) := by
        rw [hx]
        refine RR.l (v := x) rfl (RR.l (bC 1) ?_)
        exact wI (ih x (by rw [hx]; simp)) (.inr (bq.sort (by simp))) (fun u _ => .inl ⟨_, _, rfl, rfl, rfl⟩)
      simp only [cm, fM, or_false] at hk
      by_cases h2 : w.aj.Kind = 2
      · exact RR.t (by rw [h2]; rfl) step
      · exact RR.f (by simpa using h2) (RR.f (by have : w.aj.Kind = 3 := by omega
                                                 rw [this]; rfl) step)
    · simp at hk
      have h1 : (w.aj.Kind == 2) = false := by simpa using hk.1
      have h2 : (w.aj.Kind == 3) = false := by simpa using hk.2
      exact ⟨_, by rw [h1, h2]; rfl⟩
theorem YE {n : ab} {w : az} (hw : bY B w) (h51 : n.Kind = 51) (e : n.Text = [111, 110, 101]) (ih : ∀ k ∈ n.Kids, RE B c k) : RR EQ ((f159 Pf) c n w) ((f164 Pf) (sc c) n w) := by
  have b0 : ∀ x : Option (ae × aM), (x.bind fun y => some y) = x := by intro x; cases x <;> rfl
  have ha : (f197 Pf) [111, 110, 101] = some 1 := by rw [eu, dL]; rfl
  have hq : (f210 Pf) [111, 110, 101] (n.Kids.length : Int) = some ((n.Kids.length : Int) == 1) := by rw [oo, kB]; rfl
  rw [ew, dM, ou, kC, e, ab.aD]
  refine RR.l ha (RR.r hq ?_)
  refine RR.bc (fun _ => ?_) (fun h => absurd h (by decide))
  refine RR.bc (fun h => RR.t ?_ RR.fail) (fun h => RR.f ?_ ?_)
  · have : (n.Kids.length : Int) ≠ 1 := fun h2 => by rw [h2] at h; simp at h
    simpa using this
  · have : (1 : Int) = (n.Kids.length : Int) := by simpa using h
    rw [← this]; rfl
  · have hl : n.Kids.length = 1 := by have : (1 : Int) = (n.Kids.length : Int) := by simpa using h
                                      omega
    obtain ⟨x, hx⟩ := iZ hl
    have ho : (f209 Pf) n = some true := by rw [nw, jJ, h51, e]; rfl
    have hcon : (f211 Pf) (sc c) n w = bif !(w.aj.Kind == 8) then some ((⟨0, w, 0, [], 0, []⟩ : ae), ⟨4, n.At⟩) else ((f163 Pf) (sc c) n.Kids [aL 3]).bind fun y => some ((⟨27, w, 0, [], 0, y.fst⟩ : ae), y.snd) := by rw [rB, me, e]; simp only [dR, cY, aw]; rfl
    refine RR.r ho (RR.t rfl ?_)
    rw [b0, hcon]
    refine RR.bc (fun h => absurd h (by decide)) (fun _ => RR.bc (fun h => absurd h (by decide)) (fun _ => RR.bc (fun h => absurd h (by decide)) (fun _ => RR.bc (fun h => absurd h (by decide)) (fun _ => RR.bc (fun h => absurd h (by decide)) (fun _ => RR.bc (fun h => absurd h (by decide)) (fun _ => RR.bc (fun _ => ?_) (fun h => absurd h (by decide))))))))
    refine qo hw (by simp) (by simp) (fun hs0 hk => ?_) (fun hk => ?_)
    · have step : RR EQ ((au n.Kids 0).bind fun x => ((f113 Pf) 3).bind fun t => Bw.aA ((f48 Pf) c x t) fun y => bif decide (([ae.z] : List ae).length ≤ 274877906944) then (au [ae.z] 0).bind fun _ => some (.ret (⟨27, w, 0, [], 0, [ae.z].set (Int.toNat 0) y⟩ : ae)) else none) (((f163 Pf) (sc c) n.Kids [aL 3]).bind fun y => some ((⟨27, w, 0, [], 0, y.fst⟩ : ae), y.snd)) := by
        rw [hx]
        refine RR.l (v := x) rfl (RR.l (bC 3) ?_)
        exact wI (ih x (by rw [hx]; simp)) (.inr (bq.sort (by simp))) (fun u _ => .inl ⟨_, _, rfl, rfl, rfl⟩)
      refine RR.f (by simp at hk; rw [hk]; rfl) ?_
      exact step
    · exact ⟨_, by have : (w.aj.Kind == 8) = false := by simpa using hk
                   rw [this]; rfl⟩
include hB in
theorem Xz {n : ab} {w : az} (hw : bY B w) (h51 : n.Kind = 51) (e : n.Text = [115, 101, 116]) (hn : n.Kids.length ≤ B) (ih : ∀ k ∈ n.Kids, RE B c k) : RR EQ ((f159 Pf) c n w) ((f164 Pf) (sc c) n w) := by
  have b0 : ∀ x : Option (ae × aM), (x.bind fun y => some y) = x := by intro x; cases x <;> rfl
  have ha : (f197 Pf) [115, 101, 116] = some (-1) := by rw [eu, dL]; rfl
  have hq : (f210 Pf) [115, 101, 116] (n.Kids.length : Int) = some true := by rw [oo, kB]; rfl
  have ho : (f209 Pf) n = some true := by rw [nw, jJ, h51, e]; rfl
  rw [ew, dM, ou, kC, e, ab.aD]
  refine RR.l ha (RR.r hq ?_)
  refine RR.bc (fun h => absurd h (by decide)) (fun _ => ?_)
  refine RR.f rfl (RR.r ho (RR.t rfl ?_))
  have hcon : (f211 Pf) (sc c) n w = bif w.aj.Kind == 4 then (kU Pf) (sc c) n w 0 [] ⟨0, 0⟩ else bif !(w.aj.Kind == 10) then some ((⟨0, w, 0, [], 0, []⟩ : ae), ⟨4, n.At⟩) else (kV Pf) (sc c) n w 0 [] ⟨0, 0⟩ := by rw [rB, me, e]; simp only [dR, aw]; rfl
  rw [b0, hcon]
  refine RR.bc (fun h => absurd h (by decide)) (fun _ => RR.bc (fun h => absurd h (by decide)) (fun _ => RR.bc (fun _ => ?_) (fun h => absurd h (by decide))))
  refine qo hw (by simp) (by simp) (fun hs0 hk => ?_) (fun hk => ?_)
  · simp only [cm, fM, or_false] at hk
    by_cases h2 : w.aj.Kind = 4
    · refine RR.t (by rw [h2]; rfl) ?_
      exact XB hB hn ih n.Kids.length 0 [] (by omega) rfl
    · refine RR.f (by simpa using h2) (RR.f (by have : w.aj.Kind = 10 := by omega
                                                rw [this]; rfl) ?_)
      exact XC hB hn ih n.Kids.length 0 [] (by omega) rfl
  · simp at hk
    have h1 : (w.aj.Kind == 4) = false := by simpa using hk.1
    have h2 : (w.aj.Kind == 10) = false := by simpa using hk.2
    exact ⟨_, by rw [h1, h2]; rfl⟩
include hB in
theorem Xw {n : ab} {w : az} (hw : bY B w) (h51 : n.Kind = 51) (e : n.Text = [109, 97, 112]) (hn : n.Kids.length ≤ B) (ih : ∀ e ∈ n.Kids, ∃ a b, e.Kids = [a, b] ∧ RE B c a ∧ RE B c b) : RR EQ ((f159 Pf) c n w) ((f164 Pf) (sc c) n w) := by
  have b0 : ∀ x : Option (ae × aM), (x.bind fun y => some y) = x := by intro x; cases x <;> rfl
  have ha : (f197 Pf) [109, 97, 112] = some (-1) := by rw [eu, dL]; rfl
  have hq : (f210 Pf) [109, 97, 112] (n.Kids.length : Int) = some true := by rw [oo, kB]; rfl
  have ho : (f209 Pf) n = some true := by rw [nw, jJ, h51, e]; rfl
  rw [ew, dM, ou, kC, e, ab.aD]
  refine RR.l ha (RR.r hq ?_)
  refine RR.bc (fun h => absurd h (by decide)) (fun _ => ?_)
  refine RR.f rfl (RR.r ho (RR.t rfl ?_))
  have hcon : (f211 Pf) (sc c) n w = bif !(w.aj.Kind == 5) then some ((⟨0, w, 0, [], 0, []⟩ : ae), ⟨4, n.At⟩) else (qE Pf) (sc c) n w 0 [] ⟨0, 0⟩ := by rw [rB, me, e]; simp only [dR, aw]; rfl
  rw [b0, hcon]
  refine RR.bc (fun h => absurd h (by decide)) (fun _ => RR.bc (fun h => absurd h (by decide)) (fun _ => RR.bc (fun h => absurd h (by decide)) (fun _ => RR.bc (fun _ => ?_) (fun h => absurd h (by decide)))))
  refine qo hw (by simp) (by simp) (fun hs0 hk => ?_) (fun hk => ?_)
  · have h5 : w.aj.Kind = 5 := by simpa using hk
    have hwt := hw.some (hw.kind hs0 (by rw [h5]; decide)).2.2
    obtain ⟨p, hp⟩ := tX (hwt.dy hs0).1 h5
    refine RR.f (by rw [h5]; rfl) ?_
    exact YG hB hp (iT hwt hs0 (by rw [hp]; simp)) hn ih n.Kids.length 0 [] (by omega) rfl
  · exact ⟨_, by have : (w.aj.Kind == 5) = false := by simpa using hk
                 rw [this]; rfl⟩
theorem RR.SF {D β γ:Type} {Q:D->β->Prop} {Q':γ->β->Prop} {o:Option (aX D)} {q:Option (β×aM)} {f:D->Option (aX γ)} (h:RR Q o q) (hf:∀y z,Q y z->∃y',f y=some (.ret y')/\Q' y' z):RR Q' (Bw.aA o f) q:=by
 rcases h with⟨y,z,h,rfl,rfl⟩|⟨a,b,z,ha,rfl,rfl⟩
 ·obtain⟨y',e,h'⟩:=hf y z h;exact .inl ⟨y',z,h',e,rfl⟩
 ·exact .inr ⟨a,b,z,ha,rfl,rfl⟩
include hB in
theorem Xx {n : ab} {w : az} (hw : bY B w) (h51 : n.Kind = 51) (e : n.Text = [114, 101, 99]) (hn : n.Kids.length ≤ B) (hd : w.aj.Kind = 6 → ∀ (i j : Nat) t, w.aj.Names[i]? = some t → w.aj.Names[j]? = some t → i = j) (ih : ∀ e ∈ n.Kids, ∃ k, e.Kids = [k] ∧ RE B c k) : RR EQ ((f159 Pf) c n w) ((f164 Pf) (sc c) n w) := by
  have b0 : ∀ x : Option (ae × aM), (x.bind fun y => some y) = x := by intro x; cases x <;> rfl
  have ha : (f197 Pf) [114, 101, 99] = some (-1) := by rw [eu, dL]; rfl
  have hq : (f210 Pf) [114, 101, 99] (n.Kids.length : Int) = some true := by rw [oo, kB]; rfl
  have ho : (f209 Pf) n = some true := by rw [nw, jJ, h51, e]; rfl
  rw [ew, dM, ou, kC, e, ab.aD]
  refine RR.l ha (RR.r hq ?_)
  refine RR.bc (fun h => absurd h (by decide)) (fun _ => ?_)
  refine RR.f rfl (RR.r ho (RR.t rfl ?_))
  have hcon : (f211 Pf) (sc c) n w = bif !(w.aj.Kind == 6) then some ((⟨0, w, 0, [], 0, []⟩ : ae), ⟨4, n.At⟩) else (qH Pf) (sc c) n w 0 [] := by rw [rB, me, e]; simp only [dR, aw]; rfl
  rw [b0, hcon]
  refine RR.bc (fun h => absurd h (by decide)) (fun _ => RR.bc (fun h => absurd h (by decide)) (fun _ => RR.bc (fun h => absurd h (by decide)) (fun _ => RR.bc (fun h => absurd h (by decide)) (fun _ => RR.bc (fun _ => ?_) (fun h => absurd h (by decide))))))
  refine qo hw (by simp) (by simp) (fun hs0 hk => ?_) (fun hk => ?_)
  · have h6 : w.aj.Kind = 6 := by simpa using hk
    have hwt := hw.some (hw.kind hs0 (by rw [h6]; decide)).2.2
    have ho := (hwt.dy hs0).2
    have hlen : w.aj.ax.length ≤ B := by rw [ah.c8] at ho; exact ho.2.2.2.2.1.1
    refine RR.f (by rw [h6]; rfl) ?_
    rw [fill_eq hB (qZ (hwt.dy hs0).1 h6) hlen, GN, ry, ah.aD, Dr (by omega), aw, aw]
    have R := YH hB hwt hs0 h6 (hd h6) hn ih (i0 := (w.aj.ax.length : Int)) (b0 := w.aj.ax.map (kJ n)) n.Kids.length 0 (List.replicate w.aj.ax.length ae.z) (List.replicate w.aj.ax.length false) [] (w.aj.ax.map (kJ n)) (by omega) (by simp) (by simp) (by simp) (by simp) (fun j p x f g1 g2 g3 => by
      have : f = false := by
        rw [Ck] at g3
        split at g3
        · simpa using g3.symm
        · cases g3
      subst this
      rw [my, g1]; rfl) (fun t => by
      simp only [fM, false_iff, not_exists, not_and]
      intro j _ h
      rw [Ck] at h
      split at h <;> simp at h)
    exact RR.SF R (fun y z h => ⟨_, rfl, h⟩)
  · exact ⟨_, by have : (w.aj.Kind == 6) = false := by simpa using hk
                 rw [this]; rfl⟩
theorem WK {n : ab} {w : az} (hw : bY B w) (h51 : n.Kind = 51) (e : n.Text = [112, 97, 105, 114]) (ih : ∀ k ∈ n.Kids, RE B c k) : RR EQ ((f159 Pf) c n w) ((f164 Pf) (sc c) n w) := by
  have b0 : ∀ x : Option (ae × aM), (x.bind fun y => some y) = x := by intro x; cases x <;> rfl
  have ha : (f197 Pf) [112, 97, 105, 114] = some 2 := by rw [eu, dL]; rfl
  have hq : (f210 Pf) [112, 97, 105, 114] (n.Kids.length : Int) = some ((n.Kids.length : Int) == 2) := by rw [oo, kB]; rfl
  rw [ew, dM, ou, kC, e, ab.aD]
  refine RR.l ha (RR.r hq ?_)
  refine RR.bc (fun _ => ?_) (fun h => absurd h (by decide))
  refine RR.bc (fun h => RR.t ?_ RR.fail) (fun h => RR.f ?_ ?_)
  · have : (n.Kids.length : Int) ≠ 2 := fun h2 => by rw [h2] at h; simp at h
    simpa using this
  · have : (2 : Int) = (n.Kids.length : Int) := by simpa using h
    rw [← this]; rfl
  · have hl : n.Kids.length = 2 := by have : (2 : Int) = (n.Kids.length : Int) := by simpa using h
                                      omega
    obtain ⟨x, z, hx⟩ := gC hl
    have ho : (f209 Pf) n = some true := by rw [nw, jJ, h51, e]; rfl
    have hcon : (f211 Pf) (sc c) n w = bif !(w.aj.Kind == 7) then some ((⟨0, w, 0, [], 0, []⟩ : ae), ⟨4, n.At⟩) else (au w.aj.ax 0).bind fun p => (au w.aj.ax 1).bind fun q => ((f163 Pf) (sc c) n.Kids [b7 p, b7 q]).bind fun y => some ((⟨26, w, 0, [], 0, y.fst⟩ : ae), y.snd) := by rw [rB, me, e]; simp only [dR, lA, aw]; rfl
    refine RR.r ho (RR.t rfl ?_)
    rw [b0, hcon]
    refine RR.bc (fun h => absurd h (by decide)) (fun _ => RR.bc (fun h => absurd h (by decide)) (fun _ => RR.bc (fun h => absurd h (by decide)) (fun _ => RR.bc (fun h => absurd h (by decide)) (fun _ => RR.bc (fun h => absurd h (by decide)) (fun _ => RR.bc (fun _ => ?_) (fun h => absurd h (by decide)))))))
    refine qo hw (by simp) (by simp) (fun hs0 hk => ?_) (fun hk => ?_)
    · have h7 : w.aj.Kind = 7 := by simpa using hk
      have hwt := hw.some (hw.kind hs0 (by rw [h7]; decide)).2.2
      obtain ⟨p, q, hp⟩ := tY (hwt.dy hs0).1 h7
      refine RR.f (by rw [h7]; rfl) ?_
      have wp : bY B (b7 p) := .inr (iT hwt hs0 (by rw [hp]; simp))
      have wq : bY B (b7 q) := .inr (iT hwt hs0 (by rw [hp]; simp))
      rw [hx, hp]
      refine RR.l (v := x) rfl ?_
      refine RR.l (v := p) rfl (RR.l (of_eq p) ?_)
      refine RR.r (v := p) rfl ?_
      refine RR.r (v := q) rfl ?_
      refine A7 (ih x (by rw [hx]; simp)) wp (ih z (by rw [hx]; simp)) wq (f := fun u v => some (.ret (⟨26, w, 0, [], 0, [u, v]⟩ : ae))) (fun u hu => ?_) (fun u v _ _ => .inl ⟨_, _, rfl, rfl, rfl⟩)
      rw [dz _ (by simp), aV]
      show (Option.bind (some ae.z) _) = _
      rw [aw]
      show (Option.bind (some z) _) = _
      rw [aw]
      show (Option.bind (some q) _) = _
      rw [aw, of_eq, aw]
      rfl
    · exact ⟨_, by have : (w.aj.Kind == 7) = false := by simpa using hk
                   rw [this]; rfl⟩
theorem U3 {n : ab} {w : az} (h51 : n.Kind = 51) (e : n.Text ∈ [[115, 105, 122, 101], [115, 117, 109], [110, 117, 109, 98, 101, 114], [111, 110], [107, 101, 121, 115], [118, 97, 108, 117, 101, 115], [99, 111, 110, 102, 108, 105, 99, 116], [115, 101, 99, 111, 110, 100], [102, 105, 114, 115, 116]]) (ih : ∀ k ∈ n.Kids, RE B c k) : RR EQ ((f159 Pf) c n w) ((f164 Pf) (sc c) n w) := by
  have b0 : ∀ x : Option (ae × aM), (x.bind fun y => some y) = x := by intro x; cases x <;> rfl
  have fa : (f197 Pf) n.Text = some 1 ∧ (f210 Pf) n.Text (n.Kids.length : Int) = some ((n.Kids.length : Int) == 1) ∧ (f209 Pf) n = some false ∧ (n.Text == [102, 108, 97, 103]) = false ∧ (n.Text == [110, 117, 109]) = false ∧ (n.Text == [115, 101, 116]) = false ∧ (n.Text == [109, 97, 112]) = false ∧ (n.Text == [114, 101, 99]) = false ∧ (n.Text == [112, 97, 105, 114]) = false ∧ (n.Text == [111, 110, 101]) = false ∧ (n.Text == [119, 114, 105, 116, 101]) = false := by
    rw [eu, dL, oo, kB, nw, jJ, h51]
    simp only [cm, fM, or_false] at e
    rcases e with e | e | e | e | e | e | e | e | e <;> rw [e] <;> exact ⟨rfl, rfl, rfl, rfl, rfl, rfl, rfl, rfl, rfl, rfl, rfl⟩
  obtain ⟨ha, hq, ho, f1, f2, f3, f4, f5, f6, f7, f8⟩ := fa
  rw [ew, dM, ou, kC, ab.aD]
  refine RR.l ha (RR.r hq ?_)
  refine RR.bc (fun _ => ?_) (fun h => absurd h (by decide))
  refine RR.bc (fun h => RR.t ?_ RR.fail) (fun h => RR.f ?_ ?_)
  · have : (n.Kids.length : Int) ≠ 1 := fun h2 => by rw [h2] at h; simp at h
    simpa using this
  · have : (1 : Int) = (n.Kids.length : Int) := by simpa using h
    rw [← this]; rfl
  · have hl : n.Kids.length = 1 := by have : (1 : Int) = (n.Kids.length : Int) := by simpa using h
                                      omega
    obtain ⟨x, hx⟩ := iZ hl
    refine RR.r ho (RR.f rfl (RR.f f8 ?_))
    rw [b0, f1, f2, f3, f4, f5, f6, f7, f8]
    exact RR.SF (U4 hx (ih x (by rw [hx]; simp)) e) (fun y z h => ⟨_, rfl, h⟩)
theorem aaH {γ δ:Type} {Q':γ->δ->Prop} {x y z:ab} {a b d:az} {o:ae->Option (aX γ)} {g:List ae×aM->Option (δ×aM)} (hx:RE B c x) (ha:bY B a) (hy:RE B c y) (hb:bY B b)
  (hz:RE B c z) (hd:bY B d) {f:ae->ae->ae->Option (aX γ)} {o2:ae->ae->Option (aX γ)} (ho:∀u,o u=Bw.aA ((f48 Pf) c y b) (o2 u)) (ho2:∀u v,o2 u v=Bw.aA ((f48 Pf) c z d) (f u v))
  (hf:∀u v t,EP B c x a u->EP B c y b v->EP B c z d t->RR Q' (f u v t) (g ([u,v,t],⟨0,0⟩)))
  (hg:∀a b,a≠0->∃z',g ([],⟨a,b⟩)=some (z',⟨a,b⟩)):
  RR Q' (Bw.aA ((f48 Pf) c x a) o) (((f163 Pf) (sc c) [x,y,z] [a,b,d]).bind g):=by
 rw[GR,pU];have bad:∀(p q:Int) (k:ae) (R:Option (List ae×aM)),p≠0->∃z',Option.bind (bif ((k,(⟨p,q⟩:aM)):ae×aM).snd.Code !=0 then some ([],((k,(⟨p,q⟩:aM)):ae×aM).snd)else R) g=some (z',⟨p,q⟩):=λp q k R hp=>by
  obtain⟨z',e3⟩:=hg p q hp;exact⟨z',by show Option.bind (bif p !=0 then _ else _) g=_;rw[gN hp];exact e3⟩
 have e:=sw (s:=sc c) (ks:=[x,y,z]) (ws:=[a,b,d]) (a:=[]) (b:=[]) (i:=0) rfl rfl (by simp) (by simp);have e0:((0:Nat):Int)=0:=rfl;rw[e0]at e;rw[e,xR];refine RR.bind (hx a ha) (λy1 u h=>?_) (λp q k hp=>bad p q k _ hp);obtain⟨rfl,h⟩:=h;show RR Q' (o u) (Option.bind ((kn Pf) (sc c) [x,y,z] [a,b,d] [] ([]++[u]) ((0+1:Nat):Int)) g);rw[ho u,sw (s:=sc c) (ks:=[x,y,z]) (ws:=[a,b,d]) (a:=[]) (b:=[]++[u]) (i:=0+1) rfl rfl (by simp) (by simp),xR];refine RR.bind (hy b hb) (λy1 v h2=>?_) (λp q k hp=>bad p q k _ hp);obtain⟨rfl,h2⟩:=h2;show RR Q' (o2 u v) (Option.bind ((kn Pf) (sc c) [x,y,z] [a,b,d] [] ([]++[u]++[v]) ((0+1+1:Nat):Int)) g);rw[ho2 u v,sw (s:=sc c) (ks:=[x,y,z]) (ws:=[a,b,d]) (a:=[]) (b:=[]++[u]++[v]) (i:=0+1+1) rfl rfl (by simp) (by simp),xR];refine RR.bind (hz d hd) (λy1 t h3=>?_) (λp q k hp=>bad p q k _ hp);obtain⟨rfl,h3⟩:=h3;show RR Q' (f u v t) (Option.bind ((kn Pf) (sc c) [x,y,z] [a,b,d] [] ([]++[u]++[v]++[t]) ((0+1+1+1:Nat):Int)) g);rw[C3 (s:=sc c) (ks:=[x,y,z]) (ws:=[a,b,d]) (a:=[]) (b:=[]++[u]++[v]++[t]) (i:=0+1+1+1) rfl];exact hf u v t h h2 h3
theorem VR {n : ab} {w : az} (hw : bY B w) (h51 : n.Kind = 51) (e : n.Text = [119, 114, 105, 116, 101]) (ih : ∀ k ∈ n.Kids, RE B c k) : RR EQ ((f159 Pf) c n w) ((f164 Pf) (sc c) n w) := by
  have b0 : ∀ x : Option (ae × aM), (x.bind fun y => some y) = x := by intro x; cases x <;> rfl
  have ha : (f197 Pf) [119, 114, 105, 116, 101] = some 3 := by rw [eu, dL]; rfl
  have hq : (f210 Pf) [119, 114, 105, 116, 101] (n.Kids.length : Int) = some ((n.Kids.length : Int) == 3) := by rw [oo, kB]; rfl
  rw [ew, dM, ou, kC, e, ab.aD]
  refine RR.l ha (RR.r hq ?_)
  refine RR.bc (fun _ => ?_) (fun h => absurd h (by decide))
  refine RR.bc (fun h => RR.t ?_ RR.fail) (fun h => RR.f ?_ ?_)
  · have : (n.Kids.length : Int) ≠ 3 := fun h2 => by rw [h2] at h; simp at h
    simpa using this
  · have : (3 : Int) = (n.Kids.length : Int) := by simpa using h
    rw [← this]; rfl
  · have hl : n.Kids.length = 3 := by have : (3 : Int) = (n.Kids.length : Int) := by simpa using h
                                      omega
    obtain ⟨x, y, z, hx⟩ := ni hl
    have ho : (f209 Pf) n = some false := by rw [nw, jJ, h51, e]; rfl
    refine RR.r ho (RR.f rfl (RR.t (by decide) (RR.r (lA _) (RR.r (cY 1) (RR.r (cY 3) ?_)))))
    refine RR.bc (fun h => absurd h (by decide)) (fun _ => RR.bc (fun h => absurd h (by decide)) (fun _ => RR.bc (fun h => absurd h (by decide)) (fun _ => RR.bc (fun h => absurd h (by decide)) (fun _ => RR.bc (fun h => absurd h (by decide)) (fun _ => RR.bc (fun h => absurd h (by decide)) (fun _ => RR.bc (fun h => absurd h (by decide)) (fun _ => RR.bc (fun _ => ?_) (fun h => absurd h (by decide)))))))))
    rw [hx]
    have wr : bq B (b7 eF) := bq.of vB (vR B)
    refine RR.l (of_eq eF) ?_
    refine RR.l (v := x) rfl ?_
    refine aaH (ih x (by rw [hx]; simp)) (.inr wr) (ih y (by rw [hx]; simp)) (b := aL 1) (.inr (bq.sort (by simp))) (ih z (by rw [hx]; simp)) (d := aL 3) (.inr (bq.sort (by simp))) (f := fun u v t => some (.ret (⟨28, b7 eF, 0, [], 0, [u, v, t]⟩ : ae))) (o2 := fun u v => Bw.aA ((f48 Pf) c z (aL 3)) fun t => some (.ret (⟨28, b7 eF, 0, [], 0, [u, v, t]⟩ : ae))) (fun u => ?_) (fun u v => rfl) (fun u v t _ _ _ => .inl ⟨_, _, rfl, rfl, rfl⟩) (fun p q hp => ⟨_, rfl⟩)
    rw [dz _ (by simp), aV]
    show (Option.bind (some ae.z) _) = _
    rw [aw]
    show (Option.bind (some y) _) = _
    rw [aw, bC, aw]
    congr 1
    funext v
    rw [dz _ (by simp), aV]
    show (Option.bind (some ae.z) _) = _
    rw [aw]
    show (Option.bind (some z) _) = _
    rw [aw, bC, aw]
    rfl
end
theorem Cs {l:ah} (h:dw l) (h6:l.Kind=6):∀(i j:Nat) t,l.Names[i]? =some t->l.Names[j]? =some t->i=j:=by
 have hN:na l:=h.names;have one:∀(i j:Nat) t,l.Names[i]? =some t->l.Names[j]? =some t->¬i<j:=λi j t hi hj hij=>by
  have:=hN.2.2.1 h6 j t hj;rw[va]at this;exact this t (bw (i:=i) (by rw[Cj hij];exact hi)) (by simp)
 intro i j t hi hj;have h1:=one i j t hi hj;have h2:=one j i t hj hi;omega
section
variable {B:Nat} (hB:B<=1048576) {c:bO} (hc:CE B c)
include hB in
theorem Xv {n:ab} {w:az} (hw:bY B w) (h51:n.Kind=51) (hs:dJ n) (hn:n.Kids.length<=B) (ht:n.Text∈kx) (ih:∀k∈fh n,RE B c k):RR EQ ((f159 Pf) c n w) ((f164 Pf) (sc c) n w):=by
 have hs:(n.Text=dC->∀e∈n.Kids,e.Kids.length=2)/\(n.Text=dg->∀e∈n.Kids,e.Kids.length=1):=by
  unfold dJ at hs;rcases hs with h|h|h|h|h
  ·omega
  ·omega
  ·omega
  ·omega
  ·exact h.2
 by_cases h1:n.Text=dC
 ·rw[wH h51 (.inl h1)]at ih;refine Xw hB hw h51 h1 hn (λe he=>?_);obtain⟨a,b,hab⟩:=gC (hs.1 h1 e he);exact⟨a,b,hab,ih a (ef.2 ⟨e,he,by rw[hab];simp⟩),ih b (ef.2 ⟨e,he,by rw[hab];simp⟩)⟩
 by_cases h2:n.Text=dg
 ·rw[wH h51 (.inr h2)]at ih;refine Xx hB hw h51 h2 hn (λh6=>?_) (λe he=>?_)
  ·rcases hw with rfl|hw
   ·cases h6
   ·refine Cs (hw.dy ?_).1 h6;by_cases h0:w.aP=0
    ·exact h0
    ·have:=hw.rh h0;rw[h6]at this;cases this
  ·obtain⟨a,ha⟩:=iZ (hs.2 h2 e he);exact⟨a,ha,ih a (ef.2 ⟨e,he,by rw[ha];simp⟩)⟩
 rw[AT h1 h2]at ih;simp only[kx,cm,fM,or_false]at ht;rcases ht with h|h|h|h|h|h|h|h|h
 ·exact Xy hw h51 h ih
 ·exact YD hw h51 h ih
 ·exact Xz hB hw h51 h hn ih
 ·exact absurd h h1
 ·exact absurd h h2
 ·exact WK hw h51 h ih
 ·exact YE hw h51 h ih
 ·exact VR hw h51 h ih
 ·refine U3 h51 ?_ ih;simp only[cm,fM,or_false];exact h
include hB hc in
theorem Ys {n:ab} (h:WN B n):CN n->RE B c n:=by
 induction h with
 |mk hs hl h44 h47 hk ih=>
  intro hC w hw;rename_i n;obtain⟨h5,hCk⟩:(n.Kind=51->n.Text∈kx)/\∀k∈fh n,CN k:=by cases hC;exact⟨by assumption,by assumption⟩
  have hr:=λk hm=>ih k hm (hCk k hm);refine XA hB hw (NN hB hc hw (.mk hs hl h44 h47 hk) λk hm=>Mb hB hc (hk k hm)) ?_;exact YF hc hB hw (.mk hs hl h44 h47 hk) hr λh51=>Xv hB hw h51 hs hl (h5 h51) hr
end
section
variable {B:Nat} (hB:B<=1048576)
include hB
theorem VO:∀a:ae,TT B a->∀b:ae,b.ok B->(f20 Pf) a b=some (dO a b):=by
 refine ae.ind λa ih ha b hb=>?_;rw[ae.c8]at hb;obtain⟨_,_,_,_,_,hkl,hkk⟩:=hb;have hkids:a.Kids.length=b.Kids.length->(tE Pf) a b 0=some (dO a.Kids b.Kids):=λh=>by
  rw[qt (a:=a.Kids) (b:=b.Kids) (L:=(tE Pf) a b) dO true h ?_ ?_]
  ·rw[rZ,Ep h]
  ·intro i x y hx hy hi;rw[N2,tG,ae.aD,o9 (by omega)];have h1:decide ((i:Int)<(a.Kids.length:Int))=true:=by simpa using hi
   rw[h1,bj hx,bj hy];show(((f20 Pf) x y).bind _)=_;rw[ih x (bw hx) (ha.mx (bw hx)) y (ae.iS hkk (bw hy))];show(bif !(dO x y)then _ else _)=_;cases dO x y<;>rfl
  ·rw[N2,tG,ae.aD];simp
 obtain⟨r,e1,hr⟩:=Ls (b:=b.ai) hB ha.ty.ok;have e2:r=dO a.ai b.ai:=tW hr;rw[e20,xq,e1,e2,ae.aD,ae.aD];have e:dO a b=(a.Op==b.Op&&(dO a.ai b.ai&&(a.N==b.N&&(a.Text==b.Text&&(a.At==b.At&&dO a.Kids b.Kids))))):=by
  symm;apply tW;cases a;cases b;simp only[bL,beq_iff_eq,qK,ae.mk.injEq]
 rw[e];simp only[aw,bne];by_cases h:a.Kids.length=b.Kids.length
 ·have h0:((a.Kids.length:Int)==(b.Kids.length:Int))=true:=by simp[h]
  rw[hkids h,h0];generalize (a.Op==b.Op)=c1;generalize dO a.ai b.ai=c2;generalize (a.N==b.N)=c3;generalize (a.Text==b.Text)=c4;generalize (a.At==b.At)=c5;cases c1<;>cases c2<;>cases c3<;>cases c4<;>cases c5<;>rfl
 ·have h0:((a.Kids.length:Int)==(b.Kids.length:Int))=false:=by simpa usingλe=>h (by omega)
  have h2:dO a.Kids b.Kids=false:=by
   rw[<-UA,qK];intro e;exact h (congrArg List.length e)
  rw[h0,h2];generalize (a.Op==b.Op)=c1;generalize dO a.ai b.ai=c2;generalize (a.N==b.N)=c3;generalize (a.Text==b.Text)=c4;generalize (a.At==b.At)=c5;cases c1<;>cases c2<;>cases c3<;>cases c4<;>cases c5<;>rfl
end
theorem WJ (op:Int):∃r,(f109 Pf) op=some r/\(f174 Pf) op=some r/\(r=[]\/r∈kx)/\(r=dC↔op=24)/\(r=dg↔op=25):=by
 obtain⟨r,e,h⟩:=Lr op;have h2:(f174 Pf) op=(f109 Pf) op:=by rw[Bd,pV,wS,od]
 refine⟨r,e,by rw[h2,e],?_,h⟩;have k:ag ((f109 Pf) op) (λr=>r=[]\/r∈kx):=by
  rw[wS,od]
  repeat' (first|refine ag.bif (λ_=>?_) (λ_=>?_)|refine ag.ret ?_)
  all_goals decide
 obtain⟨r',e',h'⟩:=k;rw[e]at e';cases e';exact h'
inductive fi:ae->Prop
 |c {y:ae}:(y.Op=6\/(21<=y.Op/\y.Op<=27))->fi y
 |j {t:az} {n:Int} {s:List UInt8} {a:Int} {x y:ae}:fi x->fi y->fi ⟨16,t,n,s,a,[x,y]⟩
 |i {t:az} {n:Int} {s:List UInt8} {a:Int} {c x y:ae}:fi x->fi y->fi ⟨7,t,n,s,a,[c,x,y]⟩
theorem jx {w:az} (h:isNone w=true):w.aP=0/\w.aj.Kind=0:=by
 unfold isNone at h;simpa using h
theorem W.closed {l:ah} {ps:List TParam} {y:ae} {w:az} (h:W l ps y w):isNone w=true->¬fi y:=by
 have z:isNone (aL 0)=true:=rfl
 induction h with
 |kZ _ hn=>intro h;rw[hn]at h;cases h
 |nD hn=>intro h;rw[hn]at h;cases h
 |nj hn=>intro h;rw[hn]at h;cases h
 |nE _ _ _ _ _ i2 _=>intro _ ho;cases ho with|c h=>(simp at h)|i h1 h2=>exact i2 z h1
 |nF _ _ _ _ _ i2 _=>intro _ ho;cases ho with|c h=>(simp at h)|i h1 h2=>exact i2 z h2
 |nk _ _ _ _ i1 _=>intro _ ho;cases ho with|c h=>(simp at h)|j h1 h2=>exact i1 z h1
 |nq _ _ _ _ i1 _=>intro _ ho;cases ho with|c h=>(simp at h)|j h1 h2=>exact i1 z h2
 |flag _ hk=>intro h;have:=(jx h).2;omega
 |num _ hk=>intro h;have:=(jx h).2;omega
 |jO _ hk=>intro h;have:=(jx h).2;omega
 |map _ hk=>intro h;have:=(jx h).2;omega
 |kI _ hk=>intro h;have:=(jx h).2;omega
 |pair _ hk=>intro h;have:=(jx h).2;omega
 |one _ hk=>intro h;have:=(jx h).2;omega
 |conn ho=>intro _ h;cases h with|c h=>(simp at h;omega)|j=>omega
 |less ho=>intro _ h;cases h with|c h=>(simp at h;omega)|j=>omega
 |ml ho=>intro _ h;cases h with|c h=>(simp at h;omega)|j=>omega
 |oN hm=>intro _ h;cases h with|c h=>(simp at h hm;omega)
 |part ho=>intro _ h;cases h with|c h=>(simp at h;omega)
 |_=>intro _ h;cases h with|c h=>simp at h
theorem W.p0 {l:ah} {ps:List TParam} {x:ae} {w:az} (h:W l ps x w) (hn:isNone w=false):w=x.ai:=by
 cases h
 all_goals first
  |rfl
  |(rename_i hf;exact hf hn)
  |(exfalso;simp_all;done)
theorem W.free {l:ah} {ps:List TParam} {y:ae} {w:az} (h:W l ps y w):¬fi y->W l ps y (aL 0):=by
 have z:isNone (aL 0)=true:=rfl
 induction h with
 |int h1 h2 _=>exactλ_=> .int h1 h2 fV
 |bool h1 _=>exactλ_=> .bool h1 fV
 |name h1 _=>exactλ_=> .name h1 fV
 |param h1 _=>exactλ_=> .param h1 fV
 |state _=>exactλ_=> .state fV
 |kZ=>exactλh=>absurd (.c (.inl rfl)) h
 | @nD c x y a w hn hc hx hy _ ix iy=>
  intro ho;have ex:=hx.p0 hn;have ey:=hy.p0 hn;by_cases h1:fi x
  ·have h2:¬fi y:=λh2=>ho (.i h1 h2);have:W l ps ⟨7,x.ai,0,[],a,[c,x,y]⟩ (aL 0):= .nF z hc (iy h2) (by rw[<-ey];exact hx);rw[<-ex]at this;exact this
  ·have:W l ps ⟨7,x.ai,0,[],a,[c,x,y]⟩ (aL 0):= .nE z hc (ix h1) (by rw[<-ex];exact hy);rw[<-ex]at this;exact this
 |nE _ h1 h2 h3=>exactλ_=> .nE z h1 h2 h3
 |nF _ h1 h2 h3=>exactλ_=> .nF z h1 h2 h3
 |conn ho h1 h2 _=>exactλ_=> .conn ho h1 h2 fV
 |not h1 _=>exactλ_=> .not h1 fV
 |less ho h1 h2 _=>exactλ_=> .less ho h1 h2 fV
 |equal h1 h2 h3 _=>exactλ_=> .equal h1 h2 h3 fV
 |oD h1 h2 _=>exactλ_=> .oD h1 h2 fV
 |oE h1 h2 h3 _=>exactλ_=> .oE h1 h2 h3 fV
 |oF h1 h2 h3 _=>exactλ_=> .oF h1 h2 h3 fV
 | @nj x y a w hn hs hx hy ix iy=>
  intro ho;have ex:=hx.p0 hn;have ey:=hy.p0 hn;by_cases h1:fi x
  ·have h2:¬fi y:=λh2=>ho (.j h1 h2);have:W l ps ⟨16,x.ai,0,[],a,[x,y]⟩ (aL 0):= .nq z (iy h2) (by rw[<-ey];exact hs) (by rw[<-ey];exact hx);rw[<-ex]at this;exact this
  ·have:W l ps ⟨16,x.ai,0,[],a,[x,y]⟩ (aL 0):= .nk z (ix h1) (by rw[<-ex];exact hs) (by rw[<-ex];exact hy);rw[<-ex]at this;exact this
 |nk _ h1 h2 h3=>exactλ_=> .nk z h1 h2 h3
 |nq _ h1 h2 h3=>exactλ_=> .nq z h1 h2 h3
 |ml ho h1 h2 _=>exactλ_=> .ml ho h1 h2 fV
 |field h1 h2 h3 h4 h5 _=>exactλ_=> .field h1 h2 h3 h4 h5 fV
 |at_ h1 h2 h3 h4 h5 _=>exactλ_=> .at_ h1 h2 h3 h4 h5 fV
 |write h1 h2 h3 _=>exactλ_=> .write h1 h2 h3 fV
 |size h1 h2 _=>exactλ_=> .size h1 h2 fV
 |sum h1 h2 h3 h4 h5 _=>exactλ_=> .sum h1 h2 h3 h4 h5 fV
 |oN hm h1 h2 h3 _=>exactλ_=> .oN hm h1 h2 h3 fV
 |part ho h1 h2 h3 h4 _=>exactλ_=> .part ho h1 h2 h3 h4 fV
 |_=>exactλh=>absurd (.c (.inr (by simp))) h
def eE:List (Int×Int):=[(8,31),(9,32),(11,34),(12,35),(13,36),(14,37),(15,38),(16,39),(17,40),(18,41),(20,43)]
def eQ:List (Int×List UInt8):=[(21,[102,108,97,103]),(22,[110,117,109]),(27,[111,110,101]),(29,[115,105,122,101]),(30,[115,117,109]),(31,[110,117,109,98,101,114]),(32,[111,110]),(33,[107,101,121,115]),(34,[118,97,108,117,101,115]),(35,[102,105,114,115,116]),(36,[115,101,99,111,110,100]),(37,[99,111,110,102,108,105,99,116])]
def w9:List UInt8:=[115,101,116]
def A6:List UInt8:=[112,97,105,114]
def AS:List UInt8:=[119,114,105,116,101]
def fg (e:List UInt8×Int×ab×ab):ab:=⟨52,e.1,0,e.2.1,[e.2.2.1,e.2.2.2]⟩
def eZ (ns:List (List UInt8)) (e:Nat×Int×ab):ab:=⟨52,(ns[e.1]?).getD [],0,e.2.1,[e.2.2]⟩
inductive Br (ps:List TParam):ae->ab->Prop
 |int {t:az} {k a:Int}:Br ps ⟨1,t,k,[],a,[]⟩ ⟨44,[],k,a,[]⟩
 |tr {t:az} {a:Int}:Br ps ⟨2,t,1,[],a,[]⟩ ⟨45,[],0,a,[]⟩
 |fl {t:az} {a:Int}:Br ps ⟨2,t,0,[],a,[]⟩ ⟨46,[],0,a,[]⟩
 |name {t:az} {s:List UInt8} {a:Int}:Br ps ⟨3,t,0,s,a,[]⟩ ⟨47,s,0,a,[]⟩
 |param {t:az} {i:Nat} {p:TParam} {a:Int}:ps[i]? =some p->Br ps ⟨4,t,i,[],a,[]⟩ ⟨48,p.Name,0,a,[]⟩
 |state {t:az} {a:Int}:Br ps ⟨5,t,0,[],a,[]⟩ ⟨49,[],0,a,[]⟩
 |kZ {t:az} {a:Int}:Br ps ⟨6,t,0,[],a,[]⟩ ⟨50,[],0,a,[]⟩
 |ite {t:az} {a:Int} {c x y:ae} {c' x' y':ab}:Br ps c c'->Br ps x x'->Br ps y y'->Br ps ⟨7,t,0,[],a,[c,x,y]⟩ ⟨30,[],0,a,[c',x',y']⟩
 |two {op kd:Int} {t:az} {a:Int} {x y:ae} {x' y':ab}:(op,kd)∈eE->Br ps x x'->Br ps y y'->Br ps ⟨op,t,0,[],a,[x,y]⟩ ⟨kd,[],0,a,[x',y']⟩
 |not {t:az} {a:Int} {x:ae} {x':ab}:Br ps x x'->Br ps ⟨10,t,0,[],a,[x]⟩ ⟨33,[],0,a,[x']⟩
 |field {t:az} {a:Int} {i:Nat} {s:List UInt8} {x:ae} {x':ab}:x.ai.aj.Names[i]? =some s->Br ps x x'->Br ps ⟨19,t,i,[],a,[x]⟩ ⟨42,s,0,a,[x']⟩
 |kH {op:Int} {s:List UInt8} {t:az} {a:Int} {x:ae} {x':ab}:(op,s)∈eQ->Br ps x x'->Br ps ⟨op,t,0,[],a,[x]⟩ ⟨51,s,0,a,[x']⟩
 |pair {t:az} {a:Int} {x y:ae} {x' y':ab}:Br ps x x'->Br ps y y'->Br ps ⟨26,t,0,[],a,[x,y]⟩ ⟨51,A6,0,a,[x',y']⟩
 |write {t:az} {a:Int} {x y z:ae} {x' y' z':ab}:Br ps x x'->Br ps y y'->Br ps z z'->Br ps ⟨28,t,0,[],a,[x,y,z]⟩ ⟨51,AS,0,a,[x',y',z']⟩
 |jO {t:az} {a:Int} {kids:List ae} {ks:List ab}:kids.length=ks.length->(∀(i:Nat) k k',kids[i]? =some k->ks[i]? =some k'->Br ps k k')->Br ps ⟨23,t,0,[],a,kids⟩ ⟨51,w9,0,a,ks⟩
 |map {t:az} {a:Int} {kids:List ae} {qs:List (ae×ae)} {es:List (List UInt8×Int×ab×ab)}:(kids=qs.flatMap λq=>[q.1,q.2])->qs.length=es.length->(∀(i:Nat) q e,qs[i]? =some q->es[i]? =some e->Br ps q.1 e.2.2.1)->(∀(i:Nat) q e,qs[i]? =some q->es[i]? =some e->Br ps q.2 e.2.2.2)->Br ps ⟨24,t,0,[],a,kids⟩ ⟨51,dC,0,a,es.map fg⟩
 |kI {t:az} {a:Int} {kids:List ae} {es:List (Nat×Int×ab)}:t.aj.Names.length=kids.length->es.length<=kids.length->(∀(i j:Nat) e e',es[i]? =some e->es[j]? =some e'->e.1=e'.1->i=j)->(∀e∈es,e.1<kids.length)->(∀(e:Nat×Int×ab) k,e∈es->kids[e.1]? =some k->Br ps k e.2.2)->(∀(j:Nat) k,kids[j]? =some k->(∃e∈es,e.1=j)\/(k.Op=6/\k.At=a))->Br ps ⟨25,t,0,[],a,kids⟩ ⟨51,dg,0,a,es.map (eZ t.aj.Names)⟩
theorem Lq {D:Type}:∀{l m:List (D×D)},(l.flatMap λq=>[q.1,q.2])=(m.flatMap λq=>[q.1,q.2])->l=m
 |[],[],_=>rfl
 |[],_::_,h=>by simp at h
 |_::_,[],h=>by simp at h
 |p::l,q::m,h=>by
  simp only[u3,lE,xM,lC]at h;obtain⟨h1,h2,h3⟩:=h;rw[Lq h3,Prod.ext h1 h2]
theorem NM {ps:List TParam}:∀(y:ae) (n:ab),Br ps y n->ag ((f238 Pf) n) (λb=>b=true↔fi y):=by
 refine ae.ind λy ih n hb=>?_;have no:∀{y:ae},¬fi y->ag (some false) (λb=>b=true↔fi y):=λh=>ag.ret ⟨λe=>(by cases e),λe=>absurd e h⟩;have yes:∀{y:ae},fi y->ag (some true) (λb=>b=true↔fi y):=λh=>ag.ret ⟨λ_=>h,λ_=>rfl⟩;have cl:∀{op:Int} {t:az} {k a:Int} {s:List UInt8} {ks:List ae},op≠6->¬(21<=op/\op<=27)->op≠16->op≠7->¬fi ⟨op,t,k,s,a,ks⟩:=by
  intro op t k a s ks h1 h2 h3 h4 h;cases h with
  |c h=>rcases h with h|h;exact h1 h;exact h2 h
  |j=>exact h3 rfl
  |i=>exact h4 rfl
 rw[GL,rp];cases hb with
 |kZ=>exact yes (.c (.inl rfl))
 |ite h1 h2 h3=>
  simp only[Int.reduceBEq,aV,bp];refine ag.aB rfl (ag.bind (ih _ (by simp) _ h2) (λb hb=>ag.bif (λh=>?_) (λh=>no λe=>?_)))
  ·refine ag.aB rfl (ag.bind (ih _ (by simp) _ h3) (λb2 hb2=>ag.ret ⟨λe=> .i (hb.1 h) (hb2.1 e),λe=>?_⟩));cases e with
   |c h=>simp at h
   |i _ h=>exact hb2.2 h
  ·cases e with
   |c h=>simp at h
   |i h' _=>rw[hb.2 h']at h;cases h
 |two hm h1 h2=>
  simp only[eE,cm,fM,or_false,cu]at hm;rcases hm with⟨rfl,rfl⟩|⟨rfl,rfl⟩|⟨rfl,rfl⟩|⟨rfl,rfl⟩|⟨rfl,rfl⟩|⟨rfl,rfl⟩|⟨rfl,rfl⟩|⟨rfl,rfl⟩|⟨rfl,rfl⟩|⟨rfl,rfl⟩|⟨rfl,rfl⟩
  all_goals simp only[Int.reduceBEq,aV,bp]
  all_goals first|exact no (cl (by decide) (by decide) (by decide) (by decide))|skip
  refine ag.aB rfl (ag.bind (ih _ (by simp) _ h1) (λb hb=>ag.bif (λh=>?_) (λh=>no λe=>?_)))
  ·refine ag.aB rfl (ag.bind (ih _ (by simp) _ h2) (λb2 hb2=>ag.ret ⟨λe=> .j (hb.1 h) (hb2.1 e),λe=>?_⟩));cases e with
   |c h=>simp at h
   |j _ h=>exact hb2.2 h
  ·cases e with
   |c h=>simp at h
   |j h' _=>rw[hb.2 h']at h;cases h
 |kH hm h1=>
  simp only[eQ,cm,fM,or_false,cu]at hm;rcases hm with⟨rfl,rfl⟩|⟨rfl,rfl⟩|⟨rfl,rfl⟩|⟨rfl,rfl⟩|⟨rfl,rfl⟩|⟨rfl,rfl⟩|⟨rfl,rfl⟩|⟨rfl,rfl⟩|⟨rfl,rfl⟩|⟨rfl,rfl⟩|⟨rfl,rfl⟩|⟨rfl,rfl⟩
  all_goals first|exact yes (.c (.inr (by simp)))|exact no (cl (by decide) (by decide) (by decide) (by decide))
 |pair=>exact yes (.c (.inr (by simp)))
 |jO=>exact yes (.c (.inr (by simp)))
 |map=>exact yes (.c (.inr (by simp)))
 |kI=>exact yes (.c (.inr (by simp)))
 |_=>exact no (cl (by decide) (by decide) (by decide) (by decide))
theorem W.own {B:Nat} {l:ah} {ps:List TParam} {y:ae} {w:az} (h:W l ps y w):isNone w=true->TT B y->W l ps y y.ai:=by
 have z:isNone (aL 0)=true:=rfl;have ff:∀t:az,Fit t t:=λ_ _=>rfl
 induction h with
 |int h1 h2 _=>exactλ_ _=> .int h1 h2 (ff _)
 |bool h1 _=>exactλ_ _=> .bool h1 (ff _)
 |name h1 _=>exactλ_ _=> .name h1 (ff _)
 |param h1 _=>exactλ_ _=> .param h1 (ff _)
 |state _=>exactλ_ _=> .state (ff _)
 |kZ _ hn=>intro h;rw[hn]at h;cases h
 |nD hn=>intro h;rw[hn]at h;cases h
 |nj hn=>intro h;rw[hn]at h;cases h
 | @nE c x y a w _ hc hx hy _ ix _=>exactλ_ ht=> .nD ht.ty.lY hc (ix z (ht.mx (by simp))) hy
 | @nF c x y a w _ hc hy hx _ iy _=>
  intro _ ht;have e:=hx.p0 (ht.mx (k:=y) (by simp)).ty.lY;exact .nD ht.ty.lY hc (by show W l ps x x.ai;rw[<-e];exact hx) (by show W l ps y x.ai;rw[<-e];exact iy z (ht.mx (by simp)))
 |conn ho h1 h2 _=>exactλ_ _=> .conn ho h1 h2 (ff _)
 |not h1 _=>exactλ_ _=> .not h1 (ff _)
 |less ho h1 h2 _=>exactλ_ _=> .less ho h1 h2 (ff _)
 |equal h1 h2 h3 _=>exactλ_ _=> .equal h1 h2 h3 (ff _)
 |oD h1 h2 _=>exactλ_ _=> .oD h1 h2 (ff _)
 |oE h1 h2 h3 _=>exactλ_ _=> .oE h1 h2 h3 (ff _)
 |oF h1 h2 h3 _=>exactλ_ _=> .oF h1 h2 h3 (ff _)
 | @nk x y a w _ hx hs hy ix _=>exactλ_ ht=> .nj ht.ty.lY hs (ix z (ht.mx (by simp))) hy
 | @nq x y a w _ hy hs hx iy _=>
  intro _ ht;have e:=hx.p0 (ht.mx (k:=y) (by simp)).ty.lY;exact .nj ht.ty.lY (by show x.ai.aP=0;rw[<-e];exact hs) (by show W l ps x x.ai;rw[<-e];exact hx) (by show W l ps y x.ai;rw[<-e];exact iy z (ht.mx (by simp)))
 |ml ho h1 h2 _=>exactλ_ _=> .ml ho h1 h2 (ff _)
 |field h1 h2 h3 h4 h5 _=>exactλ_ _=> .field h1 h2 h3 h4 h5 (ff _)
 |at_ h1 h2 h3 h4 h5 _=>exactλ_ _=> .at_ h1 h2 h3 h4 h5 (ff _)
 |write h1 h2 h3 _=>exactλ_ _=> .write h1 h2 h3 (ff _)
 |size h1 h2 _=>exactλ_ _=> .size h1 h2 (ff _)
 |sum h1 h2 h3 h4 h5 _=>exactλ_ _=> .sum h1 h2 h3 h4 h5 (ff _)
 |oN hm h1 h2 h3 _=>exactλ_ _=> .oN hm h1 h2 h3 (ff _)
 |part ho h1 h2 h3 h4 _=>exactλ_ _=> .part ho h1 h2 h3 h4 (ff _)
 |flag _ hk=>intro h;have:=(jx h).2;omega
 |num _ hk=>intro h;have:=(jx h).2;omega
 |jO _ hk=>intro h;have:=(jx h).2;omega
 |map _ hk=>intro h;have:=(jx h).2;omega
 |kI _ hk=>intro h;have:=(jx h).2;omega
 |pair _ hk=>intro h;have:=(jx h).2;omega
 |one _ hk=>intro h;have:=(jx h).2;omega
