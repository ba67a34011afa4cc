/- The elaborator against the reference's: calls, all expressions. -/
import Derived.Test.YtnocmolegijmkaaGreatKRb
import Derived.Test.YtnocmolegijmkaaGreatKVa9
set_option linter.all false
namespace Go.Proofs.YtnocmolegijmkaaGreat
open Go Go.Bw
section
variable {B:Nat} (hB:B<=1048576) {c:bJ} (hc:CE B c)
def kP:List (List UInt8):=[[102,108,97,103],[110,117,109],[115,101,116],dD,dc,[112,97,105,114],[111,110,101],[119,114,105,116,101],[115,105,122,101],[115,117,109],[110,117,109,98,101,114],[111,110],[107,101,121,115],[118,97,108,117,101,115],[99,111,110,102,108,105,99,116],[115,101,99,111,110,100],[102,105,114,115,116]]
inductive CN:af->Prop
 |mk {n:af}:(n.Kind=51->n.Text∈kP)->(∀k∈fj n,CN k)->CN n
theorem Vs (hc:CE B c) (hB:B<=1048576) {n:af}:RR EQ (((wh Pu) c.params n).bind λy=>bif decide (y<0)then(Bw.aA ((dg Pu) 3 n.At) λ_=>none)else(ao c.params y).bind λx=>((dQ Pu) x.aK).bind λt=>some (.ret (⟨4,t,y,[],0,[]⟩:ab))) ((qT Pu) (sc c) n 0):=by
 have hn:=hc.num;rw[Fz _ _ (by omega),aq];have key:∀m i:Nat,i+m=c.params.length->(∀(k:Nat) p,k<i->c.params[k]? =some p->(p.Name==n.Text)=false)->∃q,(qT Pu) (sc c) n (i:Int)=q/\RR EQ (bif decide (idxOf (λp:TParam=>p.Name==n.Text) c.params 0<0)then(Bw.aA ((dg Pu) 3 n.At) λ_=>none)else(ao c.params (idxOf (λp:TParam=>p.Name==n.Text) c.params 0)).bind λx=>((dQ Pu) x.aK).bind λt=>some (.ret (⟨4,t,idxOf (λp:TParam=>p.Name==n.Text) c.params 0,[],0,[]⟩:ab))) q:=by
  intro m
  induction m with
  |zero=>
   intro i hi hp;refine⟨_,rfl,?_⟩;rw[E9,qU,TParam.aB];show RR EQ _ (bif decide ((i:Int)<(c.params.length:Int))then _ else _);rw[aU];have:decide (i<c.params.length)=false:=by simp;omega
   rw[this,a6,dR,aq];refine RR.aZ (λ_=>?_) (λh=>?_)
   ·rw[lJ,iW];exact .inr ⟨3,n.At,_,by decide,rfl,rfl⟩
   ·obtain⟨j,x,hj,hx,hx2⟩:=AB (by simpa using h);rw[hp j x (by have:=(cy.1 hx).1;omega) hx]at hx2;cases hx2
  |succ m im=>
   intro i hi hp;have hil:i<c.params.length:=by omega
   obtain⟨x,hx⟩:=bg hil;have hx':ao (sc c).Params (i:Int)=some x:=bc hx;cases hxt:x.Name==n.Text with
   |false=>
    obtain⟨q,e,h⟩:=im (i+1) (by omega) (λk p hk hkp=>by
     by_cases e:k=i
     ·subst e;rw[hx]at hkp;cases hkp;exact hxt
     ·exact hp k p (by omega) hkp)
    refine⟨q,?_,h⟩;rw[E9,qU,TParam.aB];show(bif decide ((i:Int)<(c.params.length:Int))then _ else _)=_;rw[aU];have:decide (i<c.params.length)=true:=by simpa using hil
    rw[this,aO,hx',aq,hxt,a6,bO i (by omega)];exact e
   |true=>
    refine⟨_,rfl,?_⟩;have hidx:idxOf (λp:TParam=>p.Name==n.Text) c.params 0=(i:Int):=by
     rcases qC (λp:TParam=>p.Name==n.Text) c.params 0 with⟨_,h2⟩|⟨j,z,h1,h2,h3,h4⟩
     ·have:=h2 x (bh hx);rw[hxt]at this;cases this
     ·have:j=i:=by
       rcases J0 j i with h|h|h
       ·rw[hp j z h h2]at h3;cases h3
       ·exact h
       ·have:=h4 i x h hx;rw[hxt]at this;cases this
      subst this;have h1:idxOf (λp:TParam=>p.Name==n.Text) c.params 0=((0+j:Nat):Int):=h1;rw[h1];simp
    rw[hidx,E9,qU,TParam.aB];show RR EQ _ (bif decide ((i:Int)<(c.params.length:Int))then _ else _);rw[aU];have:decide (i<c.params.length)=true:=by simpa using hil
    rw[this,aO,hx',aq,hxt,aO,aq,cT,aq];refine RR.aZ (λh=>by simp at h;omega) (λ_=>RR.l (eo hx) (RR.l (bp _) ?_));exact .inl ⟨_,_,rfl,rfl,rfl⟩
 obtain⟨q,e,h⟩:=key c.params.length 0 (by omega) (λk p hk=>by omega);have e:(qT Pu) (sc c) n 0=q:=e;rw[e];exact h
theorem Xp (hc:CE B c) (hB:B<=1048576) {n:af} {w:ay} (hw:bW B w) (h:WN B n) (ih:∀k∈fj n,RE B c k) (hcall:n.Kind=51->RR EQ ((cV Pu) c n w) ((kf Pu) (sc c) n w)):RR EQ ((lH Pu) c n w) ((se Pu) (sc c) n w):=by
 have s1:bW B (aL 1):= .inr (a7.sort (by simp));have s2:bW B (aL 2):= .inr (a7.sort (by simp));have s3:bW B (aL 3):= .inr (a7.sort (by simp));have s4:bW B (aL 4):= .inr (a7.sort (by simp));obtain⟨hs,hk⟩:dL n/\∀k∈fj n,WN B k:=by cases h;exact⟨by assumption,by assumption⟩
 have cz:=λ(h51:n.Kind≠51) hk'=>TG (n:=n) (w:=w) hw hB hs hk' (by rw[<-nC h51];exact hk) (by rw[<-nC h51];exact ih);have hK:n.Kind=30\/n.Kind=31\/n.Kind=32\/n.Kind=33\/n.Kind=34\/n.Kind=35\/n.Kind=36\/n.Kind=37\/n.Kind=38\/n.Kind=39\/n.Kind=40\/n.Kind=41\/n.Kind=42\/n.Kind=43\/n.Kind=44\/n.Kind=45\/n.Kind=46\/n.Kind=47\/n.Kind=48\/n.Kind=49\/n.Kind=50\/n.Kind=51:=by
  unfold dL at hs;omega
 have two:∀{op:Int} {a b t:ay},31<=n.Kind/\n.Kind<=43/\n.Kind≠33/\n.Kind≠42->bW B a->bW B b->RR EQ (Bw.aA ((iJ Pu) c op n a b t) λy=>some (.ret y)) (((dC Pu) (sc c) n.Kids [a,b]).bind λy=>some ((⟨op,t,0,[],0,y.fst⟩:ab),y.snd)):=by
  intro op a b t hkk ha hb;obtain⟨x,y,hx⟩:=gJ (l:=n.Kids) (by unfold dL at hs;omega);rw[nC (by omega),hx]at ih;exact Mx hx (ih x (by simp)) (ih y (by simp)) ha hb (λu v _ _=> .inl ⟨_,_,rfl,rfl,rfl⟩)
 have op:n.Kind≠51->(n.Kind=30\/n.Kind=36\/n.Kind=38\/n.Kind=39\/n.Kind=42\/n.Kind=43)->RR EQ ((lH Pu) c n w) ((se Pu) (sc c) n w):=λh51 hk'=>by
  have:=cz h51 hk';rw[eu,dO];rcases hk' with h|h|h|h|h|h<;>simpa only[bp,aq,h,Int.reduceBEq,aO,a6]using this
 rcases hK with h|h|h|h|h|h|h|h|h|h|h|h|h|h|h|h|h|h|h|h|h|h
 all_goals first|exact op (by omega) (by omega)|skip
 all_goals rw[eu,dO,Rq,vc]
 all_goals simp only[bp,of_eq,cT,lR,dR,pZ,fK,aq,h,Int.reduceBEq,aO,a6]
 all_goals first|exact two (by omega) s2 s2|skip
 all_goals first|exact two (by omega) s1 s1|skip
 all_goals first|exact two (by omega) s3 s4|skip
 all_goals first|exact .inl ⟨_,_,rfl,rfl,rfl⟩|skip
 ·obtain⟨x,hx⟩:=ju (l:=n.Kids) (by unfold dL at hs;omega);rw[nC (by omega),hx]at ih;rw[hx];refine RR.l (v:=x) rfl ?_;exact xA (ih x (by simp)) s2 (λu _=> .inl ⟨_,_,rfl,rfl,rfl⟩)
 ·have:=Vs hc hB (n:=n);simpa only[bp,aq]using this
 ·have F4:∀{z:ab},RR (EQ (D:=ab)) (Bw.aA ((dg Pu) 4 n.At) λ_=>none) (some (z,⟨4,n.At⟩)):=λ{z}=>by
   rw[lJ,iW];exact .inr ⟨4,n.At,z,by decide,rfl,rfl⟩
  rcases hw with rfl|hw'
  ·exact F4
  ·refine RR.aZ (λh0=>RR.t ?_ F4) (λh0=>?_)
   ·rw[hw'.rG (by simpa using h0)];rfl
   ·have:=(hw'.du (by simpa using h0)).1.kind;rw[hw'.eB];exact RR.f (by simp;omega) (.inl ⟨_,_,rfl,rfl,rfl⟩)
 ·refine RR.bind (hcall h) (λy z e=>?_);cases e;exact .inl ⟨_,_,rfl,rfl,rfl⟩
theorem qI {ks:List Int} {w:ay} {n:af} {γ δ:Type} {Q':γ->δ->Prop} (hw:bW B w) (hk:ks.length<9223372036854775807) (h0:(0:Int)∉ks) {f:Unit->Option (aR γ)} {q:Option (δ×aS)}
  (h1:w.aK=0->w.ai.Kind∈ks->RR Q' (f ()) q) (h2:w.ai.Kind∉ks->∃z,q=some (z,⟨4,n.At⟩)):RR Q' (Bw.cr ((gL Pu) ks w n) f) q:=by
 have bad:w.ai.Kind∉ks->RR Q' (Bw.cr (Bw.aA ((dg Pu) 4 n.At) λ_=>(none:Option (aR Unit))) f) q:=λh=>by
  obtain⟨z,e⟩:=h2 h;rw[lJ,iW,e];exact .inr ⟨4,n.At,z,by decide,rfl,rfl⟩
 rw[IC,rV];cases hs:w.aK !=0 with
 |true=>
  refine bad ?_;rcases hw with rfl|hw
  ·exact h0
  ·rw[hw.rG (by simpa using hs)];exact h0
 |false=>
  rw[a6,kJ ks _ hk,aq];by_cases hm:w.ai.Kind∈ks
  ·have:(ks.any λy=>w.ai.Kind==y)=true:=ln.2 ⟨_,hm,by simp⟩;rw[this];exact h1 (by simpa using hs) hm
  ·have:(ks.any λy=>w.ai.Kind==y)=false:=by
    rw[vO];intro y hy e;have e:w.ai.Kind=y:=by simpa using e
    exact hm (by rw[e];exact hy)
   rw[this];exact bad hm
end
theorem dz (ks:List ab) (h:ks.length<=3):decide (ks.length<=274877906944)=true:=by simp;omega
section
variable {B:Nat} (hB:B<=1048576) {c:bJ}
theorem Wk {n : af} {w : ay} (hw : bW B w) (h51 : n.Kind = 51) (e : n.Text = [102, 108, 97, 103]) (ih : ∀ k ∈ n.Kids, RE B c k) : RR EQ ((cV Pu) c n w) ((kf Pu) (sc c) n w) := by
  have b0 : ∀ x : Option (ab × aS), (x.bind fun y => some y) = x := by intro x; cases x <;> rfl
  have ha : (dT Pu) [102, 108, 97, 103] = some 1 := by rw [er, dN]; rfl
  have hq : (lI Pu) [102, 108, 97, 103] (n.Kids.length : Int) = some ((n.Kids.length : Int) == 1) := by rw [oL, kW]; rfl
  rw [ew, dP, oM, kX, e, af.aB]
  refine RR.l ha (RR.r hq ?_)
  refine RR.aZ (fun _ => ?_) (fun h => absurd h (by decide))
  refine RR.aZ (fun h => RR.t ?_ RR.fail) (fun h => RR.f ?_ ?_)
  · have : (n.Kids.length : Int) ≠ 1 := fun h2 => by rw [h2] at h; simp at h
    simpa using this
  · have : (1 : Int) = (n.Kids.length : Int) := by simpa using h
    rw [← this]; rfl
  · have hl : n.Kids.length = 1 := by have : (1 : Int) = (n.Kids.length : Int) := by simpa using h
                                      omega
    obtain ⟨x, hx⟩ := ju hl
    have ho : (eX Pu) n = some true := by rw [nR, kg, h51, e]; rfl
    have hcon : (nP Pu) (sc c) n w = bif !(w.ai.Kind == 1) then some ((⟨0, w, 0, [], 0, []⟩ : ab), ⟨4, n.At⟩) else ((dC Pu) (sc c) n.Kids [aL 2]).bind fun y => some ((⟨21, w, 0, [], 0, y.fst⟩ : ab), y.snd) := by rw [sm, mB, e]; simp only [dR, cT, aq]; rfl
    refine RR.r ho (RR.t rfl ?_)
    rw [b0, hcon]
    refine RR.aZ (fun _ => ?_) (fun h => absurd h (by decide))
    refine qI hw (by simp) (by simp) (fun hs0 hk => ?_) (fun hk => ?_)
    · have step : RR EQ ((ao n.Kids 0).bind fun x => ((dQ Pu) 2).bind fun t => Bw.aA ((bR Pu) c x t) fun y => bif decide (([ab.z] : List ab).length ≤ 274877906944) then (ao [ab.z] 0).bind fun _ => some (.ret (⟨21, w, 0, [], 0, [ab.z].set (Int.toNat 0) y⟩ : ab)) else none) (((dC Pu) (sc c) n.Kids [aL 2]).bind fun y => some ((⟨21, w, 0, [], 0, y.fst⟩ : ab), y.snd)) := by
        rw [hx]
        refine RR.l (v := x) rfl (RR.l (bp 2) ?_)
        exact xA (ih x (by rw [hx]; simp)) (.inr (a7.sort (by simp))) (fun u _ => .inl ⟨_, _, rfl, rfl, rfl⟩)
      refine RR.f (by simp at hk; rw [hk]; rfl) ?_
      exact step
    · exact ⟨_, by have : (w.ai.Kind == 1) = false := by simpa using hk
                   rw [this]; rfl⟩
theorem Xn {n : af} {w : ay} (hw : bW B w) (h51 : n.Kind = 51) (e : n.Text = [110, 117, 109]) (ih : ∀ k ∈ n.Kids, RE B c k) : RR EQ ((cV Pu) c n w) ((kf Pu) (sc c) n w) := by
  have b0 : ∀ x : Option (ab × aS), (x.bind fun y => some y) = x := by intro x; cases x <;> rfl
  have ha : (dT Pu) [110, 117, 109] = some 1 := by rw [er, dN]; rfl
  have hq : (lI Pu) [110, 117, 109] (n.Kids.length : Int) = some ((n.Kids.length : Int) == 1) := by rw [oL, kW]; rfl
  rw [ew, dP, oM, kX, e, af.aB]
  refine RR.l ha (RR.r hq ?_)
  refine RR.aZ (fun _ => ?_) (fun h => absurd h (by decide))
  refine RR.aZ (fun h => RR.t ?_ RR.fail) (fun h => RR.f ?_ ?_)
  · have : (n.Kids.length : Int) ≠ 1 := fun h2 => by rw [h2] at h; simp at h
    simpa using this
  · have : (1 : Int) = (n.Kids.length : Int) := by simpa using h
    rw [← this]; rfl
  · have hl : n.Kids.length = 1 := by have : (1 : Int) = (n.Kids.length : Int) := by simpa using h
                                      omega
    obtain ⟨x, hx⟩ := ju hl
    have ho : (eX Pu) n = some true := by rw [nR, kg, h51, e]; rfl
    have hcon : (nP Pu) (sc c) n w = bif w.ai.Kind == 2 then ((dC Pu) (sc c) n.Kids [aL 1]).bind fun y => some ((⟨22, w, 0, [], 0, y.fst⟩ : ab), y.snd) else bif !(w.ai.Kind == 3) then some ((⟨0, w, 0, [], 0, []⟩ : ab), ⟨4, n.At⟩) else ((dC Pu) (sc c) n.Kids [aL 1]).bind fun y => some ((⟨22, w, 0, [], 0, y.fst⟩ : ab), y.snd) := by rw [sm, mB, e]; simp only [dR, cT, aq]; rfl
    refine RR.r ho (RR.t rfl ?_)
    rw [b0, hcon]
    refine RR.aZ (fun h => absurd h (by decide)) (fun _ => RR.aZ (fun _ => ?_) (fun h => absurd h (by decide)))
    refine qI hw (by simp) (by simp) (fun hs0 hk => ?_) (fun hk => ?_)
    · have step : RR EQ ((ao n.Kids 0).bind fun x => ((dQ Pu) 1).bind fun t => Bw.aA ((bR Pu) c x t) fun y => bif decide (([ab.z] : List ab).length ≤ 274877906944) then (ao [ab.z] 0).bind fun _ => some (.ret (⟨22, w, 0, [], 0, [ab.z].set (Int.toNat 0) y⟩ : ab)) else none) (((dC Pu) (sc c) n.Kids [aL 1]).bind fun y => some ((⟨22, w, 0, [], 0, y.fst⟩ : ab), y.snd)) := by
        rw [hx]
        refine RR.l (v := x) rfl (RR.l (bp 1) ?_)
        exact xA (ih x (by rw [hx]; simp)) (.inr (a7.sort (by simp))) (fun u _ => .inl ⟨_, _, rfl, rfl, rfl⟩)
      simp only [cu, gx, or_false] at hk
      by_cases h2 : w.ai.Kind = 2
      · exact RR.t (by rw [h2]; rfl) step
      · exact RR.f (by simpa using h2) (RR.f (by have : w.ai.Kind = 3 := by omega
                                                 rw [this]; rfl) step)
    · simp at hk
      have h1 : (w.ai.Kind == 2) = false := by simpa using hk.1
      have h2 : (w.ai.Kind == 3) = false := by simpa using hk.2
      exact ⟨_, by rw [h1, h2]; rfl⟩
theorem Xo {n : af} {w : ay} (hw : bW B w) (h51 : n.Kind = 51) (e : n.Text = [111, 110, 101]) (ih : ∀ k ∈ n.Kids, RE B c k) : RR EQ ((cV Pu) c n w) ((kf Pu) (sc c) n w) := by
  have b0 : ∀ x : Option (ab × aS), (x.bind fun y => some y) = x := by intro x; cases x <;> rfl
  have ha : (dT Pu) [111, 110, 101] = some 1 := by rw [er, dN]; rfl
  have hq : (lI Pu) [111, 110, 101] (n.Kids.length : Int) = some ((n.Kids.length : Int) == 1) := by rw [oL, kW]; rfl
  rw [ew, dP, oM, kX, e, af.aB]
  refine RR.l ha (RR.r hq ?_)
  refine RR.aZ (fun _ => ?_) (fun h => absurd h (by decide))
  refine RR.aZ (fun h => RR.t ?_ RR.fail) (fun h => RR.f ?_ ?_)
  · have : (n.Kids.length : Int) ≠ 1 := fun h2 => by rw [h2] at h; simp at h
    simpa using this
  · have : (1 : Int) = (n.Kids.length : Int) := by simpa using h
    rw [← this]; rfl
  · have hl : n.Kids.length = 1 := by have : (1 : Int) = (n.Kids.length : Int) := by simpa using h
                                      omega
    obtain ⟨x, hx⟩ := ju hl
    have ho : (eX Pu) n = some true := by rw [nR, kg, h51, e]; rfl
    have hcon : (nP Pu) (sc c) n w = bif !(w.ai.Kind == 8) then some ((⟨0, w, 0, [], 0, []⟩ : ab), ⟨4, n.At⟩) else ((dC Pu) (sc c) n.Kids [aL 3]).bind fun y => some ((⟨27, w, 0, [], 0, y.fst⟩ : ab), y.snd) := by rw [sm, mB, e]; simp only [dR, cT, aq]; rfl
    refine RR.r ho (RR.t rfl ?_)
    rw [b0, hcon]
    refine RR.aZ (fun h => absurd h (by decide)) (fun _ => RR.aZ (fun h => absurd h (by decide)) (fun _ => RR.aZ (fun h => absurd h (by decide)) (fun _ => RR.aZ (fun h => absurd h (by decide)) (fun _ => RR.aZ (fun h => absurd h (by decide)) (fun _ => RR.aZ (fun h => absurd h (by decide)) (fun _ => RR.aZ (fun _ => ?_) (fun h => absurd h (by decide))))))))
    refine qI hw (by simp) (by simp) (fun hs0 hk => ?_) (fun hk => ?_)
    · have step : RR EQ ((ao n.Kids 0).bind fun x => ((dQ Pu) 3).bind fun t => Bw.aA ((bR Pu) c x t) fun y => bif decide (([ab.z] : List ab).length ≤ 274877906944) then (ao [ab.z] 0).bind fun _ => some (.ret (⟨27, w, 0, [], 0, [ab.z].set (Int.toNat 0) y⟩ : ab)) else none) (((dC Pu) (sc c) n.Kids [aL 3]).bind fun y => some ((⟨27, w, 0, [], 0, y.fst⟩ : ab), y.snd)) := by
        rw [hx]
        refine RR.l (v := x) rfl (RR.l (bp 3) ?_)
        exact xA (ih x (by rw [hx]; simp)) (.inr (a7.sort (by simp))) (fun u _ => .inl ⟨_, _, rfl, rfl, rfl⟩)
      refine RR.f (by simp at hk; rw [hk]; rfl) ?_
      exact step
    · exact ⟨_, by have : (w.ai.Kind == 8) = false := by simpa using hk
                   rw [this]; rfl⟩
include hB in
theorem Wl {n : af} {w : ay} (hw : bW B w) (h51 : n.Kind = 51) (e : n.Text = [115, 101, 116]) (hn : n.Kids.length ≤ B) (ih : ∀ k ∈ n.Kids, RE B c k) : RR EQ ((cV Pu) c n w) ((kf Pu) (sc c) n w) := by
  have b0 : ∀ x : Option (ab × aS), (x.bind fun y => some y) = x := by intro x; cases x <;> rfl
  have ha : (dT Pu) [115, 101, 116] = some (-1) := by rw [er, dN]; rfl
  have hq : (lI Pu) [115, 101, 116] (n.Kids.length : Int) = some true := by rw [oL, kW]; rfl
  have ho : (eX Pu) n = some true := by rw [nR, kg, h51, e]; rfl
  rw [ew, dP, oM, kX, e, af.aB]
  refine RR.l ha (RR.r hq ?_)
  refine RR.aZ (fun h => absurd h (by decide)) (fun _ => ?_)
  refine RR.f rfl (RR.r ho (RR.t rfl ?_))
  have hcon : (nP Pu) (sc c) n w = bif w.ai.Kind == 4 then (lv Pu) (sc c) n w 0 [] ⟨0, 0⟩ else bif !(w.ai.Kind == 10) then some ((⟨0, w, 0, [], 0, []⟩ : ab), ⟨4, n.At⟩) else (lx Pu) (sc c) n w 0 [] ⟨0, 0⟩ := by rw [sm, mB, e]; simp only [dR, aq]; rfl
  rw [b0, hcon]
  refine RR.aZ (fun h => absurd h (by decide)) (fun _ => RR.aZ (fun h => absurd h (by decide)) (fun _ => RR.aZ (fun _ => ?_) (fun h => absurd h (by decide))))
  refine qI hw (by simp) (by simp) (fun hs0 hk => ?_) (fun hk => ?_)
  · simp only [cu, gx, or_false] at hk
    by_cases h2 : w.ai.Kind = 4
    · refine RR.t (by rw [h2]; rfl) ?_
      exact Wn hB hn ih n.Kids.length 0 [] (by omega) rfl
    · refine RR.f (by simpa using h2) (RR.f (by have : w.ai.Kind = 10 := by omega
                                                rw [this]; rfl) ?_)
      exact Wo hB hn ih n.Kids.length 0 [] (by omega) rfl
  · simp at hk
    have h1 : (w.ai.Kind == 4) = false := by simpa using hk.1
    have h2 : (w.ai.Kind == 10) = false := by simpa using hk.2
    exact ⟨_, by rw [h1, h2]; rfl⟩
include hB in
theorem Wi {n : af} {w : ay} (hw : bW B w) (h51 : n.Kind = 51) (e : n.Text = [109, 97, 112]) (hn : n.Kids.length ≤ B) (ih : ∀ e ∈ n.Kids, ∃ a b, e.Kids = [a, b] ∧ RE B c a ∧ RE B c b) : RR EQ ((cV Pu) c n w) ((kf Pu) (sc c) n w) := by
  have b0 : ∀ x : Option (ab × aS), (x.bind fun y => some y) = x := by intro x; cases x <;> rfl
  have ha : (dT Pu) [109, 97, 112] = some (-1) := by rw [er, dN]; rfl
  have hq : (lI Pu) [109, 97, 112] (n.Kids.length : Int) = some true := by rw [oL, kW]; rfl
  have ho : (eX Pu) n = some true := by rw [nR, kg, h51, e]; rfl
  rw [ew, dP, oM, kX, e, af.aB]
  refine RR.l ha (RR.r hq ?_)
  refine RR.aZ (fun h => absurd h (by decide)) (fun _ => ?_)
  refine RR.f rfl (RR.r ho (RR.t rfl ?_))
  have hcon : (nP Pu) (sc c) n w = bif !(w.ai.Kind == 5) then some ((⟨0, w, 0, [], 0, []⟩ : ab), ⟨4, n.At⟩) else (qX Pu) (sc c) n w 0 [] ⟨0, 0⟩ := by rw [sm, mB, e]; simp only [dR, aq]; rfl
  rw [b0, hcon]
  refine RR.aZ (fun h => absurd h (by decide)) (fun _ => RR.aZ (fun h => absurd h (by decide)) (fun _ => RR.aZ (fun h => absurd h (by decide)) (fun _ => RR.aZ (fun _ => ?_) (fun h => absurd h (by decide)))))
  refine qI hw (by simp) (by simp) (fun hs0 hk => ?_) (fun hk => ?_)
  · have h5 : w.ai.Kind = 5 := by simpa using hk
    have hwt := hw.some (hw.kind hs0 (by rw [h5]; decide)).2.2
    obtain ⟨p, hp⟩ := um (hwt.du hs0).1 h5
    refine RR.f (by rw [h5]; rfl) ?_
    exact Xq hB hp (fJ hwt hs0 (by rw [hp]; simp)) hn ih n.Kids.length 0 [] (by omega) rfl
  · exact ⟨_, by have : (w.ai.Kind == 5) = false := by simpa using hk
                 rw [this]; rfl⟩
theorem RR.Rs {D β γ:Type} {Q:D->β->Prop} {Q':γ->β->Prop} {o:Option (aR D)} {q:Option (β×aS)} {f:D->Option (aR γ)} (h:RR Q o q) (hf:∀y z,Q y z->∃y',f y=some (.ret y')/\Q' y' z):RR Q' (Bw.aA o f) q:=by
 rcases h with⟨y,z,h,rfl,rfl⟩|⟨a,b,z,ha,rfl,rfl⟩
 ·obtain⟨y',e,h'⟩:=hf y z h;exact .inl ⟨y',z,h',e,rfl⟩
 ·exact .inr ⟨a,b,z,ha,rfl,rfl⟩
include hB in
theorem Wj {n : af} {w : ay} (hw : bW B w) (h51 : n.Kind = 51) (e : n.Text = [114, 101, 99]) (hn : n.Kids.length ≤ B) (hd : w.ai.Kind = 6 → ∀ (i j : Nat) t, w.ai.Names[i]? = some t → w.ai.Names[j]? = some t → i = j) (ih : ∀ e ∈ n.Kids, ∃ k, e.Kids = [k] ∧ RE B c k) : RR EQ ((cV Pu) c n w) ((kf Pu) (sc c) n w) := by
  have b0 : ∀ x : Option (ab × aS), (x.bind fun y => some y) = x := by intro x; cases x <;> rfl
  have ha : (dT Pu) [114, 101, 99] = some (-1) := by rw [er, dN]; rfl
  have hq : (lI Pu) [114, 101, 99] (n.Kids.length : Int) = some true := by rw [oL, kW]; rfl
  have ho : (eX Pu) n = some true := by rw [nR, kg, h51, e]; rfl
  rw [ew, dP, oM, kX, e, af.aB]
  refine RR.l ha (RR.r hq ?_)
  refine RR.aZ (fun h => absurd h (by decide)) (fun _ => ?_)
  refine RR.f rfl (RR.r ho (RR.t rfl ?_))
  have hcon : (nP Pu) (sc c) n w = bif !(w.ai.Kind == 6) then some ((⟨0, w, 0, [], 0, []⟩ : ab), ⟨4, n.At⟩) else (q0 Pu) (sc c) n w 0 [] := by rw [sm, mB, e]; simp only [dR, aq]; rfl
  rw [b0, hcon]
  refine RR.aZ (fun h => absurd h (by decide)) (fun _ => RR.aZ (fun h => absurd h (by decide)) (fun _ => RR.aZ (fun h => absurd h (by decide)) (fun _ => RR.aZ (fun h => absurd h (by decide)) (fun _ => RR.aZ (fun _ => ?_) (fun h => absurd h (by decide))))))
  refine qI hw (by simp) (by simp) (fun hs0 hk => ?_) (fun hk => ?_)
  · have h6 : w.ai.Kind = 6 := by simpa using hk
    have hwt := hw.some (hw.kind hs0 (by rw [h6]; decide)).2.2
    have ho := (hwt.du hs0).2
    have hlen : w.ai.aw.length ≤ B := by rw [ah.cM] at ho; exact ho.2.2.2.2.1.1
    refine RR.f (by rw [h6]; rfl) ?_
    rw [fill_eq hB (rq (hwt.du hs0).1 h6) hlen, IF, si, ah.aB, EO (by omega), aq, aq]
    have R := Xr hB hwt hs0 h6 (hd h6) hn ih (i0 := (w.ai.aw.length : Int)) (b0 := w.ai.aw.map (k9 n)) n.Kids.length 0 (List.replicate w.ai.aw.length ab.z) (List.replicate w.ai.aw.length false) [] (w.ai.aw.map (k9 n)) (by omega) (by simp) (by simp) (by simp) (by simp) (fun j p x f g1 g2 g3 => by
      have : f = false := by
        rw [DT] at g3
        split at g3
        · simpa using g3.symm
        · cases g3
      subst this
      rw [qu, g1]; rfl) (fun t => by
      simp only [gx, false_iff, not_exists, not_and]
      intro j _ h
      rw [DT] at h
      split at h <;> simp at h)
    exact RR.Rs R (fun y z h => ⟨_, rfl, h⟩)
  · exact ⟨_, by have : (w.ai.Kind == 6) = false := by simpa using hk
                 rw [this]; rfl⟩
theorem Vr {n : af} {w : ay} (hw : bW B w) (h51 : n.Kind = 51) (e : n.Text = [112, 97, 105, 114]) (ih : ∀ k ∈ n.Kids, RE B c k) : RR EQ ((cV Pu) c n w) ((kf Pu) (sc c) n w) := by
  have b0 : ∀ x : Option (ab × aS), (x.bind fun y => some y) = x := by intro x; cases x <;> rfl
  have ha : (dT Pu) [112, 97, 105, 114] = some 2 := by rw [er, dN]; rfl
  have hq : (lI Pu) [112, 97, 105, 114] (n.Kids.length : Int) = some ((n.Kids.length : Int) == 2) := by rw [oL, kW]; rfl
  rw [ew, dP, oM, kX, e, af.aB]
  refine RR.l ha (RR.r hq ?_)
  refine RR.aZ (fun _ => ?_) (fun h => absurd h (by decide))
  refine RR.aZ (fun h => RR.t ?_ RR.fail) (fun h => RR.f ?_ ?_)
  · have : (n.Kids.length : Int) ≠ 2 := fun h2 => by rw [h2] at h; simp at h
    simpa using this
  · have : (2 : Int) = (n.Kids.length : Int) := by simpa using h
    rw [← this]; rfl
  · have hl : n.Kids.length = 2 := by have : (2 : Int) = (n.Kids.length : Int) := by simpa using h
                                      omega
    obtain ⟨x, z, hx⟩ := gJ hl
    have ho : (eX Pu) n = some true := by rw [nR, kg, h51, e]; rfl
    have hcon : (nP Pu) (sc c) n w = bif !(w.ai.Kind == 7) then some ((⟨0, w, 0, [], 0, []⟩ : ab), ⟨4, n.At⟩) else (ao w.ai.aw 0).bind fun p => (ao w.ai.aw 1).bind fun q => ((dC Pu) (sc c) n.Kids [bN p, bN q]).bind fun y => some ((⟨26, w, 0, [], 0, y.fst⟩ : ab), y.snd) := by rw [sm, mB, e]; simp only [dR, lR, aq]; rfl
    refine RR.r ho (RR.t rfl ?_)
    rw [b0, hcon]
    refine RR.aZ (fun h => absurd h (by decide)) (fun _ => RR.aZ (fun h => absurd h (by decide)) (fun _ => RR.aZ (fun h => absurd h (by decide)) (fun _ => RR.aZ (fun h => absurd h (by decide)) (fun _ => RR.aZ (fun h => absurd h (by decide)) (fun _ => RR.aZ (fun _ => ?_) (fun h => absurd h (by decide)))))))
    refine qI hw (by simp) (by simp) (fun hs0 hk => ?_) (fun hk => ?_)
    · have h7 : w.ai.Kind = 7 := by simpa using hk
      have hwt := hw.some (hw.kind hs0 (by rw [h7]; decide)).2.2
      obtain ⟨p, q, hp⟩ := uo (hwt.du hs0).1 h7
      refine RR.f (by rw [h7]; rfl) ?_
      have wp : bW B (bN p) := .inr (fJ hwt hs0 (by rw [hp]; simp))
      have wq : bW B (bN q) := .inr (fJ hwt hs0 (by rw [hp]; simp))
      rw [hx, hp]
      refine RR.l (v := x) rfl ?_
      refine RR.l (v := p) rfl (RR.l (of_eq p) ?_)
      refine RR.r (v := p) rfl ?_
      refine RR.r (v := q) rfl ?_
      refine Cp (ih x (by rw [hx]; simp)) wp (ih z (by rw [hx]; simp)) wq (f := fun u v => some (.ret (⟨26, w, 0, [], 0, [u, v]⟩ : ab))) (fun u hu => ?_) (fun u v _ _ => .inl ⟨_, _, rfl, rfl, rfl⟩)
      rw [dz _ (by simp), aO]
      show (Option.bind (some ab.z) _) = _
      rw [aq]
      show (Option.bind (some z) _) = _
      rw [aq]
      show (Option.bind (some q) _) = _
      rw [aq, of_eq, aq]
      rfl
    · exact ⟨_, by have : (w.ai.Kind == 7) = false := by simpa using hk
                   rw [this]; rfl⟩
theorem TE {n : af} {w : ay} (h51 : n.Kind = 51) (e : n.Text ∈ [[115, 105, 122, 101], [115, 117, 109], [110, 117, 109, 98, 101, 114], [111, 110], [107, 101, 121, 115], [118, 97, 108, 117, 101, 115], [99, 111, 110, 102, 108, 105, 99, 116], [115, 101, 99, 111, 110, 100], [102, 105, 114, 115, 116]]) (ih : ∀ k ∈ n.Kids, RE B c k) : RR EQ ((cV Pu) c n w) ((kf Pu) (sc c) n w) := by
  have b0 : ∀ x : Option (ab × aS), (x.bind fun y => some y) = x := by intro x; cases x <;> rfl
  have fa : (dT Pu) n.Text = some 1 ∧ (lI Pu) n.Text (n.Kids.length : Int) = some ((n.Kids.length : Int) == 1) ∧ (eX Pu) n = some false ∧ (n.Text == [102, 108, 97, 103]) = false ∧ (n.Text == [110, 117, 109]) = false ∧ (n.Text == [115, 101, 116]) = false ∧ (n.Text == [109, 97, 112]) = false ∧ (n.Text == [114, 101, 99]) = false ∧ (n.Text == [112, 97, 105, 114]) = false ∧ (n.Text == [111, 110, 101]) = false ∧ (n.Text == [119, 114, 105, 116, 101]) = false := by
    rw [er, dN, oL, kW, nR, kg, h51]
    simp only [cu, gx, or_false] at e
    rcases e with e | e | e | e | e | e | e | e | e <;> rw [e] <;> exact ⟨rfl, rfl, rfl, rfl, rfl, rfl, rfl, rfl, rfl, rfl, rfl⟩
  obtain ⟨ha, hq, ho, f1, f2, f3, f4, f5, f6, f7, f8⟩ := fa
  rw [ew, dP, oM, kX, af.aB]
  refine RR.l ha (RR.r hq ?_)
  refine RR.aZ (fun _ => ?_) (fun h => absurd h (by decide))
  refine RR.aZ (fun h => RR.t ?_ RR.fail) (fun h => RR.f ?_ ?_)
  · have : (n.Kids.length : Int) ≠ 1 := fun h2 => by rw [h2] at h; simp at h
    simpa using this
  · have : (1 : Int) = (n.Kids.length : Int) := by simpa using h
    rw [← this]; rfl
  · have hl : n.Kids.length = 1 := by have : (1 : Int) = (n.Kids.length : Int) := by simpa using h
                                      omega
    obtain ⟨x, hx⟩ := ju hl
    refine RR.r ho (RR.f rfl (RR.f f8 ?_))
    rw [b0, f1, f2, f3, f4, f5, f6, f7, f8]
    exact RR.Rs (TF hx (ih x (by rw [hx]; simp)) e) (fun y z h => ⟨_, rfl, h⟩)
theorem ZU {γ δ:Type} {Q':γ->δ->Prop} {x y z:af} {a b d:ay} {o:ab->Option (aR γ)} {g:List ab×aS->Option (δ×aS)} (hx:RE B c x) (ha:bW B a) (hy:RE B c y) (hb:bW B b)
  (hz:RE B c z) (hd:bW B d) {f:ab->ab->ab->Option (aR γ)} {o2:ab->ab->Option (aR γ)} (ho:∀u,o u=Bw.aA ((bR Pu) c y b) (o2 u)) (ho2:∀u v,o2 u v=Bw.aA ((bR Pu) c z d) (f u v))
  (hf:∀u v t,EP B c x a u->EP B c y b v->EP B c z d t->RR Q' (f u v t) (g ([u,v,t],⟨0,0⟩)))
  (hg:∀a b,a≠0->∃z',g ([],⟨a,b⟩)=some (z',⟨a,b⟩)):
  RR Q' (Bw.aA ((bR Pu) c x a) o) (((dC Pu) (sc c) [x,y,z] [a,b,d]).bind g):=by
 rw[IJ,qb];have bad:∀(p q:Int) (k:ab) (R:Option (List ab×aS)),p≠0->∃z',Option.bind (bif ((k,(⟨p,q⟩:aS)):ab×aS).snd.Code !=0 then some ([],((k,(⟨p,q⟩:aS)):ab×aS).snd)else R) g=some (z',⟨p,q⟩):=λp q k R hp=>by
  obtain⟨z',e3⟩:=hg p q hp;exact⟨z',by show Option.bind (bif p !=0 then _ else _) g=_;rw[gN hp];exact e3⟩
 have e:=sS (s:=sc c) (ks:=[x,y,z]) (ws:=[a,b,d]) (a:=[]) (b:=[]) (i:=0) rfl rfl (by simp) (by simp);have e0:((0:Nat):Int)=0:=rfl;rw[e0]at e;rw[e,Ar];refine RR.bind (hx a ha) (λy1 u h=>?_) (λp q k hp=>bad p q k _ hp);obtain⟨rfl,h⟩:=h;show RR Q' (o u) (Option.bind ((kI Pu) (sc c) [x,y,z] [a,b,d] [] ([]++[u]) ((0+1:Nat):Int)) g);rw[ho u,sS (s:=sc c) (ks:=[x,y,z]) (ws:=[a,b,d]) (a:=[]) (b:=[]++[u]) (i:=0+1) rfl rfl (by simp) (by simp),Ar];refine RR.bind (hy b hb) (λy1 v h2=>?_) (λp q k hp=>bad p q k _ hp);obtain⟨rfl,h2⟩:=h2;show RR Q' (o2 u v) (Option.bind ((kI Pu) (sc c) [x,y,z] [a,b,d] [] ([]++[u]++[v]) ((0+1+1:Nat):Int)) g);rw[ho2 u v,sS (s:=sc c) (ks:=[x,y,z]) (ws:=[a,b,d]) (a:=[]) (b:=[]++[u]++[v]) (i:=0+1+1) rfl rfl (by simp) (by simp),Ar];refine RR.bind (hz d hd) (λy1 t h3=>?_) (λp q k hp=>bad p q k _ hp);obtain⟨rfl,h3⟩:=h3;show RR Q' (f u v t) (Option.bind ((kI Pu) (sc c) [x,y,z] [a,b,d] [] ([]++[u]++[v]++[t]) ((0+1+1+1:Nat):Int)) g);rw[Ew (s:=sc c) (ks:=[x,y,z]) (ws:=[a,b,d]) (a:=[]) (b:=[]++[u]++[v]++[t]) (i:=0+1+1+1) rfl];exact hf u v t h h2 h3
theorem UG {n : af} {w : ay} (hw : bW B w) (h51 : n.Kind = 51) (e : n.Text = [119, 114, 105, 116, 101]) (ih : ∀ k ∈ n.Kids, RE B c k) : RR EQ ((cV Pu) c n w) ((kf Pu) (sc c) n w) := by
  have b0 : ∀ x : Option (ab × aS), (x.bind fun y => some y) = x := by intro x; cases x <;> rfl
  have ha : (dT Pu) [119, 114, 105, 116, 101] = some 3 := by rw [er, dN]; rfl
  have hq : (lI Pu) [119, 114, 105, 116, 101] (n.Kids.length : Int) = some ((n.Kids.length : Int) == 3) := by rw [oL, kW]; rfl
  rw [ew, dP, oM, kX, e, af.aB]
  refine RR.l ha (RR.r hq ?_)
  refine RR.aZ (fun _ => ?_) (fun h => absurd h (by decide))
  refine RR.aZ (fun h => RR.t ?_ RR.fail) (fun h => RR.f ?_ ?_)
  · have : (n.Kids.length : Int) ≠ 3 := fun h2 => by rw [h2] at h; simp at h
    simpa using this
  · have : (3 : Int) = (n.Kids.length : Int) := by simpa using h
    rw [← this]; rfl
  · have hl : n.Kids.length = 3 := by have : (3 : Int) = (n.Kids.length : Int) := by simpa using h
                                      omega
    obtain ⟨x, y, z, hx⟩ := nH hl
    have ho : (eX Pu) n = some false := by rw [nR, kg, h51, e]; rfl
    refine RR.r ho (RR.f rfl (RR.t (by decide) (RR.r (lR _) (RR.r (cT 1) (RR.r (cT 3) ?_)))))
    refine RR.aZ (fun h => absurd h (by decide)) (fun _ => RR.aZ (fun h => absurd h (by decide)) (fun _ => RR.aZ (fun h => absurd h (by decide)) (fun _ => RR.aZ (fun h => absurd h (by decide)) (fun _ => RR.aZ (fun h => absurd h (by decide)) (fun _ => RR.aZ (fun h => absurd h (by decide)) (fun _ => RR.aZ (fun h => absurd h (by decide)) (fun _ => RR.aZ (fun _ => ?_) (fun h => absurd h (by decide)))))))))
    rw [hx]
    have wr : a7 B (bN eE) := a7.of wD (wQ B)
    refine RR.l (of_eq eE) ?_
    refine RR.l (v := x) rfl ?_
    refine ZU (ih x (by rw [hx]; simp)) (.inr wr) (ih y (by rw [hx]; simp)) (b := aL 1) (.inr (a7.sort (by simp))) (ih z (by rw [hx]; simp)) (d := aL 3) (.inr (a7.sort (by simp))) (f := fun u v t => some (.ret (⟨28, bN eE, 0, [], 0, [u, v, t]⟩ : ab))) (o2 := fun u v => Bw.aA ((bR Pu) c z (aL 3)) fun t => some (.ret (⟨28, bN eE, 0, [], 0, [u, v, t]⟩ : ab))) (fun u => ?_) (fun u v => rfl) (fun u v t _ _ _ => .inl ⟨_, _, rfl, rfl, rfl⟩) (fun p q hp => ⟨_, rfl⟩)
    rw [dz _ (by simp), aO]
    show (Option.bind (some ab.z) _) = _
    rw [aq]
    show (Option.bind (some y) _) = _
    rw [aq, bp, aq]
    congr 1
    funext v
    rw [dz _ (by simp), aO]
    show (Option.bind (some ab.z) _) = _
    rw [aq]
    show (Option.bind (some z) _) = _
    rw [aq, bp, aq]
    rfl
end
theorem D4 {l:ah} (h:ef l) (h6:l.Kind=6):∀(i j:Nat) t,l.Names[i]? =some t->l.Names[j]? =some t->i=j:=by
 have hN:nD l:=h.names;have one:∀(i j:Nat) t,l.Names[i]? =some t->l.Names[j]? =some t->¬i<j:=λi j t hi hj hij=>by
  have:=hN.2.2.1 h6 j t hj;rw[vO]at this;exact this t (bh (i:=i) (by rw[DU hij];exact hi)) (by simp)
 intro i j t hi hj;have h1:=one i j t hi hj;have h2:=one j i t hj hi;omega
section
variable {B:Nat} (hB:B<=1048576) {c:bJ} (hc:CE B c)
include hB in
theorem Wh {n:af} {w:ay} (hw:bW B w) (h51:n.Kind=51) (hs:dL n) (hn:n.Kids.length<=B) (ht:n.Text∈kP) (ih:∀k∈fj n,RE B c k):RR EQ ((cV Pu) c n w) ((kf Pu) (sc c) n w):=by
 have hs:(n.Text=dD->∀e∈n.Kids,e.Kids.length=2)/\(n.Text=dc->∀e∈n.Kids,e.Kids.length=1):=by
  unfold dL at hs;rcases hs with h|h|h|h|h
  ·omega
  ·omega
  ·omega
  ·omega
  ·exact h.2
 by_cases h1:n.Text=dD
 ·rw[xz h51 (.inl h1)]at ih;refine Wi hB hw h51 h1 hn (λe he=>?_);obtain⟨a,b,hab⟩:=gJ (hs.1 h1 e he);exact⟨a,b,hab,ih a (eH.2 ⟨e,he,by rw[hab];simp⟩),ih b (eH.2 ⟨e,he,by rw[hab];simp⟩)⟩
 by_cases h2:n.Text=dc
 ·rw[xz h51 (.inr h2)]at ih;refine Wj hB hw h51 h2 hn (λh6=>?_) (λe he=>?_)
  ·rcases hw with rfl|hw
   ·cases h6
   ·refine D4 (hw.du ?_).1 h6;by_cases h0:w.aK=0
    ·exact h0
    ·have:=hw.rG h0;rw[h6]at this;cases this
  ·obtain⟨a,ha⟩:=ju (hs.2 h2 e he);exact⟨a,ha,ih a (eH.2 ⟨e,he,by rw[ha];simp⟩)⟩
 rw[Cb h1 h2]at ih;simp only[kP,cu,gx,or_false]at ht;rcases ht with h|h|h|h|h|h|h|h|h
 ·exact Wk hw h51 h ih
 ·exact Xn hw h51 h ih
 ·exact Wl hB hw h51 h hn ih
 ·exact absurd h h1
 ·exact absurd h h2
 ·exact Vr hw h51 h ih
 ·exact Xo hw h51 h ih
 ·exact UG hw h51 h ih
 ·refine TE h51 ?_ ih;simp only[cu,gx,or_false];exact h
include hB hc in
theorem Xb {n:af} (h:WN B n):CN n->RE B c n:=by
 induction h with
 |mk hs hl h44 h47 hk ih=>
  intro hC w hw;rename_i n;obtain⟨h5,hCk⟩:(n.Kind=51->n.Text∈kP)/\∀k∈fj n,CN k:=by cases hC;exact⟨by assumption,by assumption⟩
  have hr:=λk hm=>ih k hm (hCk k hm);refine Wm hB hw (NN hB hc hw (.mk hs hl h44 h47 hk) λk hm=>Mo hB hc (hk k hm)) ?_;exact Xp hc hB hw (.mk hs hl h44 h47 hk) hr λh51=>Wh hB hw h51 hs hl (h5 h51) hr
end
section
variable {B:Nat} (hB:B<=1048576)
include hB
theorem KV:∀a:ab,TT B a->∀b:ab,b.ok B->(mK Pu) a b=some (cF a b):=by
 refine ab.ind λa ih ha b hb=>?_;rw[ab.cM]at hb;obtain⟨_,_,_,_,_,hkl,hkk⟩:=hb;have hkids:a.Kids.length=b.Kids.length->(uc Pu) a b 0=some (cF a.Kids b.Kids):=λh=>by
  rw[og (a:=a.Kids) (b:=b.Kids) (L:=(uc Pu) a b) cF true h ?_ ?_]
  ·rw[oY,Fg h]
  ·intro i x y hx hy hi;rw[Fw,rm,ab.aB,mW (by omega)];have h1:decide ((i:Int)<(a.Kids.length:Int))=true:=by simpa using hi
   rw[h1,bc hx,bc hy];show(((mK Pu) x y).bind _)=_;rw[ih x (bh hx) (ha.ez (bh hx)) y (ab.gF hkk (bh hy))];show(bif !(cF x y)then _ else _)=_;cases cF x y<;>rfl
  ·rw[Fw,rm,ab.aB];simp
 obtain⟨r,e1,hr⟩:=AZ (b:=b.aj) hB ha.ty.ok;have e2:r=cF a.aj b.aj:=mj hr;rw[SP,vG,e1,e2,ab.aB,ab.aB];have e:cF a b=(a.Op==b.Op&&(cF a.aj b.aj&&(a.N==b.N&&(a.Text==b.Text&&(a.At==b.At&&cF a.Kids b.Kids))))):=by
  symm;apply mj;cases a;cases b;simp only[bG,beq_iff_eq,nn,ab.mk.injEq]
 rw[e];simp only[aq,bne];by_cases h:a.Kids.length=b.Kids.length
 ·have h0:((a.Kids.length:Int)==(b.Kids.length:Int))=true:=by simp[h]
  rw[hkids h,h0];generalize (a.Op==b.Op)=c1;generalize cF a.aj b.aj=c2;generalize (a.N==b.N)=c3;generalize (a.Text==b.Text)=c4;generalize (a.At==b.At)=c5;cases c1<;>cases c2<;>cases c3<;>cases c4<;>cases c5<;>rfl
 ·have h0:((a.Kids.length:Int)==(b.Kids.length:Int))=false:=by simpa usingλe=>h (by omega)
  have h2:cF a.Kids b.Kids=false:=by
   rw[<-J4,nn];intro e;exact h (congrArg List.length e)
  rw[h0,h2];generalize (a.Op==b.Op)=c1;generalize cF a.aj b.aj=c2;generalize (a.N==b.N)=c3;generalize (a.Text==b.Text)=c4;generalize (a.At==b.At)=c5;cases c1<;>cases c2<;>cases c3<;>cases c4<;>cases c5<;>rfl
end
theorem Vq (op:Int):∃r,(ko Pu) op=some r/\(eD Pu) op=some r/\(r=[]\/r∈kP)/\(r=dD↔op=24)/\(r=dc↔op=25):=by
 obtain⟨r,e,h⟩:=LC op;have h2:(eD Pu) op=(ko Pu) op:=by rw[CI,qc,zJ,oR]
 refine⟨r,e,by rw[h2,e],?_,h⟩;have k:ag ((ko Pu) op) (λr=>r=[]\/r∈kP):=by
  rw[zJ,oR]
  repeat' (first|refine ag.bif (λ_=>?_) (λ_=>?_)|refine ag.ret ?_)
  all_goals decide
 obtain⟨r',e',h'⟩:=k;rw[e]at e';cases e';exact h'
inductive fq:ab->Prop
 |c {y:ab}:(y.Op=6\/(21<=y.Op/\y.Op<=27))->fq y
 |j {t:ay} {n:Int} {s:List UInt8} {a:Int} {x y:ab}:fq x->fq y->fq ⟨16,t,n,s,a,[x,y]⟩
 |i {t:ay} {n:Int} {s:List UInt8} {a:Int} {c x y:ab}:fq x->fq y->fq ⟨7,t,n,s,a,[c,x,y]⟩
theorem jM {w:ay} (h:isNone w=true):w.aK=0/\w.ai.Kind=0:=by
 unfold isNone at h;simpa using h
theorem W.closed {l:ah} {ps:List TParam} {y:ab} {w:ay} (h:W l ps y w):isNone w=true->¬fq y:=by
 have z:isNone (aL 0)=true:=rfl
 induction h with
 |jl _ hn=>intro h;rw[hn]at h;cases h
 |iX hn=>intro h;rw[hn]at h;cases h
 |jt hn=>intro h;rw[hn]at h;cases h
 |kY _ _ _ _ _ i2 _=>intro _ ho;cases ho with|c h=>(simp at h)|i h1 h2=>exact i2 z h1
 |kZ _ _ _ _ _ i2 _=>intro _ ho;cases ho with|c h=>(simp at h)|i h1 h2=>exact i2 z h2
 |kQ _ _ _ _ i1 _=>intro _ ho;cases ho with|c h=>(simp at h)|j h1 h2=>exact i1 z h1
 |kR _ _ _ _ i1 _=>intro _ ho;cases ho with|c h=>(simp at h)|j h1 h2=>exact i1 z h2
 |flag _ hk=>intro h;have:=(jM h).2;omega
 |num _ hk=>intro h;have:=(jM h).2;omega
 |iY _ hk=>intro h;have:=(jM h).2;omega
 |map _ hk=>intro h;have:=(jM h).2;omega
 |gT _ hk=>intro h;have:=(jM h).2;omega
 |pair _ hk=>intro h;have:=(jM h).2;omega
 |one _ hk=>intro h;have:=(jM h).2;omega
 |conn ho=>intro _ h;cases h with|c h=>(simp at h;omega)|j=>omega
 |less ho=>intro _ h;cases h with|c h=>(simp at h;omega)|j=>omega
 |jA ho=>intro _ h;cases h with|c h=>(simp at h;omega)|j=>omega
 |lj hm=>intro _ h;cases h with|c h=>(simp at h hm;omega)
 |part ho=>intro _ h;cases h with|c h=>(simp at h;omega)
 |_=>intro _ h;cases h with|c h=>simp at h
theorem W.qf {l:ah} {ps:List TParam} {x:ab} {w:ay} (h:W l ps x w) (hn:isNone w=false):w=x.aj:=by
 cases h
 all_goals first
  |rfl
  |(rename_i hf;exact hf hn)
  |(exfalso;simp_all;done)
theorem W.free {l:ah} {ps:List TParam} {y:ab} {w:ay} (h:W l ps y w):¬fq y->W l ps y (aL 0):=by
 have z:isNone (aL 0)=true:=rfl
 induction h with
 |int h1 h2 _=>exactλ_=> .int h1 h2 fZ
 |bool h1 _=>exactλ_=> .bool h1 fZ
 |name h1 _=>exactλ_=> .name h1 fZ
 |param h1 _=>exactλ_=> .param h1 fZ
 |state _=>exactλ_=> .state fZ
 |jl=>exactλh=>absurd (.c (.inl rfl)) h
 | @iX c x y a w hn hc hx hy _ ix iy=>
  intro ho;have ex:=hx.qf hn;have ey:=hy.qf hn;by_cases h1:fq x
  ·have h2:¬fq y:=λh2=>ho (.i h1 h2);have:W l ps ⟨7,x.aj,0,[],a,[c,x,y]⟩ (aL 0):= .kZ z hc (iy h2) (by rw[<-ey];exact hx);rw[<-ex]at this;exact this
  ·have:W l ps ⟨7,x.aj,0,[],a,[c,x,y]⟩ (aL 0):= .kY z hc (ix h1) (by rw[<-ex];exact hy);rw[<-ex]at this;exact this
 |kY _ h1 h2 h3=>exactλ_=> .kY z h1 h2 h3
 |kZ _ h1 h2 h3=>exactλ_=> .kZ z h1 h2 h3
 |conn ho h1 h2 _=>exactλ_=> .conn ho h1 h2 fZ
 |not h1 _=>exactλ_=> .not h1 fZ
 |less ho h1 h2 _=>exactλ_=> .less ho h1 h2 fZ
 |equal h1 h2 h3 _=>exactλ_=> .equal h1 h2 h3 fZ
 |mC h1 h2 _=>exactλ_=> .mC h1 h2 fZ
 |mD h1 h2 h3 _=>exactλ_=> .mD h1 h2 h3 fZ
 |mE h1 h2 h3 _=>exactλ_=> .mE h1 h2 h3 fZ
 | @jt x y a w hn hs hx hy ix iy=>
  intro ho;have ex:=hx.qf hn;have ey:=hy.qf hn;by_cases h1:fq x
  ·have h2:¬fq y:=λh2=>ho (.j h1 h2);have:W l ps ⟨16,x.aj,0,[],a,[x,y]⟩ (aL 0):= .kR z (iy h2) (by rw[<-ey];exact hs) (by rw[<-ey];exact hx);rw[<-ex]at this;exact this
  ·have:W l ps ⟨16,x.aj,0,[],a,[x,y]⟩ (aL 0):= .kQ z (ix h1) (by rw[<-ex];exact hs) (by rw[<-ex];exact hy);rw[<-ex]at this;exact this
 |kQ _ h1 h2 h3=>exactλ_=> .kQ z h1 h2 h3
 |kR _ h1 h2 h3=>exactλ_=> .kR z h1 h2 h3
 |jA ho h1 h2 _=>exactλ_=> .jA ho h1 h2 fZ
 |field h1 h2 h3 h4 h5 _=>exactλ_=> .field h1 h2 h3 h4 h5 fZ
 |at_ h1 h2 h3 h4 h5 _=>exactλ_=> .at_ h1 h2 h3 h4 h5 fZ
 |write h1 h2 h3 _=>exactλ_=> .write h1 h2 h3 fZ
 |size h1 h2 _=>exactλ_=> .size h1 h2 fZ
 |sum h1 h2 h3 h4 h5 _=>exactλ_=> .sum h1 h2 h3 h4 h5 fZ
 |lj hm h1 h2 h3 _=>exactλ_=> .lj hm h1 h2 h3 fZ
 |part ho h1 h2 h3 h4 _=>exactλ_=> .part ho h1 h2 h3 h4 fZ
 |_=>exactλh=>absurd (.c (.inr (by simp))) h
def eF:List (Int×Int):=[(8,31),(9,32),(11,34),(12,35),(13,36),(14,37),(15,38),(16,39),(17,40),(18,41),(20,43)]
def eO:List (Int×List UInt8):=[(21,[102,108,97,103]),(22,[110,117,109]),(27,[111,110,101]),(29,[115,105,122,101]),(30,[115,117,109]),(31,[110,117,109,98,101,114]),(32,[111,110]),(33,[107,101,121,115]),(34,[118,97,108,117,101,115]),(35,[102,105,114,115,116]),(36,[115,101,99,111,110,100]),(37,[99,111,110,102,108,105,99,116])]
def yW:List UInt8:=[115,101,116]
def Co:List UInt8:=[112,97,105,114]
def Cc:List UInt8:=[119,114,105,116,101]
def fm (e:List UInt8×Int×af×af):af:=⟨52,e.1,0,e.2.1,[e.2.2.1,e.2.2.2]⟩
def eZ (ns:List (List UInt8)) (e:Nat×Int×af):af:=⟨52,(ns[e.1]?).getD [],0,e.2.1,[e.2.2]⟩
inductive Br (ps:List TParam):ab->af->Prop
 |int {t:ay} {k a:Int}:Br ps ⟨1,t,k,[],a,[]⟩ ⟨44,[],k,a,[]⟩
 |tr {t:ay} {a:Int}:Br ps ⟨2,t,1,[],a,[]⟩ ⟨45,[],0,a,[]⟩
 |fl {t:ay} {a:Int}:Br ps ⟨2,t,0,[],a,[]⟩ ⟨46,[],0,a,[]⟩
 |name {t:ay} {s:List UInt8} {a:Int}:Br ps ⟨3,t,0,s,a,[]⟩ ⟨47,s,0,a,[]⟩
 |param {t:ay} {i:Nat} {p:TParam} {a:Int}:ps[i]? =some p->Br ps ⟨4,t,i,[],a,[]⟩ ⟨48,p.Name,0,a,[]⟩
 |state {t:ay} {a:Int}:Br ps ⟨5,t,0,[],a,[]⟩ ⟨49,[],0,a,[]⟩
 |jl {t:ay} {a:Int}:Br ps ⟨6,t,0,[],a,[]⟩ ⟨50,[],0,a,[]⟩
 |ite {t:ay} {a:Int} {c x y:ab} {c' x' y':af}:Br ps c c'->Br ps x x'->Br ps y y'->Br ps ⟨7,t,0,[],a,[c,x,y]⟩ ⟨30,[],0,a,[c',x',y']⟩
 |two {op kd:Int} {t:ay} {a:Int} {x y:ab} {x' y':af}:(op,kd)∈eF->Br ps x x'->Br ps y y'->Br ps ⟨op,t,0,[],a,[x,y]⟩ ⟨kd,[],0,a,[x',y']⟩
 |not {t:ay} {a:Int} {x:ab} {x':af}:Br ps x x'->Br ps ⟨10,t,0,[],a,[x]⟩ ⟨33,[],0,a,[x']⟩
 |field {t:ay} {a:Int} {i:Nat} {s:List UInt8} {x:ab} {x':af}:x.aj.ai.Names[i]? =some s->Br ps x x'->Br ps ⟨19,t,i,[],a,[x]⟩ ⟨42,s,0,a,[x']⟩
 |k8 {op:Int} {s:List UInt8} {t:ay} {a:Int} {x:ab} {x':af}:(op,s)∈eO->Br ps x x'->Br ps ⟨op,t,0,[],a,[x]⟩ ⟨51,s,0,a,[x']⟩
 |pair {t:ay} {a:Int} {x y:ab} {x' y':af}:Br ps x x'->Br ps y y'->Br ps ⟨26,t,0,[],a,[x,y]⟩ ⟨51,Co,0,a,[x',y']⟩
 |write {t:ay} {a:Int} {x y z:ab} {x' y' z':af}:Br ps x x'->Br ps y y'->Br ps z z'->Br ps ⟨28,t,0,[],a,[x,y,z]⟩ ⟨51,Cc,0,a,[x',y',z']⟩
 |iY {t:ay} {a:Int} {kids:List ab} {ks:List af}:kids.length=ks.length->(∀(i:Nat) k k',kids[i]? =some k->ks[i]? =some k'->Br ps k k')->Br ps ⟨23,t,0,[],a,kids⟩ ⟨51,yW,0,a,ks⟩
 |map {t:ay} {a:Int} {kids:List ab} {qs:List (ab×ab)} {es:List (List UInt8×Int×af×af)}:(kids=qs.flatMap λq=>[q.1,q.2])->qs.length=es.length->(∀(i:Nat) q e,qs[i]? =some q->es[i]? =some e->Br ps q.1 e.2.2.1)->(∀(i:Nat) q e,qs[i]? =some q->es[i]? =some e->Br ps q.2 e.2.2.2)->Br ps ⟨24,t,0,[],a,kids⟩ ⟨51,dD,0,a,es.map fm⟩
 |gT {t:ay} {a:Int} {kids:List ab} {es:List (Nat×Int×af)}:t.ai.Names.length=kids.length->es.length<=kids.length->(∀(i j:Nat) e e',es[i]? =some e->es[j]? =some e'->e.1=e'.1->i=j)->(∀e∈es,e.1<kids.length)->(∀(e:Nat×Int×af) k,e∈es->kids[e.1]? =some k->Br ps k e.2.2)->(∀(j:Nat) k,kids[j]? =some k->(∃e∈es,e.1=j)\/(k.Op=6/\k.At=a))->Br ps ⟨25,t,0,[],a,kids⟩ ⟨51,dc,0,a,es.map (eZ t.ai.Names)⟩
theorem LO {D:Type}:∀{l m:List (D×D)},(l.flatMap λq=>[q.1,q.2])=(m.flatMap λq=>[q.1,q.2])->l=m
 |[],[],_=>rfl
 |[],_::_,h=>by simp at h
 |_::_,[],h=>by simp at h
 |p::l,q::m,h=>by
  simp only[Af,jJ,Am,ll]at h;obtain⟨h1,h2,h3⟩:=h;rw[LO h3,Prod.ext h1 h2]
theorem NR {ps:List TParam}:∀(y:ab) (n:af),Br ps y n->ag ((mz Pu) n) (λb=>b=true↔fq y):=by
 refine ab.ind λy ih n hb=>?_;have no:∀{y:ab},¬fq y->ag (some false) (λb=>b=true↔fq y):=λh=>ag.ret ⟨λe=>(by cases e),λe=>absurd e h⟩;have yes:∀{y:ab},fq y->ag (some true) (λb=>b=true↔fq y):=λh=>ag.ret ⟨λ_=>h,λ_=>rfl⟩;have cl:∀{op:Int} {t:ay} {k a:Int} {s:List UInt8} {ks:List ab},op≠6->¬(21<=op/\op<=27)->op≠16->op≠7->¬fq ⟨op,t,k,s,a,ks⟩:=by
  intro op t k a s ks h1 h2 h3 h4 h;cases h with
  |c h=>rcases h with h|h;exact h1 h;exact h2 h
  |j=>exact h3 rfl
  |i=>exact h4 rfl
 rw[ID,rW];cases hb with
 |jl=>exact yes (.c (.inl rfl))
 |ite h1 h2 h3=>
  simp only[Int.reduceBEq,aO,a6];refine ag.aC rfl (ag.bind (ih _ (by simp) _ h2) (λb hb=>ag.bif (λh=>?_) (λh=>no λe=>?_)))
  ·refine ag.aC rfl (ag.bind (ih _ (by simp) _ h3) (λb2 hb2=>ag.ret ⟨λe=> .i (hb.1 h) (hb2.1 e),λe=>?_⟩));cases e with
   |c h=>simp at h
   |i _ h=>exact hb2.2 h
  ·cases e with
   |c h=>simp at h
   |i h' _=>rw[hb.2 h']at h;cases h
 |two hm h1 h2=>
  simp only[eF,cu,gx,or_false,ck]at hm;rcases hm with⟨rfl,rfl⟩|⟨rfl,rfl⟩|⟨rfl,rfl⟩|⟨rfl,rfl⟩|⟨rfl,rfl⟩|⟨rfl,rfl⟩|⟨rfl,rfl⟩|⟨rfl,rfl⟩|⟨rfl,rfl⟩|⟨rfl,rfl⟩|⟨rfl,rfl⟩
  all_goals simp only[Int.reduceBEq,aO,a6]
  all_goals first|exact no (cl (by decide) (by decide) (by decide) (by decide))|skip
  refine ag.aC rfl (ag.bind (ih _ (by simp) _ h1) (λb hb=>ag.bif (λh=>?_) (λh=>no λe=>?_)))
  ·refine ag.aC rfl (ag.bind (ih _ (by simp) _ h2) (λb2 hb2=>ag.ret ⟨λe=> .j (hb.1 h) (hb2.1 e),λe=>?_⟩));cases e with
   |c h=>simp at h
   |j _ h=>exact hb2.2 h
  ·cases e with
   |c h=>simp at h
   |j h' _=>rw[hb.2 h']at h;cases h
 |k8 hm h1=>
  simp only[eO,cu,gx,or_false,ck]at hm;rcases hm with⟨rfl,rfl⟩|⟨rfl,rfl⟩|⟨rfl,rfl⟩|⟨rfl,rfl⟩|⟨rfl,rfl⟩|⟨rfl,rfl⟩|⟨rfl,rfl⟩|⟨rfl,rfl⟩|⟨rfl,rfl⟩|⟨rfl,rfl⟩|⟨rfl,rfl⟩|⟨rfl,rfl⟩
  all_goals first|exact yes (.c (.inr (by simp)))|exact no (cl (by decide) (by decide) (by decide) (by decide))
 |pair=>exact yes (.c (.inr (by simp)))
 |iY=>exact yes (.c (.inr (by simp)))
 |map=>exact yes (.c (.inr (by simp)))
 |gT=>exact yes (.c (.inr (by simp)))
 |_=>exact no (cl (by decide) (by decide) (by decide) (by decide))
theorem W.own {B:Nat} {l:ah} {ps:List TParam} {y:ab} {w:ay} (h:W l ps y w):isNone w=true->TT B y->W l ps y y.aj:=by
 have z:isNone (aL 0)=true:=rfl;have ff:∀t:ay,Fit t t:=λ_ _=>rfl
 induction h with
 |int h1 h2 _=>exactλ_ _=> .int h1 h2 (ff _)
 |bool h1 _=>exactλ_ _=> .bool h1 (ff _)
 |name h1 _=>exactλ_ _=> .name h1 (ff _)
 |param h1 _=>exactλ_ _=> .param h1 (ff _)
 |state _=>exactλ_ _=> .state (ff _)
 |jl _ hn=>intro h;rw[hn]at h;cases h
 |iX hn=>intro h;rw[hn]at h;cases h
 |jt hn=>intro h;rw[hn]at h;cases h
 | @kY c x y a w _ hc hx hy _ ix _=>exactλ_ ht=> .iX ht.ty.eB hc (ix z (ht.ez (by simp))) hy
 | @kZ c x y a w _ hc hy hx _ iy _=>
  intro _ ht;have e:=hx.qf (ht.ez (k:=y) (by simp)).ty.eB;exact .iX ht.ty.eB hc (by show W l ps x x.aj;rw[<-e];exact hx) (by show W l ps y x.aj;rw[<-e];exact iy z (ht.ez (by simp)))
 |conn ho h1 h2 _=>exactλ_ _=> .conn ho h1 h2 (ff _)
 |not h1 _=>exactλ_ _=> .not h1 (ff _)
 |less ho h1 h2 _=>exactλ_ _=> .less ho h1 h2 (ff _)
 |equal h1 h2 h3 _=>exactλ_ _=> .equal h1 h2 h3 (ff _)
 |mC h1 h2 _=>exactλ_ _=> .mC h1 h2 (ff _)
 |mD h1 h2 h3 _=>exactλ_ _=> .mD h1 h2 h3 (ff _)
 |mE h1 h2 h3 _=>exactλ_ _=> .mE h1 h2 h3 (ff _)
 | @kQ x y a w _ hx hs hy ix _=>exactλ_ ht=> .jt ht.ty.eB hs (ix z (ht.ez (by simp))) hy
 | @kR x y a w _ hy hs hx iy _=>
  intro _ ht;have e:=hx.qf (ht.ez (k:=y) (by simp)).ty.eB;exact .jt ht.ty.eB (by show x.aj.aK=0;rw[<-e];exact hs) (by show W l ps x x.aj;rw[<-e];exact hx) (by show W l ps y x.aj;rw[<-e];exact iy z (ht.ez (by simp)))
 |jA ho h1 h2 _=>exactλ_ _=> .jA ho h1 h2 (ff _)
 |field h1 h2 h3 h4 h5 _=>exactλ_ _=> .field h1 h2 h3 h4 h5 (ff _)
 |at_ h1 h2 h3 h4 h5 _=>exactλ_ _=> .at_ h1 h2 h3 h4 h5 (ff _)
 |write h1 h2 h3 _=>exactλ_ _=> .write h1 h2 h3 (ff _)
 |size h1 h2 _=>exactλ_ _=> .size h1 h2 (ff _)
 |sum h1 h2 h3 h4 h5 _=>exactλ_ _=> .sum h1 h2 h3 h4 h5 (ff _)
 |lj hm h1 h2 h3 _=>exactλ_ _=> .lj hm h1 h2 h3 (ff _)
 |part ho h1 h2 h3 h4 _=>exactλ_ _=> .part ho h1 h2 h3 h4 (ff _)
 |flag _ hk=>intro h;have:=(jM h).2;omega
 |num _ hk=>intro h;have:=(jM h).2;omega
 |iY _ hk=>intro h;have:=(jM h).2;omega
 |map _ hk=>intro h;have:=(jM h).2;omega
 |gT _ hk=>intro h;have:=(jM h).2;omega
 |pair _ hk=>intro h;have:=(jM h).2;omega
 |one _ hk=>intro h;have:=(jM h).2;omega
