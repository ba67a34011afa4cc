/- The elaborator against the reference's: calls by name. -/
import Derived.Test.YtfgnmgbiijpkiaaGreatKRk
import Derived.Test.YtfgnmgbiijpkiaaGreatKVa9
set_option linter.all false
namespace Go.Proofs.YtfgnmgbiijpkiaaGreat
open Go Go.Bw
theorem dz (ks:List ab) (h:ks.length<=3):decide (ks.length<=274877906944)=true:=by simp;omega
section
variable {B:Nat} (hB:B<=1048576) {c:bR}
theorem O4 {n : ae} {w : az} (hw : cd B w) (h51 : n.Kind = 51) (e : n.Text = [102, 108, 97, 103]) (ih : ∀ k ∈ n.Kids, RE B c k) : RR EQ ((f159 Pf) c n w) ((f164 Pf) (sc c) n w) := by
  have b0 : ∀ x : Option (ab × aK), (x.bind fun y => some y) = x := by intro x; cases x <;> rfl
  have ha : (f197 Pf) [102, 108, 97, 103] = some 1 := by rw [kY, iq]; rfl
  have hq : (f210 Pf) [102, 108, 97, 103] (n.Kids.length : Int) = some ((n.Kids.length : Int) == 1) := by rw [lH, iX]; rfl
  rw [kZ, ir, lI, iY, e, ae.bc]
  refine RR.l ha (RR.r hq ?_)
  refine RR.aZ (fun _ => ?_) (fun h => absurd h (by decide))
  refine RR.aZ (fun h => RR.t ?_ RR.fail) (fun h => RR.f ?_ ?_)
  · have : (n.Kids.length : Int) ≠ 1 := fun h2 => by rw [h2] at h; simp at h
    simpa using this
  · have : (1 : Int) = (n.Kids.length : Int) := by simpa using h
    rw [← this]; rfl
  · have hl : n.Kids.length = 1 := by have : (1 : Int) = (n.Kids.length : Int) := by simpa using h
                                      omega
    obtain ⟨x, hx⟩ := jy hl
    have ho : (f209 Pf) n = some true := by rw [k3, iv, h51, e]; rfl
    have hcon : (f211 Pf) (sc c) n w = bif !(w.aj.Kind == 1) then some ((⟨0, w, 0, [], 0, []⟩ : ab), ⟨4, n.At⟩) else ((f163 Pf) (sc c) n.Kids [ba 2]).bind fun y => some ((⟨21, w, 0, [], 0, y.fst⟩ : ab), y.snd) := by rw [nY, kn, e]; simp only [dB, cX, aN]; rfl
    refine RR.r ho (RR.t rfl ?_)
    rw [b0, hcon]
    refine RR.aZ (fun _ => ?_) (fun h => absurd h (by decide))
    refine nb hw (by simp) (by simp) (fun hs0 hk => ?_) (fun hk => ?_)
    · have step : RR EQ ((ax n.Kids 0).bind fun x => ((f113 Pf) 2).bind fun t => Bw.aH ((f48 Pf) c x t) fun y => bif decide (([ab.z] : List ab).length ≤ 274877906944) then (ax [ab.z] 0).bind fun _ => some (.ret (⟨21, w, 0, [], 0, [ab.z].set (Int.toNat 0) y⟩ : ab)) else none) (((f163 Pf) (sc c) n.Kids [ba 2]).bind fun y => some ((⟨21, w, 0, [], 0, y.fst⟩ : ab), y.snd)) := by
        rw [hx]
        refine RR.l (v := x) rfl (RR.l (dh 2) ?_)
        exact sL (ih x (by rw [hx]; simp)) (.inr (bq.sort (by simp))) (fun u _ => .inl ⟨_, _, rfl, rfl, rfl⟩)
      refine RR.f (by simp at hk; rw [hk]; rfl) ?_
      exact step
    · exact ⟨_, by have : (w.aj.Kind == 1) = false := by simpa using hk
                   rw [this]; rfl⟩
theorem PT {n : ae} {w : az} (hw : cd B w) (h51 : n.Kind = 51) (e : n.Text = [110, 117, 109]) (ih : ∀ k ∈ n.Kids, RE B c k) : RR EQ ((f159 Pf) c n w) ((f164 Pf) (sc c) n w) := by
  have b0 : ∀ x : Option (ab × aK), (x.bind fun y => some y) = x := by intro x; cases x <;> rfl
  have ha : (f197 Pf) [110, 117, 109] = some 1 := by rw [kY, iq]; rfl
  have hq : (f210 Pf) [110, 117, 109] (n.Kids.length : Int) = some ((n.Kids.length : Int) == 1) := by rw [lH, iX]; rfl
  rw [kZ, ir, lI, iY, e, ae.bc]
  refine RR.l ha (RR.r hq ?_)
  refine RR.aZ (fun _ => ?_) (fun h => absurd h (by decide))
  refine RR.aZ (fun h => RR.t ?_ RR.fail) (fun h => RR.f ?_ ?_)
  · have : (n.Kids.length : Int) ≠ 1 := fun h2 => by rw [h2] at h; simp at h
    simpa using this
  · have : (1 : Int) = (n.Kids.length : Int) := by simpa using h
    rw [← this]; rfl
  · have hl : n.Kids.length = 1 := by have : (1 : Int) = (n.Kids.length : Int) := by simpa using h
                                      omega
    obtain ⟨x, hx⟩ := jy hl
    have ho : (f209 Pf) n = some true := by rw [k3, iv, h51, e]; rfl
    have hcon : (f211 Pf) (sc c) n w = bif w.aj.Kind == 2 then ((f163 Pf) (sc c) n.Kids [ba 1]).bind fun y => some ((⟨22, w, 0, [], 0, y.fst⟩ : ab), y.snd) else bif !(w.aj.Kind == 3) then some ((⟨0, w, 0, [], 0, []⟩ : ab), ⟨4, n.At⟩) else ((f163 Pf) (sc c) n.Kids [ba 1]).bind fun y => some ((⟨22, w, 0, [], 0, y.fst⟩ : ab), y.snd) := by rw [nY, kn, e]; simp only [dB, cX, aN]; rfl
    refine RR.r ho (RR.t rfl ?_)
    rw [b0, hcon]
    refine RR.aZ (fun h => absurd h (by decide)) (fun _ => RR.aZ (fun _ => ?_) (fun h => absurd h (by decide)))
    refine nb hw (by simp) (by simp) (fun hs0 hk => ?_) (fun hk => ?_)
    · have step : RR EQ ((ax n.Kids 0).bind fun x => ((f113 Pf) 1).bind fun t => Bw.aH ((f48 Pf) c x t) fun y => bif decide (([ab.z] : List ab).length ≤ 274877906944) then (ax [ab.z] 0).bind fun _ => some (.ret (⟨22, w, 0, [], 0, [ab.z].set (Int.toNat 0) y⟩ : ab)) else none) (((f163 Pf) (sc c) n.Kids [ba 1]).bind fun y => some ((⟨22, w, 0, [], 0, y.fst⟩ : ab), y.snd)) := by
        rw [hx]
        refine RR.l (v := x) rfl (RR.l (dh 1) ?_)
        exact sL (ih x (by rw [hx]; simp)) (.inr (bq.sort (by simp))) (fun u _ => .inl ⟨_, _, rfl, rfl, rfl⟩)
      simp only [dc, mS, or_false] at hk
      by_cases h2 : w.aj.Kind = 2
      · exact RR.t (by rw [h2]; rfl) step
      · exact RR.f (by simpa using h2) (RR.f (by have : w.aj.Kind = 3 := by omega
                                                 rw [this]; rfl) step)
    · simp at hk
      have h1 : (w.aj.Kind == 2) = false := by simpa using hk.1
      have h2 : (w.aj.Kind == 3) = false := by simpa using hk.2
      exact ⟨_, by rw [h1, h2]; rfl⟩
theorem PU {n : ae} {w : az} (hw : cd B w) (h51 : n.Kind = 51) (e : n.Text = [111, 110, 101]) (ih : ∀ k ∈ n.Kids, RE B c k) : RR EQ ((f159 Pf) c n w) ((f164 Pf) (sc c) n w) := by
  have b0 : ∀ x : Option (ab × aK), (x.bind fun y => some y) = x := by intro x; cases x <;> rfl
  have ha : (f197 Pf) [111, 110, 101] = some 1 := by rw [kY, iq]; rfl
  have hq : (f210 Pf) [111, 110, 101] (n.Kids.length : Int) = some ((n.Kids.length : Int) == 1) := by rw [lH, iX]; rfl
  rw [kZ, ir, lI, iY, e, ae.bc]
  refine RR.l ha (RR.r hq ?_)
  refine RR.aZ (fun _ => ?_) (fun h => absurd h (by decide))
  refine RR.aZ (fun h => RR.t ?_ RR.fail) (fun h => RR.f ?_ ?_)
  · have : (n.Kids.length : Int) ≠ 1 := fun h2 => by rw [h2] at h; simp at h
    simpa using this
  · have : (1 : Int) = (n.Kids.length : Int) := by simpa using h
    rw [← this]; rfl
  · have hl : n.Kids.length = 1 := by have : (1 : Int) = (n.Kids.length : Int) := by simpa using h
                                      omega
    obtain ⟨x, hx⟩ := jy hl
    have ho : (f209 Pf) n = some true := by rw [k3, iv, h51, e]; rfl
    have hcon : (f211 Pf) (sc c) n w = bif !(w.aj.Kind == 8) then some ((⟨0, w, 0, [], 0, []⟩ : ab), ⟨4, n.At⟩) else ((f163 Pf) (sc c) n.Kids [ba 3]).bind fun y => some ((⟨27, w, 0, [], 0, y.fst⟩ : ab), y.snd) := by rw [nY, kn, e]; simp only [dB, cX, aN]; rfl
    refine RR.r ho (RR.t rfl ?_)
    rw [b0, hcon]
    refine RR.aZ (fun h => absurd h (by decide)) (fun _ => RR.aZ (fun h => absurd h (by decide)) (fun _ => RR.aZ (fun h => absurd h (by decide)) (fun _ => RR.aZ (fun h => absurd h (by decide)) (fun _ => RR.aZ (fun h => absurd h (by decide)) (fun _ => RR.aZ (fun h => absurd h (by decide)) (fun _ => RR.aZ (fun _ => ?_) (fun h => absurd h (by decide))))))))
    refine nb hw (by simp) (by simp) (fun hs0 hk => ?_) (fun hk => ?_)
    · have step : RR EQ ((ax n.Kids 0).bind fun x => ((f113 Pf) 3).bind fun t => Bw.aH ((f48 Pf) c x t) fun y => bif decide (([ab.z] : List ab).length ≤ 274877906944) then (ax [ab.z] 0).bind fun _ => some (.ret (⟨27, w, 0, [], 0, [ab.z].set (Int.toNat 0) y⟩ : ab)) else none) (((f163 Pf) (sc c) n.Kids [ba 3]).bind fun y => some ((⟨27, w, 0, [], 0, y.fst⟩ : ab), y.snd)) := by
        rw [hx]
        refine RR.l (v := x) rfl (RR.l (dh 3) ?_)
        exact sL (ih x (by rw [hx]; simp)) (.inr (bq.sort (by simp))) (fun u _ => .inl ⟨_, _, rfl, rfl, rfl⟩)
      refine RR.f (by simp at hk; rw [hk]; rfl) ?_
      exact step
    · exact ⟨_, by have : (w.aj.Kind == 8) = false := by simpa using hk
                   rw [this]; rfl⟩
include hB in
theorem O5 {n : ae} {w : az} (hw : cd B w) (h51 : n.Kind = 51) (e : n.Text = [115, 101, 116]) (hn : n.Kids.length ≤ B) (ih : ∀ k ∈ n.Kids, RE B c k) : RR EQ ((f159 Pf) c n w) ((f164 Pf) (sc c) n w) := by
  have b0 : ∀ x : Option (ab × aK), (x.bind fun y => some y) = x := by intro x; cases x <;> rfl
  have ha : (f197 Pf) [115, 101, 116] = some (-1) := by rw [kY, iq]; rfl
  have hq : (f210 Pf) [115, 101, 116] (n.Kids.length : Int) = some true := by rw [lH, iX]; rfl
  have ho : (f209 Pf) n = some true := by rw [k3, iv, h51, e]; rfl
  rw [kZ, ir, lI, iY, e, ae.bc]
  refine RR.l ha (RR.r hq ?_)
  refine RR.aZ (fun h => absurd h (by decide)) (fun _ => ?_)
  refine RR.f rfl (RR.r ho (RR.t rfl ?_))
  have hcon : (f211 Pf) (sc c) n w = bif w.aj.Kind == 4 then (jj Pf) (sc c) n w 0 [] ⟨0, 0⟩ else bif !(w.aj.Kind == 10) then some ((⟨0, w, 0, [], 0, []⟩ : ab), ⟨4, n.At⟩) else (jk Pf) (sc c) n w 0 [] ⟨0, 0⟩ := by rw [nY, kn, e]; simp only [dB, aN]; rfl
  rw [b0, hcon]
  refine RR.aZ (fun h => absurd h (by decide)) (fun _ => RR.aZ (fun h => absurd h (by decide)) (fun _ => RR.aZ (fun _ => ?_) (fun h => absurd h (by decide))))
  refine nb hw (by simp) (by simp) (fun hs0 hk => ?_) (fun hk => ?_)
  · simp only [dc, mS, or_false] at hk
    by_cases h2 : w.aj.Kind = 4
    · refine RR.t (by rw [h2]; rfl) ?_
      exact OV hB hn ih n.Kids.length 0 [] (by omega) rfl
    · refine RR.f (by simpa using h2) (RR.f (by have : w.aj.Kind = 10 := by omega
                                                rw [this]; rfl) ?_)
      exact OW hB hn ih n.Kids.length 0 [] (by omega) rfl
  · simp at hk
    have h1 : (w.aj.Kind == 4) = false := by simpa using hk.1
    have h2 : (w.aj.Kind == 10) = false := by simpa using hk.2
    exact ⟨_, by rw [h1, h2]; rfl⟩
include hB in
theorem O2 {n : ae} {w : az} (hw : cd B w) (h51 : n.Kind = 51) (e : n.Text = [109, 97, 112]) (hn : n.Kids.length ≤ B) (ih : ∀ e ∈ n.Kids, ∃ a b, e.Kids = [a, b] ∧ RE B c a ∧ RE B c b) : RR EQ ((f159 Pf) c n w) ((f164 Pf) (sc c) n w) := by
  have b0 : ∀ x : Option (ab × aK), (x.bind fun y => some y) = x := by intro x; cases x <;> rfl
  have ha : (f197 Pf) [109, 97, 112] = some (-1) := by rw [kY, iq]; rfl
  have hq : (f210 Pf) [109, 97, 112] (n.Kids.length : Int) = some true := by rw [lH, iX]; rfl
  have ho : (f209 Pf) n = some true := by rw [k3, iv, h51, e]; rfl
  rw [kZ, ir, lI, iY, e, ae.bc]
  refine RR.l ha (RR.r hq ?_)
  refine RR.aZ (fun h => absurd h (by decide)) (fun _ => ?_)
  refine RR.f rfl (RR.r ho (RR.t rfl ?_))
  have hcon : (f211 Pf) (sc c) n w = bif !(w.aj.Kind == 5) then some ((⟨0, w, 0, [], 0, []⟩ : ab), ⟨4, n.At⟩) else (nr Pf) (sc c) n w 0 [] ⟨0, 0⟩ := by rw [nY, kn, e]; simp only [dB, aN]; rfl
  rw [b0, hcon]
  refine RR.aZ (fun h => absurd h (by decide)) (fun _ => RR.aZ (fun h => absurd h (by decide)) (fun _ => RR.aZ (fun h => absurd h (by decide)) (fun _ => RR.aZ (fun _ => ?_) (fun h => absurd h (by decide)))))
  refine nb hw (by simp) (by simp) (fun hs0 hk => ?_) (fun hk => ?_)
  · have h5 : w.aj.Kind = 5 := by simpa using hk
    have hwt := hw.some (hw.kind hs0 (by rw [h5]; decide)).2.2
    obtain ⟨p, hp⟩ := qe (hwt.dI hs0).1 h5
    refine RR.f (by rw [h5]; rfl) ?_
    exact PO hB hp (ke hwt hs0 (by rw [hp]; simp)) hn ih n.Kids.length 0 [] (by omega) rfl
  · exact ⟨_, by have : (w.aj.Kind == 5) = false := by simpa using hk
                 rw [this]; rfl⟩
theorem RR.Ln {D β γ:Type} {Q:D->β->Prop} {Q':γ->β->Prop} {o:Option (aU D)} {q:Option (β×aK)} {f:D->Option (aU γ)} (h:RR Q o q) (hf:∀y z,Q y z->∃y',f y=some (.ret y')/\Q' y' z):RR Q' (Bw.aH o f) q:=by
 rcases h with⟨y,z,h,rfl,rfl⟩|⟨a,b,z,ha,rfl,rfl⟩
 ·obtain⟨y',e,h'⟩:=hf y z h;exact .inl ⟨y',z,h',e,rfl⟩
 ·exact .inr ⟨a,b,z,ha,rfl,rfl⟩
include hB in
theorem O3 {n : ae} {w : az} (hw : cd B w) (h51 : n.Kind = 51) (e : n.Text = [114, 101, 99]) (hn : n.Kids.length ≤ B) (hd : w.aj.Kind = 6 → ∀ (i j : Nat) t, w.aj.Names[i]? = some t → w.aj.Names[j]? = some t → i = j) (ih : ∀ e ∈ n.Kids, ∃ k, e.Kids = [k] ∧ RE B c k) : RR EQ ((f159 Pf) c n w) ((f164 Pf) (sc c) n w) := by
  have b0 : ∀ x : Option (ab × aK), (x.bind fun y => some y) = x := by intro x; cases x <;> rfl
  have ha : (f197 Pf) [114, 101, 99] = some (-1) := by rw [kY, iq]; rfl
  have hq : (f210 Pf) [114, 101, 99] (n.Kids.length : Int) = some true := by rw [lH, iX]; rfl
  have ho : (f209 Pf) n = some true := by rw [k3, iv, h51, e]; rfl
  rw [kZ, ir, lI, iY, e, ae.bc]
  refine RR.l ha (RR.r hq ?_)
  refine RR.aZ (fun h => absurd h (by decide)) (fun _ => ?_)
  refine RR.f rfl (RR.r ho (RR.t rfl ?_))
  have hcon : (f211 Pf) (sc c) n w = bif !(w.aj.Kind == 6) then some ((⟨0, w, 0, [], 0, []⟩ : ab), ⟨4, n.At⟩) else (nz Pf) (sc c) n w 0 [] := by rw [nY, kn, e]; simp only [dB, aN]; rfl
  rw [b0, hcon]
  refine RR.aZ (fun h => absurd h (by decide)) (fun _ => RR.aZ (fun h => absurd h (by decide)) (fun _ => RR.aZ (fun h => absurd h (by decide)) (fun _ => RR.aZ (fun h => absurd h (by decide)) (fun _ => RR.aZ (fun _ => ?_) (fun h => absurd h (by decide))))))
  refine nb hw (by simp) (by simp) (fun hs0 hk => ?_) (fun hk => ?_)
  · have h6 : w.aj.Kind = 6 := by simpa using hk
    have hwt := hw.some (hw.kind hs0 (by rw [h6]; decide)).2.2
    have ho := (hwt.dI hs0).2
    have hlen : w.aj.aB.length ≤ B := by rw [ai.eP] at ho; exact ho.2.2.2.2.1.1
    refine RR.f (by rw [h6]; rfl) ?_
    rw [fill_eq hB (sA (hwt.dI hs0).1 h6) hlen, Kp, qC, ai.bc, Gn (by omega), aN, aN]
    have R := PN hB hwt hs0 h6 (hd h6) hn ih (i0 := (w.aj.aB.length : Int)) (b0 := w.aj.aB.map (jc n)) n.Kids.length 0 (List.replicate w.aj.aB.length ab.z) (List.replicate w.aj.aB.length false) [] (w.aj.aB.map (jc n)) (by omega) (by simp) (by simp) (by simp) (by simp) (fun j p x f g1 g2 g3 => by
      have : f = false := by
        rw [ME] at g3
        split at g3
        · simpa using g3.symm
        · cases g3
      subst this
      rw [D2, g1]; rfl) (fun t => by
      simp only [mS, false_iff, not_exists, not_and]
      intro j _ h
      rw [ME] at h
      split at h <;> simp at h)
    exact RR.Ln R (fun y z h => ⟨_, rfl, h⟩)
  · exact ⟨_, by have : (w.aj.Kind == 6) = false := by simpa using hk
                 rw [this]; rfl⟩
theorem Oi {n : ae} {w : az} (hw : cd B w) (h51 : n.Kind = 51) (e : n.Text = [112, 97, 105, 114]) (ih : ∀ k ∈ n.Kids, RE B c k) : RR EQ ((f159 Pf) c n w) ((f164 Pf) (sc c) n w) := by
  have b0 : ∀ x : Option (ab × aK), (x.bind fun y => some y) = x := by intro x; cases x <;> rfl
  have ha : (f197 Pf) [112, 97, 105, 114] = some 2 := by rw [kY, iq]; rfl
  have hq : (f210 Pf) [112, 97, 105, 114] (n.Kids.length : Int) = some ((n.Kids.length : Int) == 2) := by rw [lH, iX]; rfl
  rw [kZ, ir, lI, iY, e, ae.bc]
  refine RR.l ha (RR.r hq ?_)
  refine RR.aZ (fun _ => ?_) (fun h => absurd h (by decide))
  refine RR.aZ (fun h => RR.t ?_ RR.fail) (fun h => RR.f ?_ ?_)
  · have : (n.Kids.length : Int) ≠ 2 := fun h2 => by rw [h2] at h; simp at h
    simpa using this
  · have : (2 : Int) = (n.Kids.length : Int) := by simpa using h
    rw [← this]; rfl
  · have hl : n.Kids.length = 2 := by have : (2 : Int) = (n.Kids.length : Int) := by simpa using h
                                      omega
    obtain ⟨x, z, hx⟩ := gg hl
    have ho : (f209 Pf) n = some true := by rw [k3, iv, h51, e]; rfl
    have hcon : (f211 Pf) (sc c) n w = bif !(w.aj.Kind == 7) then some ((⟨0, w, 0, [], 0, []⟩ : ab), ⟨4, n.At⟩) else (ax w.aj.aB 0).bind fun p => (ax w.aj.aB 1).bind fun q => ((f163 Pf) (sc c) n.Kids [cJ p, cJ q]).bind fun y => some ((⟨26, w, 0, [], 0, y.fst⟩ : ab), y.snd) := by rw [nY, kn, e]; simp only [dB, kx, aN]; rfl
    refine RR.r ho (RR.t rfl ?_)
    rw [b0, hcon]
    refine RR.aZ (fun h => absurd h (by decide)) (fun _ => RR.aZ (fun h => absurd h (by decide)) (fun _ => RR.aZ (fun h => absurd h (by decide)) (fun _ => RR.aZ (fun h => absurd h (by decide)) (fun _ => RR.aZ (fun h => absurd h (by decide)) (fun _ => RR.aZ (fun _ => ?_) (fun h => absurd h (by decide)))))))
    refine nb hw (by simp) (by simp) (fun hs0 hk => ?_) (fun hk => ?_)
    · have h7 : w.aj.Kind = 7 := by simpa using hk
      have hwt := hw.some (hw.kind hs0 (by rw [h7]; decide)).2.2
      obtain ⟨p, q, hp⟩ := qf (hwt.dI hs0).1 h7
      refine RR.f (by rw [h7]; rfl) ?_
      have wp : cd B (cJ p) := .inr (ke hwt hs0 (by rw [hp]; simp))
      have wq : cd B (cJ q) := .inr (ke hwt hs0 (by rw [hp]; simp))
      rw [hx, hp]
      refine RR.l (v := x) rfl ?_
      refine RR.l (v := p) rfl (RR.l (of_eq p) ?_)
      refine RR.r (v := p) rfl ?_
      refine RR.r (v := q) rfl ?_
      refine vU (ih x (by rw [hx]; simp)) wp (ih z (by rw [hx]; simp)) wq (f := fun u v => some (.ret (⟨26, w, 0, [], 0, [u, v]⟩ : ab))) (fun u hu => ?_) (fun u v _ _ => .inl ⟨_, _, rfl, rfl, rfl⟩)
      rw [dz _ (by simp), bE]
      show (Option.bind (some ab.z) _) = _
      rw [aN]
      show (Option.bind (some z) _) = _
      rw [aN]
      show (Option.bind (some q) _) = _
      rw [aN, of_eq, aN]
      rfl
    · exact ⟨_, by have : (w.aj.Kind == 7) = false := by simpa using hk
                   rw [this]; rfl⟩
theorem M4 {n : ae} {w : az} (h51 : n.Kind = 51) (e : n.Text ∈ [[115, 105, 122, 101], [115, 117, 109], [110, 117, 109, 98, 101, 114], [111, 110], [107, 101, 121, 115], [118, 97, 108, 117, 101, 115], [99, 111, 110, 102, 108, 105, 99, 116], [115, 101, 99, 111, 110, 100], [102, 105, 114, 115, 116]]) (ih : ∀ k ∈ n.Kids, RE B c k) : RR EQ ((f159 Pf) c n w) ((f164 Pf) (sc c) n w) := by
  have b0 : ∀ x : Option (ab × aK), (x.bind fun y => some y) = x := by intro x; cases x <;> rfl
  have fa : (f197 Pf) n.Text = some 1 ∧ (f210 Pf) n.Text (n.Kids.length : Int) = some ((n.Kids.length : Int) == 1) ∧ (f209 Pf) n = some false ∧ (n.Text == [102, 108, 97, 103]) = false ∧ (n.Text == [110, 117, 109]) = false ∧ (n.Text == [115, 101, 116]) = false ∧ (n.Text == [109, 97, 112]) = false ∧ (n.Text == [114, 101, 99]) = false ∧ (n.Text == [112, 97, 105, 114]) = false ∧ (n.Text == [111, 110, 101]) = false ∧ (n.Text == [119, 114, 105, 116, 101]) = false := by
    rw [kY, iq, lH, iX, k3, iv, h51]
    simp only [dc, mS, or_false] at e
    rcases e with e | e | e | e | e | e | e | e | e <;> rw [e] <;> exact ⟨rfl, rfl, rfl, rfl, rfl, rfl, rfl, rfl, rfl, rfl, rfl⟩
  obtain ⟨ha, hq, ho, f1, f2, f3, f4, f5, f6, f7, f8⟩ := fa
  rw [kZ, ir, lI, iY, ae.bc]
  refine RR.l ha (RR.r hq ?_)
  refine RR.aZ (fun _ => ?_) (fun h => absurd h (by decide))
  refine RR.aZ (fun h => RR.t ?_ RR.fail) (fun h => RR.f ?_ ?_)
  · have : (n.Kids.length : Int) ≠ 1 := fun h2 => by rw [h2] at h; simp at h
    simpa using this
  · have : (1 : Int) = (n.Kids.length : Int) := by simpa using h
    rw [← this]; rfl
  · have hl : n.Kids.length = 1 := by have : (1 : Int) = (n.Kids.length : Int) := by simpa using h
                                      omega
    obtain ⟨x, hx⟩ := jy hl
    refine RR.r ho (RR.f rfl (RR.f f8 ?_))
    rw [b0, f1, f2, f3, f4, f5, f6, f7, f8]
    exact RR.Ln (MZ hx (ih x (by rw [hx]; simp)) e) (fun y z h => ⟨_, rfl, h⟩)
theorem RI {γ δ:Type} {Q':γ->δ->Prop} {x y z:ae} {a b d:az} {o:ab->Option (aU γ)} {g:List ab×aK->Option (δ×aK)} (hx:RE B c x) (ha:cd B a) (hy:RE B c y) (hb:cd B b)
  (hz:RE B c z) (hd:cd B d) {f:ab->ab->ab->Option (aU γ)} {o2:ab->ab->Option (aU γ)} (ho:∀u,o u=Bw.aH ((f48 Pf) c y b) (o2 u)) (ho2:∀u v,o2 u v=Bw.aH ((f48 Pf) c z d) (f u v))
  (hf:∀u v t,EP B c x a u->EP B c y b v->EP B c z d t->RR Q' (f u v t) (g ([u,v,t],⟨0,0⟩)))
  (hg:∀a b,a≠0->∃z',g ([],⟨a,b⟩)=some (z',⟨a,b⟩)):
  RR Q' (Bw.aH ((f48 Pf) c x a) o) (((f163 Pf) (sc c) [x,y,z] [a,b,d]).bind g):=by
 rw[B1,mF];have bad:∀(p q:Int) (k:ab) (R:Option (List ab×aK)),p≠0->∃z',Option.bind (bif ((k,(⟨p,q⟩:aK)):ab×aK).snd.Code !=0 then some ([],((k,(⟨p,q⟩:aK)):ab×aK).snd)else R) g=some (z',⟨p,q⟩):=λp q k R hp=>by
  obtain⟨z',e3⟩:=hg p q hp;exact⟨z',by show Option.bind (bif p !=0 then _ else _) g=_;rw[gN hp];exact e3⟩
 have e:=pc (s:=sc c) (ks:=[x,y,z]) (ws:=[a,b,d]) (a:=[]) (b:=[]) (i:=0) rfl rfl (by simp) (by simp);have e0:((0:Nat):Int)=0:=rfl;rw[e0]at e;rw[e,uB];refine RR.bind (hx a ha) (λy1 u h=>?_) (λp q k hp=>bad p q k _ hp);obtain⟨rfl,h⟩:=h;show RR Q' (o u) (Option.bind ((iP Pf) (sc c) [x,y,z] [a,b,d] [] ([]++[u]) ((0+1:Nat):Int)) g);rw[ho u,pc (s:=sc c) (ks:=[x,y,z]) (ws:=[a,b,d]) (a:=[]) (b:=[]++[u]) (i:=0+1) rfl rfl (by simp) (by simp),uB];refine RR.bind (hy b hb) (λy1 v h2=>?_) (λp q k hp=>bad p q k _ hp);obtain⟨rfl,h2⟩:=h2;show RR Q' (o2 u v) (Option.bind ((iP Pf) (sc c) [x,y,z] [a,b,d] [] ([]++[u]++[v]) ((0+1+1:Nat):Int)) g);rw[ho2 u v,pc (s:=sc c) (ks:=[x,y,z]) (ws:=[a,b,d]) (a:=[]) (b:=[]++[u]++[v]) (i:=0+1+1) rfl rfl (by simp) (by simp),uB];refine RR.bind (hz d hd) (λy1 t h3=>?_) (λp q k hp=>bad p q k _ hp);obtain⟨rfl,h3⟩:=h3;show RR Q' (f u v t) (Option.bind ((iP Pf) (sc c) [x,y,z] [a,b,d] [] ([]++[u]++[v]++[t]) ((0+1+1+1:Nat):Int)) g);rw[yE (s:=sc c) (ks:=[x,y,z]) (ws:=[a,b,d]) (a:=[]) (b:=[]++[u]++[v]++[t]) (i:=0+1+1+1) rfl];exact hf u v t h h2 h3
theorem NC {n : ae} {w : az} (hw : cd B w) (h51 : n.Kind = 51) (e : n.Text = [119, 114, 105, 116, 101]) (ih : ∀ k ∈ n.Kids, RE B c k) : RR EQ ((f159 Pf) c n w) ((f164 Pf) (sc c) n w) := by
  have b0 : ∀ x : Option (ab × aK), (x.bind fun y => some y) = x := by intro x; cases x <;> rfl
  have ha : (f197 Pf) [119, 114, 105, 116, 101] = some 3 := by rw [kY, iq]; rfl
  have hq : (f210 Pf) [119, 114, 105, 116, 101] (n.Kids.length : Int) = some ((n.Kids.length : Int) == 3) := by rw [lH, iX]; rfl
  rw [kZ, ir, lI, iY, e, ae.bc]
  refine RR.l ha (RR.r hq ?_)
  refine RR.aZ (fun _ => ?_) (fun h => absurd h (by decide))
  refine RR.aZ (fun h => RR.t ?_ RR.fail) (fun h => RR.f ?_ ?_)
  · have : (n.Kids.length : Int) ≠ 3 := fun h2 => by rw [h2] at h; simp at h
    simpa using this
  · have : (3 : Int) = (n.Kids.length : Int) := by simpa using h
    rw [← this]; rfl
  · have hl : n.Kids.length = 3 := by have : (3 : Int) = (n.Kids.length : Int) := by simpa using h
                                      omega
    obtain ⟨x, y, z, hx⟩ := qv hl
    have ho : (f209 Pf) n = some false := by rw [k3, iv, h51, e]; rfl
    refine RR.r ho (RR.f rfl (RR.t (by decide) (RR.r (kx _) (RR.r (cX 1) (RR.r (cX 3) ?_)))))
    refine RR.aZ (fun h => absurd h (by decide)) (fun _ => RR.aZ (fun h => absurd h (by decide)) (fun _ => RR.aZ (fun h => absurd h (by decide)) (fun _ => RR.aZ (fun h => absurd h (by decide)) (fun _ => RR.aZ (fun h => absurd h (by decide)) (fun _ => RR.aZ (fun h => absurd h (by decide)) (fun _ => RR.aZ (fun h => absurd h (by decide)) (fun _ => RR.aZ (fun _ => ?_) (fun h => absurd h (by decide)))))))))
    rw [hx]
    have wr : bq B (cJ eG) := bq.of vc (vv B)
    refine RR.l (of_eq eG) ?_
    refine RR.l (v := x) rfl ?_
    refine RI (ih x (by rw [hx]; simp)) (.inr wr) (ih y (by rw [hx]; simp)) (b := ba 1) (.inr (bq.sort (by simp))) (ih z (by rw [hx]; simp)) (d := ba 3) (.inr (bq.sort (by simp))) (f := fun u v t => some (.ret (⟨28, cJ eG, 0, [], 0, [u, v, t]⟩ : ab))) (o2 := fun u v => Bw.aH ((f48 Pf) c z (ba 3)) fun t => some (.ret (⟨28, cJ eG, 0, [], 0, [u, v, t]⟩ : ab))) (fun u => ?_) (fun u v => rfl) (fun u v t _ _ _ => .inl ⟨_, _, rfl, rfl, rfl⟩) (fun p q hp => ⟨_, rfl⟩)
    rw [dz _ (by simp), bE]
    show (Option.bind (some ab.z) _) = _
    rw [aN]
    show (Option.bind (some y) _) = _
    rw [aN, dh, aN]
    congr 1
    funext v
    rw [dz _ (by simp), bE]
    show (Option.bind (some ab.z) _) = _
    rw [aN]
    show (Option.bind (some z) _) = _
    rw [aN, dh, aN]
    rfl
end
theorem M3 {l:ai} (h:ew l) (h6:l.Kind=6):∀(i j:Nat) t,l.Names[i]? =some t->l.Names[j]? =some t->i=j:=by
 have hN:sy l:=h.names;have one:∀(i j:Nat) t,l.Names[i]? =some t->l.Names[j]? =some t->¬i<j:=λi j t hi hj hij=>by
  have:=hN.2.2.1 h6 j t hj;rw[Ed]at this;exact this t (cy (i:=i) (by rw[MC hij];exact hi)) (by simp)
 intro i j t hi hj;have h1:=one i j t hi hj;have h2:=one j i t hj hi;omega
section
variable {B:Nat} (hB:B<=1048576) {c:bR} (hc:CE B c)
include hB in
theorem O1 {n:ae} {w:az} (hw:cd B w) (h51:n.Kind=51) (hs:dC n) (hn:n.Kids.length<=B) (ht:n.Text∈jv) (ih:∀k∈fJ n,RE B c k):RR EQ ((f159 Pf) c n w) ((f164 Pf) (sc c) n w):=by
 have hs:(n.Text=eu->∀e∈n.Kids,e.Kids.length=2)/\(n.Text=er->∀e∈n.Kids,e.Kids.length=1):=by
  unfold dC at hs;rcases hs with h|h|h|h|h
  ·omega
  ·omega
  ·omega
  ·omega
  ·exact h.2
 by_cases h1:n.Text=eu
 ·rw[qt h51 (.inl h1)]at ih;refine O2 hB hw h51 h1 hn (λe he=>?_);obtain⟨a,b,hab⟩:=gg (hs.1 h1 e he);exact⟨a,b,hab,ih a (ec.2 ⟨e,he,by rw[hab];simp⟩),ih b (ec.2 ⟨e,he,by rw[hab];simp⟩)⟩
 by_cases h2:n.Text=er
 ·rw[qt h51 (.inr h2)]at ih;refine O3 hB hw h51 h2 hn (λh6=>?_) (λe he=>?_)
  ·rcases hw with rfl|hw
   ·cases h6
   ·refine M3 (hw.dI ?_).1 h6;by_cases h0:w.aS=0
    ·exact h0
    ·have:=hw.nX h0;rw[h6]at this;cases this
  ·obtain⟨a,ha⟩:=jy (hs.2 h2 e he);exact⟨a,ha,ih a (ec.2 ⟨e,he,by rw[ha];simp⟩)⟩
 rw[vG h1 h2]at ih;simp only[jv,dc,mS,or_false]at ht;rcases ht with h|h|h|h|h|h|h|h|h
 ·exact O4 hw h51 h ih
 ·exact PT hw h51 h ih
 ·exact O5 hB hw h51 h hn ih
 ·exact absurd h h1
 ·exact absurd h h2
 ·exact Oi hw h51 h ih
 ·exact PU hw h51 h ih
 ·exact NC hw h51 h ih
 ·refine M4 h51 ?_ ih;simp only[dc,mS,or_false];exact h
include hB hc in
theorem PC {n:ae} (h:WN B n):CN n->RE B c n:=by
 induction h with
 |mk hs hl h44 h47 hk ih=>
  intro hC w hw;rename_i n;obtain⟨h5,hCk⟩:(n.Kind=51->n.Text∈jv)/\∀k∈fJ n,CN k:=by cases hC;exact⟨by assumption,by assumption⟩
  have hr:=λk hm=>ih k hm (hCk k hm);refine OT hB hw (HO hB hc hw (.mk hs hl h44 h47 hk) λk hm=>OZ hB hc (hk k hm)) ?_;exact PK hc hB hw (.mk hs hl h44 h47 hk) hr λh51=>O1 hB hw h51 hs hl (h5 h51) hr
end
section
variable {B:Nat} (hB:B<=1048576)
include hB
