/-
  Own work. Layer 20: Of: the walk.
-/
import Derived.Test.YtkbjckcclfceoaaDoorVa5
namespace Go.Proofs.YtkbjckcclfceoaaDoor
open Go Go.Aw
attribute [local irreducible] AWP AOps AQO ALx

theorem signsS_len (e : Ex) (v : List Int) (hf : formS e = true) (hd : (signsS e.op e.la e.kids v).2 = true) : (signsS e.op e.la e.kids v).1.length = e.kids.length := by
  have hop0 : ¬ (e.op < 1 ∨ e.op ≥ 38) := by
    intro h
    unfold formS at hf
    rw [if_pos h] at hf
    cases hf
  obtain ⟨op, s, l, n, t, a, ks⟩ := e
  simp only [Ex.op, Ex.la, Ex.kids] at *
  have hop : op = 1 ∨ op = 2 ∨ op = 3 ∨ op = 4 ∨ op = 5 ∨ op = 6 ∨ op = 7 ∨ op = 8 ∨ op = 9 ∨ op = 10 ∨ op = 11 ∨ op = 12 ∨ op = 13 ∨ op = 14 ∨ op = 15 ∨ op = 16 ∨ op = 17 ∨ op = 18 ∨ op = 19 ∨ op = 20 ∨ op = 21 ∨ op = 22 ∨ op = 23 ∨ op = 24 ∨ op = 25 ∨ op = 26 ∨ op = 27 ∨ op = 28 ∨ op = 29 ∨ op = 30 ∨ op = 31 ∨ op = 32 ∨ op = 33 ∨ op = 34 ∨ op = 35 ∨ op = 36 ∨ op = 37 := by omega
  have hls : (listS2 op ks v).2 = true → (listS2 op ks v).1.length = ks.length := by
    unfold listS2
    split
    · intro h; cases h
    · intro _; exact listT_length op ks _
  rcases hop with rfl | rfl | rfl | rfl | rfl | rfl | rfl | rfl | rfl | rfl | rfl | rfl | rfl | rfl | rfl | rfl | rfl | rfl | rfl | rfl | rfl | rfl | rfl | rfl | rfl | rfl | rfl | rfl | rfl | rfl | rfl | rfl | rfl | rfl | rfl | rfl | rfl
  all_goals (simp [formS, kidsN, kidsL, Ex.op, Ex.kids] at hf)
  all_goals (simp [signsS] at hd ⊢)
  all_goals first | omega | exact hls hd | (split <;> first | (simp; omega) | (split <;> simp <;> omega))

set_option maxHeartbeats 4000000 in
theorem of_step (e : Ex) (hk : e.kids.length ≤ 1099511627776) (ih : ∀ k ∈ e.kids, OfOk k) : OfOk e := by
  have hform := form_spec e
  have hvar := variances_spec e hk ih
  have hlen : (ofL e.kids).length = e.kids.length := by simp [ofL_eq]
  have hcont := containsFunc_spec 22 (fun n => n != 0) (ofL e.kids) (by omega) (fun x _ => of1_spec x)
  have hsig : formS e = true → Pure env.toCx 23 [.agg e.row, .sl 1 (intRows (ofL e.kids))] _ := fun h => signs_spec e (ofL e.kids) hk hlen h
  have hsl := signsS_len e (ofL e.kids)
  obtain ⟨op, s, ⟨k, lo, hi, ns, ps, rs⟩, n, t, at_, ks⟩ := e
  unfold OfOk
  have hres : ofS (.mk op s (.mk k lo hi ns ps rs) n t at_ ks) = if formS (.mk op s (.mk k lo hi ns ps rs) n t at_ ks) = false then 3 else if op = 5 then 1 else
      if (ofL ks).any (· != 0) = false then 0 else
        match signsS op (.mk k lo hi ns ps rs) ks (ofL ks) with
        | (_, false) => 3
        | (s, true) => foldT (ofL ks) s (ofL ks).length := by rw [ofS]; rfl
  generalize ofS (.mk op s (.mk k lo hi ns ps rs) n t at_ ks) = res at *
  simp only [Ex.kids, Ex.op, Ex.la] at *
  generalize formS (.mk op s (.mk k lo hi ns ps rs) n t at_ ks) = f at *
  generalize ofL ks = v at *
  generalize signsS op (.mk k lo hi ns ps rs) ks v = sg at *
  generalize (v.any fun n => n != 0) = an at *
  obtain ⟨ss, d⟩ := sg
  have hlv := intRows_len v
  refine Pure.enter (E := env) Tryd.func13 rfl (by kernel_rfl) _ rfl _ Tryd.ntmps13 rfl ?_
  refine AWP.seq ?_
  refine AWP.region ?_
  repeat' (first | (refine AOps.box (E := env) rfl rfl ?_; intro _) | refine AOps.op (E := env) rfl rfl ?_)
  refine AOps.nil ?_
  refine AWP.id ?_
  refine AWP.freezeBox 0 1 rfl rfl ?_
  repeat' (first | (first | refine AOps.op (E := env) rfl rfl ?_ | refine AOps.nil ?_ | refine AWP.seq ?_ | refine AWP.region ?_ | (refine AOps.id ?_; first | refine AOps.guardU rfl rfl ?_ rfl | refine AOps.guardK rfl rfl ?_ rfl | refine AOps.guardN rfl rfl rfl ?_ rfl | (refine AOps.guardT rfl rfl ?_ ?_ rfl <;> intro hg) | (refine AOps.guardF rfl rfl ?_ ?_ rfl <;> intro hg) | refine AOps.load (E := env) 0 rfl rfl rfl rfl ?_ | refine AOps.load (E := env) 1 rfl rfl rfl rfl ?_ | refine AOps.load (E := env) 2 rfl rfl rfl rfl ?_ | refine AOps.load (E := env) 3 rfl rfl rfl rfl ?_ | refine AOps.load (E := env) 4 rfl rfl rfl rfl ?_ | refine AOps.load (E := env) 5 rfl rfl rfl rfl ?_ | refine AOps.len (E := env) rfl rfl rfl ?_ | (refine AOps.box (E := env) rfl rfl ?_; intro _) | (refine AOps.alloc (E := env) rfl rfl ?_; intro _)) | (refine AWP.id ?_; first | refine AWP.condT rfl ?_ | refine AWP.condF rfl ?_ | (refine AWP.condS rfl ?_ ?_ <;> intro hc) | (refine AWP.cond rfl ?_ ?_ <;> intro hc) | refine AWP.block ?_ | refine AWP.skip ?_ | refine AWP.exit ?_ | refine AWP.regionD mixed (by kernel_rfl) ?_) | (refine AQO.id ?_; first | refine AQO.op (E := env) rfl rfl ?_ | refine AQO.nil ?_ | refine AQO.guardU rfl rfl ?_ rfl | refine AQO.guardK rfl rfl ?_ rfl | refine AQO.guardN rfl rfl rfl ?_ rfl | (refine AQO.guardT rfl rfl ?_ ?_ rfl <;> intro hg) | (refine AQO.guardF rfl rfl ?_ ?_ rfl <;> intro hg) | refine AQO.load (E := env) 0 rfl rfl rfl rfl ?_ | refine AQO.load (E := env) 1 rfl rfl rfl rfl ?_ | refine AQO.load (E := env) 2 rfl rfl rfl rfl ?_ | refine AQO.load (E := env) 3 rfl rfl rfl rfl ?_ | refine AQO.load (E := env) 4 rfl rfl rfl rfl ?_ | refine AQO.load (E := env) 5 rfl rfl rfl rfl ?_ | refine AQO.len (E := env) rfl rfl rfl ?_)) | refine AOps.pure hform rfl rfl ?_ | refine AOps.pure hvar rfl rfl ?_ | refine AOps.pure hcont rfl rfl ?_ | refine AOps.pure (hsig (by simp_all)) rfl rfl ?_)
  all_goals first
    | (refine AWP.id ?_; refine AWP.ret ?_; refine BQ.ret1 (.tmp rfl) ?_; simp_all; done)
    | skip
  have hd : d = true := by simp_all
  have hf : f = true := by simp_all
  have hsl' : ss.length = v.length := by rw [hlen]; exact hsl hf hd
  have hres' : res = foldT v ss v.length := by simp_all
  clear hres hsl hsig hcont hvar hform
  refine AWP.loopP [4, 6, 28, 29, 30] 0 (fun m σ η => ∃ (i : Nat), i ≤ v.length ∧ m = v.length - i ∧ σ = [(4, .sl 1 (intRows ss)), (6, intC (foldT v ss i)), (28, .sl 1 (intRows v)), (29, intC (intRows v).length), (30, intC i)] ∧ η = []) v.length
    ⟨_, rfl, 0, Nat.zero_le _, rfl, rfl, rfl⟩ ?_
  rintro m σ η ⟨i, hi, hm, rfl, rfl⟩
  repeat' (first | refine AOps.op (E := env) rfl rfl ?_ | refine AOps.nil ?_ | refine AWP.seq ?_ | refine AWP.region ?_ | (refine AOps.id ?_; first | refine AOps.guardU rfl rfl ?_ rfl | refine AOps.guardK rfl rfl ?_ rfl | refine AOps.guardN rfl rfl rfl ?_ rfl | (refine AOps.guardT rfl rfl ?_ ?_ rfl <;> intro hg) | (refine AOps.guardF rfl rfl ?_ ?_ rfl <;> intro hg) | refine AOps.load (E := env) 0 rfl rfl rfl rfl ?_ | refine AOps.load (E := env) 1 rfl rfl rfl rfl ?_ | refine AOps.load (E := env) 2 rfl rfl rfl rfl ?_ | refine AOps.load (E := env) 3 rfl rfl rfl rfl ?_ | refine AOps.load (E := env) 4 rfl rfl rfl rfl ?_ | refine AOps.load (E := env) 5 rfl rfl rfl rfl ?_ | refine AOps.len (E := env) rfl rfl rfl ?_ | (refine AOps.box (E := env) rfl rfl ?_; intro _) | (refine AOps.alloc (E := env) rfl rfl ?_; intro _)) | (refine AWP.id ?_; first | refine AWP.condT rfl ?_ | refine AWP.condF rfl ?_ | (refine AWP.condS rfl ?_ ?_ <;> intro hc) | (refine AWP.cond rfl ?_ ?_ <;> intro hc) | refine AWP.block ?_ | refine AWP.skip ?_ | refine AWP.exit ?_ | refine AWP.regionD mixed (by kernel_rfl) ?_) | (refine AQO.id ?_; first | refine AQO.op (E := env) rfl rfl ?_ | refine AQO.nil ?_ | refine AQO.guardU rfl rfl ?_ rfl | refine AQO.guardK rfl rfl ?_ rfl | refine AQO.guardN rfl rfl rfl ?_ rfl | (refine AQO.guardT rfl rfl ?_ ?_ rfl <;> intro hg) | (refine AQO.guardF rfl rfl ?_ ?_ rfl <;> intro hg) | refine AQO.load (E := env) 0 rfl rfl rfl rfl ?_ | refine AQO.load (E := env) 1 rfl rfl rfl rfl ?_ | refine AQO.load (E := env) 2 rfl rfl rfl rfl ?_ | refine AQO.load (E := env) 3 rfl rfl rfl rfl ?_ | refine AQO.load (E := env) 4 rfl rfl rfl rfl ?_ | refine AQO.load (E := env) 5 rfl rfl rfl rfl ?_ | refine AQO.len (E := env) rfl rfl rfl ?_))
  · have hlt : i < v.length := by have := of_decide_eq_true ‹decide ((i : Int) < ((intRows v).length : Int)) = true›; omega
    have hvi : v[i]? = some (v.getD i 0) := by simp [List.getD, hlt]
    have hsi : ss[i]? = some (ss.getD i 0) := by simp [List.getD, hsl', hlt]
    have hft : foldT v ss (i + 1) = if ss.getD i 0 != 0 then bothS (foldT v ss i) (turnedS (v.getD i 0) (ss.getD i 0)) else foldT v ss i := rfl
    refine AOps.idx (E := env) i (intRows_get hvi) rfl rfl rfl rfl rfl ?_
    repeat' (first | (first | refine AOps.op (E := env) rfl rfl ?_ | refine AOps.nil ?_ | refine AWP.seq ?_ | refine AWP.region ?_ | (refine AOps.id ?_; first | refine AOps.guardU rfl rfl ?_ rfl | refine AOps.guardK rfl rfl ?_ rfl | refine AOps.guardN rfl rfl rfl ?_ rfl | (refine AOps.guardT rfl rfl ?_ ?_ rfl <;> intro hg) | (refine AOps.guardF rfl rfl ?_ ?_ rfl <;> intro hg) | refine AOps.load (E := env) 0 rfl rfl rfl rfl ?_ | refine AOps.load (E := env) 1 rfl rfl rfl rfl ?_ | refine AOps.load (E := env) 2 rfl rfl rfl rfl ?_ | refine AOps.load (E := env) 3 rfl rfl rfl rfl ?_ | refine AOps.load (E := env) 4 rfl rfl rfl rfl ?_ | refine AOps.load (E := env) 5 rfl rfl rfl rfl ?_ | refine AOps.len (E := env) rfl rfl rfl ?_ | (refine AOps.box (E := env) rfl rfl ?_; intro _) | (refine AOps.alloc (E := env) rfl rfl ?_; intro _)) | (refine AWP.id ?_; first | refine AWP.condT rfl ?_ | refine AWP.condF rfl ?_ | (refine AWP.condS rfl ?_ ?_ <;> intro hc) | (refine AWP.cond rfl ?_ ?_ <;> intro hc) | refine AWP.block ?_ | refine AWP.skip ?_ | refine AWP.exit ?_ | refine AWP.regionD mixed (by kernel_rfl) ?_) | (refine AQO.id ?_; first | refine AQO.op (E := env) rfl rfl ?_ | refine AQO.nil ?_ | refine AQO.guardU rfl rfl ?_ rfl | refine AQO.guardK rfl rfl ?_ rfl | refine AQO.guardN rfl rfl rfl ?_ rfl | (refine AQO.guardT rfl rfl ?_ ?_ rfl <;> intro hg) | (refine AQO.guardF rfl rfl ?_ ?_ rfl <;> intro hg) | refine AQO.load (E := env) 0 rfl rfl rfl rfl ?_ | refine AQO.load (E := env) 1 rfl rfl rfl rfl ?_ | refine AQO.load (E := env) 2 rfl rfl rfl rfl ?_ | refine AQO.load (E := env) 3 rfl rfl rfl rfl ?_ | refine AQO.load (E := env) 4 rfl rfl rfl rfl ?_ | refine AQO.load (E := env) 5 rfl rfl rfl rfl ?_ | refine AQO.len (E := env) rfl rfl rfl ?_)) | refine AOps.idx (E := env) i (intRows_get hsi) rfl rfl rfl rfl rfl ?_ | refine AOps.pure (turned_spec _ _) rfl rfl ?_ | refine AOps.pure (both_spec _ _) rfl rfl ?_)
    · refine ⟨v.length - (i + 1), by omega, _, rfl, i + 1, by omega, rfl, ?_, rfl⟩
      rw [← wrap_nat (by omega), hft, if_pos (by assumption)]
    · refine ⟨v.length - (i + 1), by omega, _, rfl, i + 1, by omega, rfl, ?_, rfl⟩
      rw [← wrap_nat (by omega), hft, if_neg (by simp_all)]
  · have hlt : i = v.length := by have := of_decide_eq_false ‹decide ((i : Int) < ((intRows v).length : Int)) = false›; omega
    subst hlt
    refine AWP.id ?_
    refine AWP.ret ?_
    refine BQ.ret1 (.tmp rfl) ?_
    rw [hres']

theorem of_spec (e : Ex) : e.ok → OfOk e := by
  refine Ex.ind (P := fun e => e.ok → OfOk e) ?_ e
  intro op s l n t a ks ih hok
  simp only [Ex.ok] at hok
  exact of_step _ hok.1 (fun k hk => ih k hk (Ex.okL_mem hok.2 k hk))
end Go.Proofs.YtkbjckcclfceoaaDoor
