/-
  Own work. Layer 20: blame, Monotone, Blame, and the examples that the statements begin with: the walks.
-/
import Derived.Test.YtkbjckcclfceoaaDoorVa6
namespace Go.Proofs.YtkbjckcclfceoaaDoor
open Go Go.Aw
attribute [local irreducible] AWP AOps AQO ALx

mutual
def blameS : Ex → Int → Int
  | .mk op s l n t a ks, want => if formS (.mk op s l n t a ks) = false then a else
      match signsS op l ks (ofL ks) with
      | (_, false) => a
      | (ss, true) => blameL a want ss (ofL ks) ks
def blameL (a want : Int) : List Int → List Int → List Ex → Int
  | _, _, [] => a
  | ss, v, k :: ks => if ss.headD 0 != 0 && v.headD 0 != 0 && v.headD 0 != turnedS want (ss.headD 0) then blameS k (turnedS want (ss.headD 0)) else blameL a want ss.tail v.tail ks
end

def BlameOk (e : Ex) : Prop := ∀ want, Pure env.toCx 25 [.agg e.row, intC want] (intC (blameS e want))

theorem headD_drop (l : List Int) (i : Nat) : (l.drop i).headD 0 = l.getD i 0 := by simp [List.headD_eq_head?_getD, List.head?_drop, List.getD]

theorem blameL_at {a want : Int} {ss v : List Int} {ks : List Ex} {i : Nat} (h : i < ks.length) : blameL a want (ss.drop i) (v.drop i) (ks.drop i) =
    if ss.getD i 0 != 0 && v.getD i 0 != 0 && v.getD i 0 != turnedS want (ss.getD i 0) then blameS ks[i] (turnedS want (ss.getD i 0)) else blameL a want (ss.drop (i + 1)) (v.drop (i + 1)) (ks.drop (i + 1)) := by
  rw [List.drop_eq_getElem_cons h, blameL, headD_drop, headD_drop, List.tail_drop, List.tail_drop]

set_option maxHeartbeats 4000000 in
theorem blame_step (e : Ex) (hok : e.ok) (ih : ∀ k ∈ e.kids, BlameOk k) : BlameOk e := by
  have hform := form_spec e
  obtain ⟨op, s, ⟨k, lo, hi, ns, ps, rs⟩, n, t, at_, ks⟩ := e
  simp only [Ex.ok] at hok
  obtain ⟨hk, hkl⟩ := hok
  have hvar := variances_spec (.mk op s (.mk k lo hi ns ps rs) n t at_ ks) hk (fun x hx => of_spec x (Ex.okL_mem hkl x hx))
  have hlen : (ofL ks).length = ks.length := by simp [ofL_eq]
  have hsig : formS (.mk op s (.mk k lo hi ns ps rs) n t at_ ks) = true → Pure env.toCx 23 [.agg (Ex.row (.mk op s (.mk k lo hi ns ps rs) n t at_ ks)), .sl 1 (intRows (ofL ks))] _ := fun h => signs_spec (.mk op s (.mk k lo hi ns ps rs) n t at_ ks) (ofL ks) hk hlen h
  have hsl := signsS_len (.mk op s (.mk k lo hi ns ps rs) n t at_ ks) (ofL ks)
  intro want
  have hres : blameS (.mk op s (.mk k lo hi ns ps rs) n t at_ ks) want = if formS (.mk op s (.mk k lo hi ns ps rs) n t at_ ks) = false then at_ else
        match signsS op (.mk k lo hi ns ps rs) ks (ofL ks) with
        | (_, false) => at_
        | (ss, true) => blameL at_ want ss (ofL ks) ks := by rw [blameS]
  generalize blameS (.mk op s (.mk k lo hi ns ps rs) n t at_ ks) want = res at *
  simp only [Ex.kids, Ex.op, Ex.la] at *
  generalize formS (.mk op s (.mk k lo hi ns ps rs) n t at_ ks) = f at *
  generalize ofL ks = v at *
  generalize signsS op (.mk k lo hi ns ps rs) ks v = sg at *
  obtain ⟨ss, d⟩ := sg
  have hlv := ex_len ks
  refine Pure.enter (E := env) Tryd.func25 rfl (by kernel_rfl) _ rfl _ Tryd.ntmps25 rfl ?_
  refine AWP.seq ?_
  refine AWP.region ?_
  repeat' (first | (refine AOps.box (E := env) rfl rfl ?_; intro _) | refine AOps.op (E := env) rfl rfl ?_)
  refine AOps.nil ?_
  refine AWP.id ?_
  refine AWP.freezeBox 0 2 rfl rfl ?_
  repeat' (first | (first | refine AOps.op (E := env) rfl rfl ?_ | refine AOps.nil ?_ | refine AWP.seq ?_ | refine AWP.region ?_ | (refine AOps.id ?_; first | refine AOps.guardU rfl rfl ?_ rfl | refine AOps.guardK rfl rfl ?_ rfl | refine AOps.guardN rfl rfl rfl ?_ rfl | (refine AOps.guardT rfl rfl ?_ ?_ rfl <;> intro hg) | (refine AOps.guardF rfl rfl ?_ ?_ rfl <;> intro hg) | refine AOps.load (E := env) 0 rfl rfl rfl rfl ?_ | refine AOps.load (E := env) 1 rfl rfl rfl rfl ?_ | refine AOps.load (E := env) 2 rfl rfl rfl rfl ?_ | refine AOps.load (E := env) 3 rfl rfl rfl rfl ?_ | refine AOps.load (E := env) 4 rfl rfl rfl rfl ?_ | refine AOps.load (E := env) 5 rfl rfl rfl rfl ?_ | refine AOps.len (E := env) rfl rfl rfl ?_ | (refine AOps.box (E := env) rfl rfl ?_; intro _) | (refine AOps.alloc (E := env) rfl rfl ?_; intro _)) | (refine AWP.id ?_; first | refine AWP.condT rfl ?_ | refine AWP.condF rfl ?_ | (refine AWP.condS rfl ?_ ?_ <;> intro hc) | (refine AWP.cond rfl ?_ ?_ <;> intro hc) | refine AWP.block ?_ | refine AWP.skip ?_ | refine AWP.exit ?_ | refine AWP.regionD mixed (by kernel_rfl) ?_) | (refine AQO.id ?_; first | refine AQO.op (E := env) rfl rfl ?_ | refine AQO.nil ?_ | refine AQO.guardU rfl rfl ?_ rfl | refine AQO.guardK rfl rfl ?_ rfl | refine AQO.guardN rfl rfl rfl ?_ rfl | (refine AQO.guardT rfl rfl ?_ ?_ rfl <;> intro hg) | (refine AQO.guardF rfl rfl ?_ ?_ rfl <;> intro hg) | refine AQO.load (E := env) 0 rfl rfl rfl rfl ?_ | refine AQO.load (E := env) 1 rfl rfl rfl rfl ?_ | refine AQO.load (E := env) 2 rfl rfl rfl rfl ?_ | refine AQO.load (E := env) 3 rfl rfl rfl rfl ?_ | refine AQO.load (E := env) 4 rfl rfl rfl rfl ?_ | refine AQO.load (E := env) 5 rfl rfl rfl rfl ?_ | refine AQO.len (E := env) rfl rfl rfl ?_)) | refine AOps.pure hform rfl rfl ?_ | refine AOps.pure hvar rfl rfl ?_ | refine AOps.pure (hsig (by simp_all)) rfl rfl ?_)
  all_goals first
    | (refine AWP.id ?_; refine AWP.ret ?_; refine BQ.ret1 (.tmp rfl) ?_; simp_all; done)
    | skip
  have hd : d = true := by simp_all
  have hf : f = true := by simp_all
  have hsl' : ss.length = ks.length := hsl hf hd
  have hres' : res = blameL at_ want ss v ks := by simp_all
  clear hres hsl hsig hvar hform
  refine AWP.loopP [1, 2, 5, 6, 28, 29, 30] 0 (fun m σ η => ∃ (i : Nat), i ≤ ks.length ∧ m = ks.length - i ∧ res = blameL at_ want (ss.drop i) (v.drop i) (ks.drop i) ∧
    σ = [(1, intC want), (2, .ip (cellsA (.agg (Ex.row (.mk op s (.mk k lo hi ns ps rs) n t at_ ks))))), (5, .sl 1 (intRows v)), (6, .sl 1 (intRows ss)), (28, .sl 12 (Ex.rows ks)), (29, intC (Ex.rows ks).length), (30, intC i)] ∧ η = []) ks.length
    ⟨_, rfl, 0, Nat.zero_le _, rfl, by simpa using hres', rfl, rfl⟩ ?_
  rintro m σ η ⟨i, hi', hm, hri, rfl, rfl⟩
  repeat' (first | refine AOps.op (E := env) rfl rfl ?_ | refine AOps.nil ?_ | refine AWP.seq ?_ | refine AWP.region ?_ | (refine AOps.id ?_; first | refine AOps.guardU rfl rfl ?_ rfl | refine AOps.guardK rfl rfl ?_ rfl | refine AOps.guardN rfl rfl rfl ?_ rfl | (refine AOps.guardT rfl rfl ?_ ?_ rfl <;> intro hg) | (refine AOps.guardF rfl rfl ?_ ?_ rfl <;> intro hg) | refine AOps.load (E := env) 0 rfl rfl rfl rfl ?_ | refine AOps.load (E := env) 1 rfl rfl rfl rfl ?_ | refine AOps.load (E := env) 2 rfl rfl rfl rfl ?_ | refine AOps.load (E := env) 3 rfl rfl rfl rfl ?_ | refine AOps.load (E := env) 4 rfl rfl rfl rfl ?_ | refine AOps.load (E := env) 5 rfl rfl rfl rfl ?_ | refine AOps.len (E := env) rfl rfl rfl ?_ | (refine AOps.box (E := env) rfl rfl ?_; intro _) | (refine AOps.alloc (E := env) rfl rfl ?_; intro _)) | (refine AWP.id ?_; first | refine AWP.condT rfl ?_ | refine AWP.condF rfl ?_ | (refine AWP.condS rfl ?_ ?_ <;> intro hc) | (refine AWP.cond rfl ?_ ?_ <;> intro hc) | refine AWP.block ?_ | refine AWP.skip ?_ | refine AWP.exit ?_ | refine AWP.regionD mixed (by kernel_rfl) ?_) | (refine AQO.id ?_; first | refine AQO.op (E := env) rfl rfl ?_ | refine AQO.nil ?_ | refine AQO.guardU rfl rfl ?_ rfl | refine AQO.guardK rfl rfl ?_ rfl | refine AQO.guardN rfl rfl rfl ?_ rfl | (refine AQO.guardT rfl rfl ?_ ?_ rfl <;> intro hg) | (refine AQO.guardF rfl rfl ?_ ?_ rfl <;> intro hg) | refine AQO.load (E := env) 0 rfl rfl rfl rfl ?_ | refine AQO.load (E := env) 1 rfl rfl rfl rfl ?_ | refine AQO.load (E := env) 2 rfl rfl rfl rfl ?_ | refine AQO.load (E := env) 3 rfl rfl rfl rfl ?_ | refine AQO.load (E := env) 4 rfl rfl rfl rfl ?_ | refine AQO.load (E := env) 5 rfl rfl rfl rfl ?_ | refine AQO.len (E := env) rfl rfl rfl ?_))
  · have hlt : i < ks.length := by have := of_decide_eq_true ‹decide ((i : Int) < ((Ex.rows ks).length : Int)) = true›; omega
    have hvi : v[i]? = some (v.getD i 0) := by simp [List.getD, hlen, hlt]
    have hsi : ss[i]? = some (ss.getD i 0) := by simp [List.getD, hsl', hlt]
    have hki : ks[i]? = some ks[i] := by simp [hlt]
    have hget := ex_get hki
    have hspec := ih _ (List.getElem_mem hlt)
    rw [blameL_at hlt] at hri
    generalize ks[i] = kid at *
    generalize v.getD i 0 = x at *
    generalize ss.getD i 0 = y at *
    obtain ⟨op1, s1, ⟨k1, lo1, hi1, ns1, ps1, rs1⟩, n1, t1, at1, ks1⟩ := kid
    refine AOps.idx (E := env) i hget rfl rfl rfl rfl rfl ?_
    repeat' (first | (first | refine AOps.op (E := env) rfl rfl ?_ | refine AOps.nil ?_ | refine AWP.seq ?_ | refine AWP.region ?_ | (refine AOps.id ?_; first | refine AOps.guardU rfl rfl ?_ rfl | refine AOps.guardK rfl rfl ?_ rfl | refine AOps.guardN rfl rfl rfl ?_ rfl | (refine AOps.guardT rfl rfl ?_ ?_ rfl <;> intro hg) | (refine AOps.guardF rfl rfl ?_ ?_ rfl <;> intro hg) | refine AOps.load (E := env) 0 rfl rfl rfl rfl ?_ | refine AOps.load (E := env) 1 rfl rfl rfl rfl ?_ | refine AOps.load (E := env) 2 rfl rfl rfl rfl ?_ | refine AOps.load (E := env) 3 rfl rfl rfl rfl ?_ | refine AOps.load (E := env) 4 rfl rfl rfl rfl ?_ | refine AOps.load (E := env) 5 rfl rfl rfl rfl ?_ | refine AOps.len (E := env) rfl rfl rfl ?_ | (refine AOps.box (E := env) rfl rfl ?_; intro _) | (refine AOps.alloc (E := env) rfl rfl ?_; intro _)) | (refine AWP.id ?_; first | refine AWP.condT rfl ?_ | refine AWP.condF rfl ?_ | (refine AWP.condS rfl ?_ ?_ <;> intro hc) | (refine AWP.cond rfl ?_ ?_ <;> intro hc) | refine AWP.block ?_ | refine AWP.skip ?_ | refine AWP.exit ?_ | refine AWP.regionD mixed (by kernel_rfl) ?_) | (refine AQO.id ?_; first | refine AQO.op (E := env) rfl rfl ?_ | refine AQO.nil ?_ | refine AQO.guardU rfl rfl ?_ rfl | refine AQO.guardK rfl rfl ?_ rfl | refine AQO.guardN rfl rfl rfl ?_ rfl | (refine AQO.guardT rfl rfl ?_ ?_ rfl <;> intro hg) | (refine AQO.guardF rfl rfl ?_ ?_ rfl <;> intro hg) | refine AQO.load (E := env) 0 rfl rfl rfl rfl ?_ | refine AQO.load (E := env) 1 rfl rfl rfl rfl ?_ | refine AQO.load (E := env) 2 rfl rfl rfl rfl ?_ | refine AQO.load (E := env) 3 rfl rfl rfl rfl ?_ | refine AQO.load (E := env) 4 rfl rfl rfl rfl ?_ | refine AQO.load (E := env) 5 rfl rfl rfl rfl ?_ | refine AQO.len (E := env) rfl rfl rfl ?_)) | refine AOps.store (E := env) 0 rfl rfl rfl rfl rfl rfl rfl ?_ | refine AOps.idx (E := env) i (intRows_get hvi) rfl rfl rfl rfl rfl ?_ | refine AOps.idx (E := env) i (intRows_get hsi) rfl rfl rfl rfl rfl ?_ | refine AQO.idx (E := env) i (intRows_get hvi) rfl rfl rfl rfl rfl ?_ | refine AQO.idx (E := env) i (intRows_get hsi) rfl rfl rfl rfl rfl ?_ | refine AOps.pure (turned_spec _ _) rfl rfl ?_ | refine AQO.pure (turned_spec _ _) rfl rfl rfl ?_ | refine AOps.pure (hspec _) rfl rfl ?_ | refine AQO.pure (hspec _) rfl rfl rfl ?_)
    all_goals first
      | (refine AWP.id ?_; refine AWP.ret ?_; refine BQ.ret1 (.tmp rfl) ?_; simp_all; done)
      | (refine ⟨ks.length - (i + 1), by omega, _, rfl, i + 1, by omega, rfl, ?_, ?_, rfl⟩
         · simp_all; done
         · rw [← wrap_nat (by omega)])
  · have hlt : i = ks.length := by have := of_decide_eq_false ‹decide ((i : Int) < ((Ex.rows ks).length : Int)) = false›; omega
    subst hlt
    refine AWP.id ?_
    refine AWP.ret ?_
    refine BQ.ret1 (.tmp rfl) ?_
    simp [hri, blameL]

theorem blame_spec (e : Ex) : e.ok → BlameOk e := by
  refine Ex.ind (P := fun e => e.ok → BlameOk e) ?_ e
  intro op s l n t a ks ih hok
  refine blame_step _ hok (fun k hk => ih k hk ?_)
  simp only [Ex.ok] at hok
  exact Ex.okL_mem hok.2 k hk

/-- A function of a program. -/
structure Fu where
  name : ByteArray
  on : ByteArray
  params : List (ByteArray × Int)
  result : Int
  body : Ex
def Fu.row (f : Fu) : List AV := [strC f.name, strC f.on, .sl 2 (f.params.map fun p => [strC p.1, intC p.2]), intC f.result] ++ f.body.row

def monoS (f : Fu) : Bool := f.result != 0 && (ofS f.body == 0 || ofS f.body == 1)

set_option maxHeartbeats 1000000 in
theorem monotone_spec (f : Fu) (hok : f.body.ok) : Pure env.toCx 15 [.agg f.row] (boolC (monoS f)) := by
  have hof := of_spec f.body hok
  obtain ⟨nm, on, pp, r, ⟨op, s, ⟨k, lo, hi, ns, ps, rs⟩, n, t, at_, ks⟩⟩ := f
  unfold OfOk at hof
  simp only [monoS] at *
  generalize ofS (.mk op s (.mk k lo hi ns ps rs) n t at_ ks) = x at *
  refine Pure.enter (E := env) Tryd.func15 rfl (by kernel_rfl) _ rfl _ Tryd.ntmps15 rfl ?_
  repeat' (first | (first | refine AOps.op (E := env) rfl rfl ?_ | refine AOps.nil ?_ | refine AWP.seq ?_ | refine AWP.region ?_ | (refine AOps.id ?_; first | refine AOps.guardU rfl rfl ?_ rfl | refine AOps.guardK rfl rfl ?_ rfl | refine AOps.guardN rfl rfl rfl ?_ rfl | (refine AOps.guardT rfl rfl ?_ ?_ rfl <;> intro hg) | (refine AOps.guardF rfl rfl ?_ ?_ rfl <;> intro hg) | refine AOps.load (E := env) 0 rfl rfl rfl rfl ?_ | refine AOps.load (E := env) 1 rfl rfl rfl rfl ?_ | refine AOps.load (E := env) 2 rfl rfl rfl rfl ?_ | refine AOps.load (E := env) 3 rfl rfl rfl rfl ?_ | refine AOps.load (E := env) 4 rfl rfl rfl rfl ?_ | refine AOps.load (E := env) 5 rfl rfl rfl rfl ?_ | refine AOps.len (E := env) rfl rfl rfl ?_ | (refine AOps.box (E := env) rfl rfl ?_; intro _) | (refine AOps.alloc (E := env) rfl rfl ?_; intro _)) | (refine AWP.id ?_; first | refine AWP.condT rfl ?_ | refine AWP.condF rfl ?_ | (refine AWP.condS rfl ?_ ?_ <;> intro hc) | (refine AWP.cond rfl ?_ ?_ <;> intro hc) | refine AWP.block ?_ | refine AWP.skip ?_ | refine AWP.exit ?_ | refine AWP.regionD mixed (by kernel_rfl) ?_) | (refine AQO.id ?_; first | refine AQO.op (E := env) rfl rfl ?_ | refine AQO.nil ?_ | refine AQO.guardU rfl rfl ?_ rfl | refine AQO.guardK rfl rfl ?_ rfl | refine AQO.guardN rfl rfl rfl ?_ rfl | (refine AQO.guardT rfl rfl ?_ ?_ rfl <;> intro hg) | (refine AQO.guardF rfl rfl ?_ ?_ rfl <;> intro hg) | refine AQO.load (E := env) 0 rfl rfl rfl rfl ?_ | refine AQO.load (E := env) 1 rfl rfl rfl rfl ?_ | refine AQO.load (E := env) 2 rfl rfl rfl rfl ?_ | refine AQO.load (E := env) 3 rfl rfl rfl rfl ?_ | refine AQO.load (E := env) 4 rfl rfl rfl rfl ?_ | refine AQO.load (E := env) 5 rfl rfl rfl rfl ?_ | refine AQO.len (E := env) rfl rfl rfl ?_)) | refine AOps.pure hof rfl rfl ?_)
  all_goals (refine AWP.ret ?_; refine BQ.ret1 (.tmp rfl) ?_; first | (simp_all; done) | (by_cases h1 : r = 0 <;> by_cases h2 : x = 0 <;> by_cases h3 : x = 1 <;> first | (simp_all; done) | (simp_all; rw [Bool.eq_iff_iff]; simp only [beq_iff_eq, Bool.and_eq_true, Bool.or_eq_true, bne_iff_ne, ne_eq]; omega)))

def blamesS (f : Fu) : Int := if f.result = 0 then -1 else if monoS f then -1 else blameS f.body 1

set_option maxHeartbeats 1000000 in
theorem Blame_spec (f : Fu) (hok : f.body.ok) : Pure env.toCx 14 [.agg f.row] (intC (blamesS f)) := by
  have hof := monotone_spec f hok
  have hbl := blame_spec f.body hok 1
  obtain ⟨nm, on, pp, r, ⟨op, s, ⟨k, lo, hi, ns, ps, rs⟩, n, t, at_, ks⟩⟩ := f
  simp only [blamesS] at *
  generalize monoS _ = x at *
  generalize blameS _ _ = y at *
  refine Pure.enter (E := env) Tryd.func14 rfl (by kernel_rfl) _ rfl _ Tryd.ntmps14 rfl ?_
  repeat' (first | (first | refine AOps.op (E := env) rfl rfl ?_ | refine AOps.nil ?_ | refine AWP.seq ?_ | refine AWP.region ?_ | (refine AOps.id ?_; first | refine AOps.guardU rfl rfl ?_ rfl | refine AOps.guardK rfl rfl ?_ rfl | refine AOps.guardN rfl rfl rfl ?_ rfl | (refine AOps.guardT rfl rfl ?_ ?_ rfl <;> intro hg) | (refine AOps.guardF rfl rfl ?_ ?_ rfl <;> intro hg) | refine AOps.load (E := env) 0 rfl rfl rfl rfl ?_ | refine AOps.load (E := env) 1 rfl rfl rfl rfl ?_ | refine AOps.load (E := env) 2 rfl rfl rfl rfl ?_ | refine AOps.load (E := env) 3 rfl rfl rfl rfl ?_ | refine AOps.load (E := env) 4 rfl rfl rfl rfl ?_ | refine AOps.load (E := env) 5 rfl rfl rfl rfl ?_ | refine AOps.len (E := env) rfl rfl rfl ?_ | (refine AOps.box (E := env) rfl rfl ?_; intro _) | (refine AOps.alloc (E := env) rfl rfl ?_; intro _)) | (refine AWP.id ?_; first | refine AWP.condT rfl ?_ | refine AWP.condF rfl ?_ | (refine AWP.condS rfl ?_ ?_ <;> intro hc) | (refine AWP.cond rfl ?_ ?_ <;> intro hc) | refine AWP.block ?_ | refine AWP.skip ?_ | refine AWP.exit ?_ | refine AWP.regionD mixed (by kernel_rfl) ?_) | (refine AQO.id ?_; first | refine AQO.op (E := env) rfl rfl ?_ | refine AQO.nil ?_ | refine AQO.guardU rfl rfl ?_ rfl | refine AQO.guardK rfl rfl ?_ rfl | refine AQO.guardN rfl rfl rfl ?_ rfl | (refine AQO.guardT rfl rfl ?_ ?_ rfl <;> intro hg) | (refine AQO.guardF rfl rfl ?_ ?_ rfl <;> intro hg) | refine AQO.load (E := env) 0 rfl rfl rfl rfl ?_ | refine AQO.load (E := env) 1 rfl rfl rfl rfl ?_ | refine AQO.load (E := env) 2 rfl rfl rfl rfl ?_ | refine AQO.load (E := env) 3 rfl rfl rfl rfl ?_ | refine AQO.load (E := env) 4 rfl rfl rfl rfl ?_ | refine AQO.load (E := env) 5 rfl rfl rfl rfl ?_ | refine AQO.len (E := env) rfl rfl rfl ?_)) | refine AOps.pure hof rfl rfl ?_ | refine AOps.pure hbl rfl rfl ?_)
  all_goals (refine AWP.ret ?_; refine BQ.ret1 (.tmp rfl) ?_; simp_all)
end Go.Proofs.YtkbjckcclfceoaaDoor
