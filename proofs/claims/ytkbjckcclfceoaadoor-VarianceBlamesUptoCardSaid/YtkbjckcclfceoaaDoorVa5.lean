/-
  Own work. Layer 20: signs: the walk.
-/
import Derived.Test.YtkbjckcclfceoaaDoorVa4
import Derived.Test.YtkbjckcclfceoaaDoorAw10
namespace Go.Proofs.YtkbjckcclfceoaaDoor
open Go Go.Aw
attribute [local irreducible] AWP AOps AQO ALx

theorem getD_some {v : List Int} {i : Nat} (h : i < v.length) : v[i]? = some (v.getD i 0) := by simp [List.getD, h]

set_option maxHeartbeats 400000 in
theorem signs1_spec (v : List Int) (i : Nat) (h : i < v.length) : Pure env.toCx 27 [intC i, .ip [.sl 1 (intRows v)]] (boolC (v.getD i 0 == 0)) := by
  have hvi := getD_some h
  refine Pure.enter (E := env) Tryd.func27 rfl (by kernel_rfl) _ rfl _ Tryd.ntmps27 rfl ?_
  repeat' (first | (first | refine AOps.op (E := env) rfl rfl ?_ | refine AOps.nil ?_ | refine AWP.seq ?_ | refine AWP.region ?_ | (refine AOps.id ?_; first | refine AOps.guardU rfl rfl ?_ rfl | refine AOps.guardK rfl rfl ?_ rfl | refine AOps.guardN rfl rfl rfl ?_ rfl | (refine AOps.guardT rfl rfl ?_ ?_ rfl <;> intro hg) | (refine AOps.guardF rfl rfl ?_ ?_ rfl <;> intro hg) | refine AOps.load (E := env) 0 rfl rfl rfl rfl ?_ | refine AOps.load (E := env) 1 rfl rfl rfl rfl ?_ | refine AOps.load (E := env) 2 rfl rfl rfl rfl ?_ | refine AOps.load (E := env) 3 rfl rfl rfl rfl ?_ | refine AOps.load (E := env) 4 rfl rfl rfl rfl ?_ | refine AOps.load (E := env) 5 rfl rfl rfl rfl ?_ | refine AOps.len (E := env) rfl rfl rfl ?_ | (refine AOps.box (E := env) rfl rfl ?_; intro _) | (refine AOps.alloc (E := env) rfl rfl ?_; intro _)) | (refine AWP.id ?_; first | refine AWP.condT rfl ?_ | refine AWP.condF rfl ?_ | (refine AWP.cond rfl ?_ ?_ <;> intro hc) | refine AWP.block ?_ | refine AWP.skip ?_ | refine AWP.exit ?_ | refine AWP.regionD mixed (by kernel_rfl) ?_) | (refine AQO.id ?_; first | refine AQO.op (E := env) rfl rfl ?_ | refine AQO.nil ?_ | refine AQO.guardU rfl rfl ?_ rfl | refine AQO.guardK rfl rfl ?_ rfl | refine AQO.guardN rfl rfl rfl ?_ rfl | (refine AQO.guardT rfl rfl ?_ ?_ rfl <;> intro hg) | (refine AQO.guardF rfl rfl ?_ ?_ rfl <;> intro hg) | refine AQO.load (E := env) 0 rfl rfl rfl rfl ?_ | refine AQO.load (E := env) 1 rfl rfl rfl rfl ?_ | refine AQO.load (E := env) 2 rfl rfl rfl rfl ?_ | refine AQO.load (E := env) 3 rfl rfl rfl rfl ?_ | refine AQO.load (E := env) 4 rfl rfl rfl rfl ?_ | refine AQO.load (E := env) 5 rfl rfl rfl rfl ?_ | refine AQO.len (E := env) rfl rfl rfl ?_)) | refine AOps.idx (E := env) i (intRows_get hvi) rfl rfl rfl rfl rfl ?_)
  refine AWP.ret ?_
  exact BQ.ret1 (.tmp rfl) rfl

theorem kid_get {ks : List Ex} {i : Nat} (h : i < ks.length) : (Ex.rows ks)[i]? = some (kidD ks i).row := ex_get (by simp [kidD, List.getD, h])

/-- How many kids there are, as far as the code asks. -/
def lensOk (op : Int) (n : Nat) : Prop := (op = 7 ∨ op = 28 → 2 < n) ∧ (op = 20 ∨ op = 14 ∨ op = 7 ∨ op = 28 → 1 < n) ∧ (op = 7 ∨ op = 14 ∨ op = 20 ∨ op = 29 ∨ op = 30 ∨ op = 31 ∨ op = 37 ∨ op = 28 → 0 < n)

theorem lensOk_of {e : Ex} (h : formS e = true) : lensOk e.op e.kids.length := by
  unfold formS at h
  split at h
  · cases h
  unfold lensOk
  obtain ⟨op, s, l, n, t, a, ks⟩ := e
  simp only [Ex.op, Ex.kids] at *
  refine ⟨fun g => ?_, fun g => ?_, fun g => ?_⟩
  · rcases g with g | g <;> (rw [g] at h; simp [kidsN, kidsL] at h; omega)
  · rcases g with g | g | g | g <;> (rw [g] at h; simp [kidsN, kidsL] at h; omega)
  · rcases g with g | g | g | g | g | g | g | g <;> (rw [g] at h; simp [kidsN, kidsL] at h; omega)

set_option maxHeartbeats 8000000 in
theorem signs_spec (e : Ex) (v : List Int) (hk : e.kids.length ≤ 1099511627776) (hv : v.length = e.kids.length) (hf : formS e = true) :
    Pure env.toCx 23 [.agg e.row, .sl 1 (intRows v)] (.tup [.sl 1 (intRows (signsS e.op e.la e.kids v).1), boolC (signsS e.op e.la e.kids v).2]) := by
  have hl := lensOk_of hf
  have hlist := list_spec e v hk hv
  clear hf
  obtain ⟨op, s, ⟨k, lo, hi, ns, ps, rs⟩, n, t, at_, ks⟩ := e
  simp only [Ex.kids, Ex.op, Ex.la, lensOk] at *
  obtain ⟨hl2, hl1, hl0⟩ := hl
  have hg0 : 0 < ks.length → (Ex.rows ks)[0]? = some (kidD ks 0).row := kid_get
  have hg1 : 1 < ks.length → (Ex.rows ks)[1]? = some (kidD ks 1).row := kid_get
  have hg2 : 2 < ks.length → (Ex.rows ks)[2]? = some (kidD ks 2).row := kid_get
  have hb01 := below_spec (kidD ks 2) (kidD ks 1)
  have hb10 := below_spec (kidD ks 1) (kidD ks 2)
  generalize hres : signsS op (.mk k lo hi ns ps rs) ks v = res
  simp only [signsS] at hres
  have hv0 : 0 < ks.length → Pure env.toCx 27 [intC 0, .ip [.sl 1 (intRows v)]] (boolC (v.getD 0 0 == 0)) := fun h => signs1_spec v 0 (by omega)
  have hv1 : 1 < ks.length → Pure env.toCx 27 [intC 1, .ip [.sl 1 (intRows v)]] (boolC (v.getD 1 0 == 0)) := fun h => signs1_spec v 1 (by omega)
  have hv2 : 2 < ks.length → Pure env.toCx 27 [intC 2, .ip [.sl 1 (intRows v)]] (boolC (v.getD 2 0 == 0)) := fun h => signs1_spec v 2 (by omega)
  generalize v.getD 0 0 = x0 at *
  generalize v.getD 1 0 = x1 at *
  generalize v.getD 2 0 = x2 at *
  generalize kidD ks 0 = k0 at *
  generalize kidD ks 1 = k1 at *
  generalize kidD ks 2 = k2 at *
  obtain ⟨op0, s0, ⟨kk0, lo0, hi0, ns0, ps0, rs0⟩, n0, t0, at0, ks0⟩ := k0
  obtain ⟨op1, s1, ⟨kk1, lo1, hi1, ns1, ps1, rs1⟩, n1, t1, at1, ks1⟩ := k1
  obtain ⟨op2, s2, ⟨kk2, lo2, hi2, ns2, ps2, rs2⟩, n2, t2, at2, ks2⟩ := k2
  have hn0 := number_spec (.mk kk0 lo0 hi0 ns0 ps0 rs0)
  have hsum := sum_spec (.mk kk0 lo0 hi0 ns0 ps0 rs0)
  have hsz := sized_spec s0 (.mk kk0 lo0 hi0 ns0 ps0 rs0)
  refine Pure.enter (E := env) Tryd.func23 rfl (by kernel_rfl) _ rfl _ Tryd.ntmps23 rfl ?_
  refine AWP.seq ?_
  refine AWP.region ?_
  iterate 4 (first | refine AOps.op (E := env) rfl rfl ?_ | refine AOps.nil ?_ | refine AWP.seq ?_ | refine AWP.region ?_ | (refine AOps.id ?_; first | refine AOps.guardU rfl rfl ?_ rfl | refine AOps.guardK rfl rfl ?_ rfl | refine AOps.guardN rfl rfl rfl ?_ rfl | (refine AOps.guardT rfl rfl ?_ ?_ rfl <;> intro hg) | (refine AOps.guardF rfl rfl ?_ ?_ rfl <;> intro hg) | refine AOps.load (E := env) 0 rfl rfl rfl rfl ?_ | refine AOps.load (E := env) 1 rfl rfl rfl rfl ?_ | refine AOps.load (E := env) 2 rfl rfl rfl rfl ?_ | refine AOps.load (E := env) 3 rfl rfl rfl rfl ?_ | refine AOps.load (E := env) 4 rfl rfl rfl rfl ?_ | refine AOps.load (E := env) 5 rfl rfl rfl rfl ?_ | refine AOps.len (E := env) rfl rfl rfl ?_ | (refine AOps.box (E := env) rfl rfl ?_; intro _) | (refine AOps.alloc (E := env) rfl rfl ?_; intro _)) | (refine AWP.id ?_; first | refine AWP.condT rfl ?_ | refine AWP.condF rfl ?_ | (refine AWP.condS rfl ?_ ?_ <;> intro hc) | (refine AWP.cond rfl ?_ ?_ <;> intro hc) | refine AWP.block ?_ | refine AWP.skip ?_ | refine AWP.exit ?_ | refine AWP.regionD mixed (by kernel_rfl) ?_) | (refine AQO.id ?_; first | refine AQO.op (E := env) rfl rfl ?_ | refine AQO.nil ?_ | refine AQO.guardU rfl rfl ?_ rfl | refine AQO.guardK rfl rfl ?_ rfl | refine AQO.guardN rfl rfl rfl ?_ rfl | (refine AQO.guardT rfl rfl ?_ ?_ rfl <;> intro hg) | (refine AQO.guardF rfl rfl ?_ ?_ rfl <;> intro hg) | refine AQO.load (E := env) 0 rfl rfl rfl rfl ?_ | refine AQO.load (E := env) 1 rfl rfl rfl rfl ?_ | refine AQO.load (E := env) 2 rfl rfl rfl rfl ?_ | refine AQO.load (E := env) 3 rfl rfl rfl rfl ?_ | refine AQO.load (E := env) 4 rfl rfl rfl rfl ?_ | refine AQO.load (E := env) 5 rfl rfl rfl rfl ?_ | refine AQO.len (E := env) rfl rfl rfl ?_))
  refine AOps.nil ?_
  refine AWP.id ?_
  refine AWP.freezeBox 1 3 rfl rfl ?_
  refine AWP.freezeBox 0 2 rfl rfl ?_
  repeat' (first | (refine AWP.id ?_; refine AWP.regionR (id := 9) mixed (by kernel_rfl) ?_) | (refine AWP.id ?_; refine AWP.regionR (id := 43) mixed (by kernel_rfl) ?_) | (first | refine AOps.op (E := env) rfl rfl ?_ | refine AOps.nil ?_ | refine AWP.seq ?_ | refine AWP.region ?_ | (refine AOps.id ?_; first | refine AOps.guardU rfl rfl ?_ rfl | refine AOps.guardK rfl rfl ?_ rfl | refine AOps.guardN rfl rfl rfl ?_ rfl | (refine AOps.guardT rfl rfl ?_ ?_ rfl <;> intro hg) | (refine AOps.guardF rfl rfl ?_ ?_ rfl <;> intro hg) | refine AOps.load (E := env) 0 rfl rfl rfl rfl ?_ | refine AOps.load (E := env) 1 rfl rfl rfl rfl ?_ | refine AOps.load (E := env) 2 rfl rfl rfl rfl ?_ | refine AOps.load (E := env) 3 rfl rfl rfl rfl ?_ | refine AOps.load (E := env) 4 rfl rfl rfl rfl ?_ | refine AOps.load (E := env) 5 rfl rfl rfl rfl ?_ | refine AOps.len (E := env) rfl rfl rfl ?_ | (refine AOps.box (E := env) rfl rfl ?_; intro _) | (refine AOps.alloc (E := env) rfl rfl ?_; intro _)) | (refine AWP.id ?_; first | refine AWP.condT rfl ?_ | refine AWP.condF rfl ?_ | (refine AWP.condS rfl ?_ ?_ <;> intro hc) | (refine AWP.cond rfl ?_ ?_ <;> intro hc) | refine AWP.block ?_ | refine AWP.skip ?_ | refine AWP.exit ?_ | refine AWP.regionD mixed (by kernel_rfl) ?_) | (refine AQO.id ?_; first | refine AQO.op (E := env) rfl rfl ?_ | refine AQO.nil ?_ | refine AQO.guardU rfl rfl ?_ rfl | refine AQO.guardK rfl rfl ?_ rfl | refine AQO.guardN rfl rfl rfl ?_ rfl | (refine AQO.guardT rfl rfl ?_ ?_ rfl <;> intro hg) | (refine AQO.guardF rfl rfl ?_ ?_ rfl <;> intro hg) | refine AQO.load (E := env) 0 rfl rfl rfl rfl ?_ | refine AQO.load (E := env) 1 rfl rfl rfl rfl ?_ | refine AQO.load (E := env) 2 rfl rfl rfl rfl ?_ | refine AQO.load (E := env) 3 rfl rfl rfl rfl ?_ | refine AQO.load (E := env) 4 rfl rfl rfl rfl ?_ | refine AQO.load (E := env) 5 rfl rfl rfl rfl ?_ | refine AQO.len (E := env) rfl rfl rfl ?_)) | (refine ALx.id ?_; first | refine ALx.op (E := env) rfl rfl ?_ | refine ALx.nil ?_ | refine ALx.lit (E := env) rfl rfl rfl rfl rfl rfl ?_ | refine ALx.len (E := env) rfl rfl rfl ?_ | refine ALx.load (E := env) 0 rfl rfl rfl rfl ?_ | refine ALx.load (E := env) 1 rfl rfl rfl rfl ?_ | refine ALx.load (E := env) 2 rfl rfl rfl rfl ?_ | refine ALx.load (E := env) 3 rfl rfl rfl rfl ?_ | refine ALx.load (E := env) 4 rfl rfl rfl rfl ?_ | refine ALx.load (E := env) 5 rfl rfl rfl rfl ?_) | (refine AOps.lit (E := env) rfl rfl rfl rfl rfl rfl ?_; intro _) | refine AOps.pure (signs2_spec _) rfl rfl ?_ | refine AOps.pure (hv0 (by simp only [beq_iff_eq] at *; omega)) rfl rfl ?_ | refine AOps.pure (hv1 (by simp only [beq_iff_eq] at *; omega)) rfl rfl ?_ | refine AOps.pure (hv2 (by simp only [beq_iff_eq] at *; omega)) rfl rfl ?_ | refine AOps.pure hn0 rfl rfl ?_ | refine AOps.pure hsum rfl rfl ?_ | refine AOps.pure hsz rfl rfl ?_ | refine AOps.pure hlist rfl rfl ?_ | refine AOps.pure (number_spec (.mk k lo hi ns ps rs)) rfl rfl ?_ | refine AOps.idx (E := env) 0 (hg0 (by simp only [beq_iff_eq] at *; omega)) rfl rfl rfl rfl rfl ?_ | refine AQO.idx (E := env) 0 (hg0 (by simp only [beq_iff_eq] at *; omega)) rfl rfl rfl rfl rfl ?_ | refine AQO.idx (E := env) 1 (hg1 (by simp only [beq_iff_eq] at *; omega)) rfl rfl rfl rfl rfl ?_ | refine AQO.idx (E := env) 2 (hg2 (by simp only [beq_iff_eq] at *; omega)) rfl rfl rfl rfl rfl ?_ | refine ALx.idx (E := env) 0 (hg0 (by simp only [beq_iff_eq] at *; omega)) rfl rfl rfl rfl rfl ?_ | refine ALx.idx (E := env) 1 (hg1 (by simp only [beq_iff_eq] at *; omega)) rfl rfl rfl rfl rfl ?_ | refine ALx.idx (E := env) 2 (hg2 (by simp only [beq_iff_eq] at *; omega)) rfl rfl rfl rfl rfl ?_ | refine AQO.pure hb01 rfl rfl rfl ?_ | refine ALx.pure hb10 rfl rfl ?_)
  all_goals first
    | (refine AWP.id ?_; refine AWP.freeze 0 4 rfl rfl ?_; refine AWP.ret ?_; refine BQ.ret2 (.tmp rfl) (.tmp rfl) ?_)
    | (refine AWP.id ?_; refine AWP.nilSl 4 1 rfl ?_; refine AWP.ret ?_; refine BQ.ret2 (.tmp rfl) (.tmp rfl) ?_)
    | (refine AWP.id ?_; refine AWP.ret ?_; refine BQ.ret2 (.tmp rfl) (.tmp rfl) ?_)
  all_goals (subst hres)
  all_goals (try simp only [beq_iff_eq, beq_eq_false_iff_ne, ne_eq] at *)
  all_goals (simp [intRows, chunk, Ex.la, Ex.sort, La.kind, *])
end Go.Proofs.YtkbjckcclfceoaaDoor
