/-
  Own work. Layer 20: room, Small, contains: the walks.
-/
import Derived.Test.YtkbjckcclfceoaaDoorVa10
namespace Go.Proofs.YtkbjckcclfceoaaDoor
open Go Go.Aw
attribute [local irreducible] AWP AOps AQO ALx

mutual
def roomS : Ex → Int → Int
  | .mk _ _ _ _ _ _ ks, m => roomL ks (m - 1)
def roomL : List Ex → Int → Int
  | [], m => m
  | k :: ks, m => if 0 ≤ m then roomL ks (roomS k m) else m
end

theorem roomL_neg (ks : List Ex) {m : Int} (h : m < 0) : roomL ks m = m := by
  cases ks with
  | nil => simp [roomL]
  | cons k ks => rw [roomL, if_neg (by omega)]

theorem room_bound (e : Ex) : ∀ m : Int, 0 ≤ m → -1 ≤ roomS e m ∧ roomS e m ≤ m - 1 := by
  refine Ex.ind (P := fun e => ∀ m : Int, 0 ≤ m → -1 ≤ roomS e m ∧ roomS e m ≤ m - 1) ?_ e
  intro op s l n t a ks ih m hm
  have key : ∀ ks : List Ex, (∀ k ∈ ks, ∀ m : Int, 0 ≤ m → -1 ≤ roomS k m ∧ roomS k m ≤ m - 1) → ∀ m : Int, -1 ≤ m → -1 ≤ roomL ks m ∧ roomL ks m ≤ m := by
    intro ks
    induction ks with
    | nil => intro _ m hm; simp only [roomL]; omega
    | cons k ks ih =>
      intro h m hm
      rw [roomL]
      split
      · have h1 := h k (by simp) m (by omega)
        have h2 := ih (fun x hx => h x (by simp [hx])) (roomS k m) h1.1
        omega
      · omega
  rw [roomS]
  exact key ks ih (m - 1) (by omega)

theorem wrap_small {m : Int} (h1 : -1000000 ≤ m) (h2 : m ≤ 1000000) : IntKind.i64.wrap m = m := by rw [IntKind.wrap_i64]; omega

def RoomOk (e : Ex) : Prop := ∀ m : Int, 0 ≤ m → m ≤ 1000 → Pure env.toCx 18 [.agg e.row, intC m] (intC (roomS e m))

set_option maxHeartbeats 4000000 in
theorem room_step (e : Ex) (hk : e.kids.length ≤ 1099511627776) (ih : ∀ k ∈ e.kids, RoomOk k) : RoomOk e := by
  obtain ⟨op, s, ⟨k, lo, hi, ns, ps, rs⟩, n, t, at_, ks⟩ := e
  simp only [Ex.kids] at hk ih
  have hlv := ex_len ks
  intro m hm1 hm2
  have hres : roomS (.mk op s (.mk k lo hi ns ps rs) n t at_ ks) m = roomL ks (m - 1) := by rw [roomS]
  generalize roomS (.mk op s (.mk k lo hi ns ps rs) n t at_ ks) m = res at *
  refine Pure.enter (E := env) Tryd.func18 rfl (by kernel_rfl) _ rfl _ Tryd.ntmps18 rfl ?_
  refine AWP.seq ?_
  refine AWP.region ?_
  iterate 2 (first | refine AOps.op (E := env) rfl rfl ?_ | refine AOps.nil ?_ | refine AWP.seq ?_ | refine AWP.region ?_ | (refine AOps.id ?_; first | refine AOps.guardU rfl rfl ?_ rfl | refine AOps.guardK rfl rfl ?_ rfl | refine AOps.guardN rfl rfl rfl ?_ rfl | (refine AOps.guardT rfl rfl ?_ ?_ rfl <;> intro hg) | (refine AOps.guardF rfl rfl ?_ ?_ rfl <;> intro hg) | refine AOps.load (E := env) 0 rfl rfl rfl rfl ?_ | refine AOps.load (E := env) 1 rfl rfl rfl rfl ?_ | refine AOps.load (E := env) 2 rfl rfl rfl rfl ?_ | refine AOps.load (E := env) 3 rfl rfl rfl rfl ?_ | refine AOps.load (E := env) 4 rfl rfl rfl rfl ?_ | refine AOps.load (E := env) 5 rfl rfl rfl rfl ?_ | refine AOps.len (E := env) rfl rfl rfl ?_ | (refine AOps.box (E := env) rfl rfl ?_; intro _) | (refine AOps.alloc (E := env) rfl rfl ?_; intro _)) | (refine AWP.id ?_; first | refine AWP.condT rfl ?_ | refine AWP.condF rfl ?_ | (refine AWP.condS rfl ?_ ?_ <;> intro hc) | (refine AWP.cond rfl ?_ ?_ <;> intro hc) | refine AWP.block ?_ | refine AWP.skip ?_ | refine AWP.exit ?_ | refine AWP.regionD mixed (by kernel_rfl) ?_) | (refine AQO.id ?_; first | refine AQO.op (E := env) rfl rfl ?_ | refine AQO.nil ?_ | refine AQO.guardU rfl rfl ?_ rfl | refine AQO.guardK rfl rfl ?_ rfl | refine AQO.guardN rfl rfl rfl ?_ rfl | (refine AQO.guardT rfl rfl ?_ ?_ rfl <;> intro hg) | (refine AQO.guardF rfl rfl ?_ ?_ rfl <;> intro hg) | refine AQO.load (E := env) 0 rfl rfl rfl rfl ?_ | refine AQO.load (E := env) 1 rfl rfl rfl rfl ?_ | refine AQO.load (E := env) 2 rfl rfl rfl rfl ?_ | refine AQO.load (E := env) 3 rfl rfl rfl rfl ?_ | refine AQO.load (E := env) 4 rfl rfl rfl rfl ?_ | refine AQO.load (E := env) 5 rfl rfl rfl rfl ?_ | refine AQO.len (E := env) rfl rfl rfl ?_))
  refine AOps.nil ?_
  refine AWP.id ?_
  refine AWP.freezeBox 0 2 rfl rfl ?_
  refine AWP.seq ?_
  refine AWP.region ?_
  iterate 3 (first | refine AOps.op (E := env) rfl rfl ?_ | refine AOps.nil ?_ | refine AWP.seq ?_ | refine AWP.region ?_ | (refine AOps.id ?_; first | refine AOps.guardU rfl rfl ?_ rfl | refine AOps.guardK rfl rfl ?_ rfl | refine AOps.guardN rfl rfl rfl ?_ rfl | (refine AOps.guardT rfl rfl ?_ ?_ rfl <;> intro hg) | (refine AOps.guardF rfl rfl ?_ ?_ rfl <;> intro hg) | refine AOps.load (E := env) 0 rfl rfl rfl rfl ?_ | refine AOps.load (E := env) 1 rfl rfl rfl rfl ?_ | refine AOps.load (E := env) 2 rfl rfl rfl rfl ?_ | refine AOps.load (E := env) 3 rfl rfl rfl rfl ?_ | refine AOps.load (E := env) 4 rfl rfl rfl rfl ?_ | refine AOps.load (E := env) 5 rfl rfl rfl rfl ?_ | refine AOps.len (E := env) rfl rfl rfl ?_ | (refine AOps.box (E := env) rfl rfl ?_; intro _) | (refine AOps.alloc (E := env) rfl rfl ?_; intro _)) | (refine AWP.id ?_; first | refine AWP.condT rfl ?_ | refine AWP.condF rfl ?_ | (refine AWP.condS rfl ?_ ?_ <;> intro hc) | (refine AWP.cond rfl ?_ ?_ <;> intro hc) | refine AWP.block ?_ | refine AWP.skip ?_ | refine AWP.exit ?_ | refine AWP.regionD mixed (by kernel_rfl) ?_) | (refine AQO.id ?_; first | refine AQO.op (E := env) rfl rfl ?_ | refine AQO.nil ?_ | refine AQO.guardU rfl rfl ?_ rfl | refine AQO.guardK rfl rfl ?_ rfl | refine AQO.guardN rfl rfl rfl ?_ rfl | (refine AQO.guardT rfl rfl ?_ ?_ rfl <;> intro hg) | (refine AQO.guardF rfl rfl ?_ ?_ rfl <;> intro hg) | refine AQO.load (E := env) 0 rfl rfl rfl rfl ?_ | refine AQO.load (E := env) 1 rfl rfl rfl rfl ?_ | refine AQO.load (E := env) 2 rfl rfl rfl rfl ?_ | refine AQO.load (E := env) 3 rfl rfl rfl rfl ?_ | refine AQO.load (E := env) 4 rfl rfl rfl rfl ?_ | refine AQO.load (E := env) 5 rfl rfl rfl rfl ?_ | refine AQO.len (E := env) rfl rfl rfl ?_))
  refine AOps.nil ?_
  refine AWP.id ?_
  refine AWP.seq ?_
  refine AWP.seq ?_
  refine AWP.region ?_
  iterate 1 (first | refine AOps.op (E := env) rfl rfl ?_ | refine AOps.nil ?_ | refine AWP.seq ?_ | refine AWP.region ?_ | (refine AOps.id ?_; first | refine AOps.guardU rfl rfl ?_ rfl | refine AOps.guardK rfl rfl ?_ rfl | refine AOps.guardN rfl rfl rfl ?_ rfl | (refine AOps.guardT rfl rfl ?_ ?_ rfl <;> intro hg) | (refine AOps.guardF rfl rfl ?_ ?_ rfl <;> intro hg) | refine AOps.load (E := env) 0 rfl rfl rfl rfl ?_ | refine AOps.load (E := env) 1 rfl rfl rfl rfl ?_ | refine AOps.load (E := env) 2 rfl rfl rfl rfl ?_ | refine AOps.load (E := env) 3 rfl rfl rfl rfl ?_ | refine AOps.load (E := env) 4 rfl rfl rfl rfl ?_ | refine AOps.load (E := env) 5 rfl rfl rfl rfl ?_ | refine AOps.len (E := env) rfl rfl rfl ?_ | (refine AOps.box (E := env) rfl rfl ?_; intro _) | (refine AOps.alloc (E := env) rfl rfl ?_; intro _)) | (refine AWP.id ?_; first | refine AWP.condT rfl ?_ | refine AWP.condF rfl ?_ | (refine AWP.condS rfl ?_ ?_ <;> intro hc) | (refine AWP.cond rfl ?_ ?_ <;> intro hc) | refine AWP.block ?_ | refine AWP.skip ?_ | refine AWP.exit ?_ | refine AWP.regionD mixed (by kernel_rfl) ?_) | (refine AQO.id ?_; first | refine AQO.op (E := env) rfl rfl ?_ | refine AQO.nil ?_ | refine AQO.guardU rfl rfl ?_ rfl | refine AQO.guardK rfl rfl ?_ rfl | refine AQO.guardN rfl rfl rfl ?_ rfl | (refine AQO.guardT rfl rfl ?_ ?_ rfl <;> intro hg) | (refine AQO.guardF rfl rfl ?_ ?_ rfl <;> intro hg) | refine AQO.load (E := env) 0 rfl rfl rfl rfl ?_ | refine AQO.load (E := env) 1 rfl rfl rfl rfl ?_ | refine AQO.load (E := env) 2 rfl rfl rfl rfl ?_ | refine AQO.load (E := env) 3 rfl rfl rfl rfl ?_ | refine AQO.load (E := env) 4 rfl rfl rfl rfl ?_ | refine AQO.load (E := env) 5 rfl rfl rfl rfl ?_ | refine AQO.len (E := env) rfl rfl rfl ?_))
  refine AOps.nil ?_
  refine AWP.id ?_
  refine AWP.block ?_
  have hw : IntKind.i64.wrap (m - 1) = m - 1 := wrap_small (by omega) (by omega)
  refine AWP.loopP [1, 2, 5] 0 (fun q σ η => ∃ (i : Nat) (x : Int), i ≤ ks.length ∧ q = ks.length - i ∧ -1 ≤ x ∧ x ≤ 1000 ∧ res = roomL (ks.drop i) x ∧
    σ = [(1, intC x), (2, .ip (cellsA (.agg (Ex.row (.mk op s (.mk k lo hi ns ps rs) n t at_ ks))))), (5, intC i)] ∧ η = []) ks.length
    ⟨_, rfl, 0, m - 1, Nat.zero_le _, rfl, by omega, by omega, by simpa using hres, by rw [hw]; rfl, rfl⟩ ?_
  rintro q σ η ⟨i, x, hi', hm, hx1, hx2, hri, rfl, rfl⟩
  repeat' (first | refine AOps.op (E := env) rfl rfl ?_ | refine AOps.nil ?_ | refine AWP.seq ?_ | refine AWP.region ?_ | (refine AOps.id ?_; first | refine AOps.guardU rfl rfl ?_ rfl | refine AOps.guardK rfl rfl ?_ rfl | refine AOps.guardN rfl rfl rfl ?_ rfl | (refine AOps.guardT rfl rfl ?_ ?_ rfl <;> intro hg) | (refine AOps.guardF rfl rfl ?_ ?_ rfl <;> intro hg) | refine AOps.load (E := env) 0 rfl rfl rfl rfl ?_ | refine AOps.load (E := env) 1 rfl rfl rfl rfl ?_ | refine AOps.load (E := env) 2 rfl rfl rfl rfl ?_ | refine AOps.load (E := env) 3 rfl rfl rfl rfl ?_ | refine AOps.load (E := env) 4 rfl rfl rfl rfl ?_ | refine AOps.load (E := env) 5 rfl rfl rfl rfl ?_ | refine AOps.len (E := env) rfl rfl rfl ?_ | (refine AOps.box (E := env) rfl rfl ?_; intro _) | (refine AOps.alloc (E := env) rfl rfl ?_; intro _)) | (refine AWP.id ?_; first | refine AWP.condT rfl ?_ | refine AWP.condF rfl ?_ | (refine AWP.condS rfl ?_ ?_ <;> intro hc) | (refine AWP.cond rfl ?_ ?_ <;> intro hc) | refine AWP.block ?_ | refine AWP.skip ?_ | refine AWP.exit ?_ | refine AWP.regionD mixed (by kernel_rfl) ?_) | (refine AQO.id ?_; first | refine AQO.op (E := env) rfl rfl ?_ | refine AQO.nil ?_ | refine AQO.guardU rfl rfl ?_ rfl | refine AQO.guardK rfl rfl ?_ rfl | refine AQO.guardN rfl rfl rfl ?_ rfl | (refine AQO.guardT rfl rfl ?_ ?_ rfl <;> intro hg) | (refine AQO.guardF rfl rfl ?_ ?_ rfl <;> intro hg) | refine AQO.load (E := env) 0 rfl rfl rfl rfl ?_ | refine AQO.load (E := env) 1 rfl rfl rfl rfl ?_ | refine AQO.load (E := env) 2 rfl rfl rfl rfl ?_ | refine AQO.load (E := env) 3 rfl rfl rfl rfl ?_ | refine AQO.load (E := env) 4 rfl rfl rfl rfl ?_ | refine AQO.load (E := env) 5 rfl rfl rfl rfl ?_ | refine AQO.len (E := env) rfl rfl rfl ?_))
  all_goals (try (exfalso; simp_all; done))
  · have hlt : i < ks.length := by have := of_decide_eq_true ‹decide ((i : Int) < ((Ex.rows ks).length : Int)) = true›; omega
    have hx0 : 0 ≤ x := by first | (simp_all; done) | (simp_all; omega)
    have hki : ks[i]? = some ks[i] := by simp [hlt]
    have hget := ex_get hki
    have hspec := ih _ (List.getElem_mem hlt) x hx0 hx2
    have hb := room_bound ks[i] x hx0
    rw [List.drop_eq_getElem_cons hlt, roomL, if_pos hx0] at hri
    generalize ks[i] = kid at *
    obtain ⟨op1, s1, ⟨k1, lo1, hi1, ns1, ps1, rs1⟩, n1, t1, at1, ks1⟩ := kid
    repeat' (first | (first | refine AOps.op (E := env) rfl rfl ?_ | refine AOps.nil ?_ | refine AWP.seq ?_ | refine AWP.region ?_ | (refine AOps.id ?_; first | refine AOps.guardU rfl rfl ?_ rfl | refine AOps.guardK rfl rfl ?_ rfl | refine AOps.guardN rfl rfl rfl ?_ rfl | (refine AOps.guardT rfl rfl ?_ ?_ rfl <;> intro hg) | (refine AOps.guardF rfl rfl ?_ ?_ rfl <;> intro hg) | refine AOps.load (E := env) 0 rfl rfl rfl rfl ?_ | refine AOps.load (E := env) 1 rfl rfl rfl rfl ?_ | refine AOps.load (E := env) 2 rfl rfl rfl rfl ?_ | refine AOps.load (E := env) 3 rfl rfl rfl rfl ?_ | refine AOps.load (E := env) 4 rfl rfl rfl rfl ?_ | refine AOps.load (E := env) 5 rfl rfl rfl rfl ?_ | refine AOps.len (E := env) rfl rfl rfl ?_ | (refine AOps.box (E := env) rfl rfl ?_; intro _) | (refine AOps.alloc (E := env) rfl rfl ?_; intro _)) | (refine AWP.id ?_; first | refine AWP.condT rfl ?_ | refine AWP.condF rfl ?_ | (refine AWP.condS rfl ?_ ?_ <;> intro hc) | (refine AWP.cond rfl ?_ ?_ <;> intro hc) | refine AWP.block ?_ | refine AWP.skip ?_ | refine AWP.exit ?_ | refine AWP.regionD mixed (by kernel_rfl) ?_) | (refine AQO.id ?_; first | refine AQO.op (E := env) rfl rfl ?_ | refine AQO.nil ?_ | refine AQO.guardU rfl rfl ?_ rfl | refine AQO.guardK rfl rfl ?_ rfl | refine AQO.guardN rfl rfl rfl ?_ rfl | (refine AQO.guardT rfl rfl ?_ ?_ rfl <;> intro hg) | (refine AQO.guardF rfl rfl ?_ ?_ rfl <;> intro hg) | refine AQO.load (E := env) 0 rfl rfl rfl rfl ?_ | refine AQO.load (E := env) 1 rfl rfl rfl rfl ?_ | refine AQO.load (E := env) 2 rfl rfl rfl rfl ?_ | refine AQO.load (E := env) 3 rfl rfl rfl rfl ?_ | refine AQO.load (E := env) 4 rfl rfl rfl rfl ?_ | refine AQO.load (E := env) 5 rfl rfl rfl rfl ?_ | refine AQO.len (E := env) rfl rfl rfl ?_)) | refine AOps.idx (E := env) i hget rfl rfl rfl rfl rfl ?_ | refine AOps.pure hspec rfl rfl ?_)
    refine ⟨ks.length - (i + 1), by omega, _, rfl, i + 1, _, by omega, rfl, hb.1, by omega, hri, ?_, rfl⟩
    rw [← wrap_nat (by omega)]
  · have hx0 : x < 0 := by first | (simp_all; done) | (simp_all; omega)
    rw [roomL_neg _ hx0] at hri
    repeat' (first | refine AOps.op (E := env) rfl rfl ?_ | refine AOps.nil ?_ | refine AWP.seq ?_ | refine AWP.region ?_ | (refine AOps.id ?_; first | refine AOps.guardU rfl rfl ?_ rfl | refine AOps.guardK rfl rfl ?_ rfl | refine AOps.guardN rfl rfl rfl ?_ rfl | (refine AOps.guardT rfl rfl ?_ ?_ rfl <;> intro hg) | (refine AOps.guardF rfl rfl ?_ ?_ rfl <;> intro hg) | refine AOps.load (E := env) 0 rfl rfl rfl rfl ?_ | refine AOps.load (E := env) 1 rfl rfl rfl rfl ?_ | refine AOps.load (E := env) 2 rfl rfl rfl rfl ?_ | refine AOps.load (E := env) 3 rfl rfl rfl rfl ?_ | refine AOps.load (E := env) 4 rfl rfl rfl rfl ?_ | refine AOps.load (E := env) 5 rfl rfl rfl rfl ?_ | refine AOps.len (E := env) rfl rfl rfl ?_ | (refine AOps.box (E := env) rfl rfl ?_; intro _) | (refine AOps.alloc (E := env) rfl rfl ?_; intro _)) | (refine AWP.id ?_; first | refine AWP.condT rfl ?_ | refine AWP.condF rfl ?_ | (refine AWP.condS rfl ?_ ?_ <;> intro hc) | (refine AWP.cond rfl ?_ ?_ <;> intro hc) | refine AWP.block ?_ | refine AWP.skip ?_ | refine AWP.exit ?_ | refine AWP.regionD mixed (by kernel_rfl) ?_) | (refine AQO.id ?_; first | refine AQO.op (E := env) rfl rfl ?_ | refine AQO.nil ?_ | refine AQO.guardU rfl rfl ?_ rfl | refine AQO.guardK rfl rfl ?_ rfl | refine AQO.guardN rfl rfl rfl ?_ rfl | (refine AQO.guardT rfl rfl ?_ ?_ rfl <;> intro hg) | (refine AQO.guardF rfl rfl ?_ ?_ rfl <;> intro hg) | refine AQO.load (E := env) 0 rfl rfl rfl rfl ?_ | refine AQO.load (E := env) 1 rfl rfl rfl rfl ?_ | refine AQO.load (E := env) 2 rfl rfl rfl rfl ?_ | refine AQO.load (E := env) 3 rfl rfl rfl rfl ?_ | refine AQO.load (E := env) 4 rfl rfl rfl rfl ?_ | refine AQO.load (E := env) 5 rfl rfl rfl rfl ?_ | refine AQO.len (E := env) rfl rfl rfl ?_))
    refine AWP.id ?_
    refine AWP.ret ?_
    refine BQ.ret1 (.tmp rfl) ?_
    simp [hri]
  · have hlt : i = ks.length := by have := of_decide_eq_false ‹decide ((i : Int) < ((Ex.rows ks).length : Int)) = false›; omega
    subst hlt
    simp only [List.drop_length, roomL] at hri
    repeat' (first | refine AOps.op (E := env) rfl rfl ?_ | refine AOps.nil ?_ | refine AWP.seq ?_ | refine AWP.region ?_ | (refine AOps.id ?_; first | refine AOps.guardU rfl rfl ?_ rfl | refine AOps.guardK rfl rfl ?_ rfl | refine AOps.guardN rfl rfl rfl ?_ rfl | (refine AOps.guardT rfl rfl ?_ ?_ rfl <;> intro hg) | (refine AOps.guardF rfl rfl ?_ ?_ rfl <;> intro hg) | refine AOps.load (E := env) 0 rfl rfl rfl rfl ?_ | refine AOps.load (E := env) 1 rfl rfl rfl rfl ?_ | refine AOps.load (E := env) 2 rfl rfl rfl rfl ?_ | refine AOps.load (E := env) 3 rfl rfl rfl rfl ?_ | refine AOps.load (E := env) 4 rfl rfl rfl rfl ?_ | refine AOps.load (E := env) 5 rfl rfl rfl rfl ?_ | refine AOps.len (E := env) rfl rfl rfl ?_ | (refine AOps.box (E := env) rfl rfl ?_; intro _) | (refine AOps.alloc (E := env) rfl rfl ?_; intro _)) | (refine AWP.id ?_; first | refine AWP.condT rfl ?_ | refine AWP.condF rfl ?_ | (refine AWP.condS rfl ?_ ?_ <;> intro hc) | (refine AWP.cond rfl ?_ ?_ <;> intro hc) | refine AWP.block ?_ | refine AWP.skip ?_ | refine AWP.exit ?_ | refine AWP.regionD mixed (by kernel_rfl) ?_) | (refine AQO.id ?_; first | refine AQO.op (E := env) rfl rfl ?_ | refine AQO.nil ?_ | refine AQO.guardU rfl rfl ?_ rfl | refine AQO.guardK rfl rfl ?_ rfl | refine AQO.guardN rfl rfl rfl ?_ rfl | (refine AQO.guardT rfl rfl ?_ ?_ rfl <;> intro hg) | (refine AQO.guardF rfl rfl ?_ ?_ rfl <;> intro hg) | refine AQO.load (E := env) 0 rfl rfl rfl rfl ?_ | refine AQO.load (E := env) 1 rfl rfl rfl rfl ?_ | refine AQO.load (E := env) 2 rfl rfl rfl rfl ?_ | refine AQO.load (E := env) 3 rfl rfl rfl rfl ?_ | refine AQO.load (E := env) 4 rfl rfl rfl rfl ?_ | refine AQO.load (E := env) 5 rfl rfl rfl rfl ?_ | refine AQO.len (E := env) rfl rfl rfl ?_))
    refine AWP.id ?_
    refine AWP.ret ?_
    refine BQ.ret1 (.tmp rfl) ?_
    simp [hri]

theorem room_spec (e : Ex) : e.ok → RoomOk e := by
  refine Ex.ind (P := fun e => e.ok → RoomOk e) ?_ e
  intro op s l n t a ks ih hok
  simp only [Ex.ok] at hok
  exact room_step _ hok.1 (fun k hk => ih k hk (Ex.okL_mem hok.2 k hk))

set_option maxHeartbeats 400000 in
theorem small_spec (e : Ex) (hok : e.ok) (m : Int) (h1 : 0 ≤ m) (h2 : m ≤ 1000) : Pure env.toCx 12 [.agg e.row, intC m] (boolC (decide (roomS e m ≥ 0))) := by
  have hr := room_spec e hok m h1 h2
  obtain ⟨op, s, ⟨k, lo, hi, ns, ps, rs⟩, n, t, at_, ks⟩ := e
  generalize roomS _ _ = x at *
  refine Pure.enter (E := env) Tryd.func12 rfl (by kernel_rfl) _ rfl _ Tryd.ntmps12 rfl ?_
  repeat' (first | (first | refine AOps.op (E := env) rfl rfl ?_ | refine AOps.nil ?_ | refine AWP.seq ?_ | refine AWP.region ?_ | (refine AOps.id ?_; first | refine AOps.guardU rfl rfl ?_ rfl | refine AOps.guardK rfl rfl ?_ rfl | refine AOps.guardN rfl rfl rfl ?_ rfl | (refine AOps.guardT rfl rfl ?_ ?_ rfl <;> intro hg) | (refine AOps.guardF rfl rfl ?_ ?_ rfl <;> intro hg) | refine AOps.load (E := env) 0 rfl rfl rfl rfl ?_ | refine AOps.load (E := env) 1 rfl rfl rfl rfl ?_ | refine AOps.load (E := env) 2 rfl rfl rfl rfl ?_ | refine AOps.load (E := env) 3 rfl rfl rfl rfl ?_ | refine AOps.load (E := env) 4 rfl rfl rfl rfl ?_ | refine AOps.load (E := env) 5 rfl rfl rfl rfl ?_ | refine AOps.len (E := env) rfl rfl rfl ?_ | (refine AOps.box (E := env) rfl rfl ?_; intro _) | (refine AOps.alloc (E := env) rfl rfl ?_; intro _)) | (refine AWP.id ?_; first | refine AWP.condT rfl ?_ | refine AWP.condF rfl ?_ | (refine AWP.condS rfl ?_ ?_ <;> intro hc) | (refine AWP.cond rfl ?_ ?_ <;> intro hc) | refine AWP.block ?_ | refine AWP.skip ?_ | refine AWP.exit ?_ | refine AWP.regionD mixed (by kernel_rfl) ?_) | (refine AQO.id ?_; first | refine AQO.op (E := env) rfl rfl ?_ | refine AQO.nil ?_ | refine AQO.guardU rfl rfl ?_ rfl | refine AQO.guardK rfl rfl ?_ rfl | refine AQO.guardN rfl rfl rfl ?_ rfl | (refine AQO.guardT rfl rfl ?_ ?_ rfl <;> intro hg) | (refine AQO.guardF rfl rfl ?_ ?_ rfl <;> intro hg) | refine AQO.load (E := env) 0 rfl rfl rfl rfl ?_ | refine AQO.load (E := env) 1 rfl rfl rfl rfl ?_ | refine AQO.load (E := env) 2 rfl rfl rfl rfl ?_ | refine AQO.load (E := env) 3 rfl rfl rfl rfl ?_ | refine AQO.load (E := env) 4 rfl rfl rfl rfl ?_ | refine AQO.load (E := env) 5 rfl rfl rfl rfl ?_ | refine AQO.len (E := env) rfl rfl rfl ?_)) | refine AOps.pure hr rfl rfl ?_)
  refine AWP.ret ?_
  exact BQ.ret1 (.tmp rfl) rfl

mutual
def containsS (at_ : Int) : Ex → Bool
  | .mk _ _ _ _ _ a ks => a == at_ || containsL at_ ks
def containsL (at_ : Int) : List Ex → Bool
  | [] => false
  | k :: ks => containsS at_ k || containsL at_ ks
end

def ContainsOk (at_ : Int) (e : Ex) : Prop := Pure env.toCx 16 [.agg e.row, intC at_] (boolC (containsS at_ e))

set_option maxHeartbeats 4000000 in
theorem contains_step (w : Int) (e : Ex) (hk : e.kids.length ≤ 1099511627776) (ih : ∀ k ∈ e.kids, ContainsOk w k) : ContainsOk w e := by
  obtain ⟨op, s, ⟨k, lo, hi, ns, ps, rs⟩, n, t, at_, ks⟩ := e
  simp only [Ex.kids] at hk ih
  have hlv := ex_len ks
  have hres : containsS w (.mk op s (.mk k lo hi ns ps rs) n t at_ ks) = (at_ == w || containsL w ks) := by rw [containsS]
  unfold ContainsOk
  generalize containsS w (.mk op s (.mk k lo hi ns ps rs) n t at_ ks) = res at *
  refine Pure.enter (E := env) Tryd.func16 rfl (by kernel_rfl) _ rfl _ Tryd.ntmps16 rfl ?_
  refine AWP.seq ?_
  refine AWP.region ?_
  iterate 2 (first | refine AOps.op (E := env) rfl rfl ?_ | refine AOps.nil ?_ | refine AWP.seq ?_ | refine AWP.region ?_ | (refine AOps.id ?_; first | refine AOps.guardU rfl rfl ?_ rfl | refine AOps.guardK rfl rfl ?_ rfl | refine AOps.guardN rfl rfl rfl ?_ rfl | (refine AOps.guardT rfl rfl ?_ ?_ rfl <;> intro hg) | (refine AOps.guardF rfl rfl ?_ ?_ rfl <;> intro hg) | refine AOps.load (E := env) 0 rfl rfl rfl rfl ?_ | refine AOps.load (E := env) 1 rfl rfl rfl rfl ?_ | refine AOps.load (E := env) 2 rfl rfl rfl rfl ?_ | refine AOps.load (E := env) 3 rfl rfl rfl rfl ?_ | refine AOps.load (E := env) 4 rfl rfl rfl rfl ?_ | refine AOps.load (E := env) 5 rfl rfl rfl rfl ?_ | refine AOps.len (E := env) rfl rfl rfl ?_ | (refine AOps.box (E := env) rfl rfl ?_; intro _) | (refine AOps.alloc (E := env) rfl rfl ?_; intro _)) | (refine AWP.id ?_; first | refine AWP.condT rfl ?_ | refine AWP.condF rfl ?_ | (refine AWP.condS rfl ?_ ?_ <;> intro hc) | (refine AWP.cond rfl ?_ ?_ <;> intro hc) | refine AWP.block ?_ | refine AWP.skip ?_ | refine AWP.exit ?_ | refine AWP.regionD mixed (by kernel_rfl) ?_) | (refine AQO.id ?_; first | refine AQO.op (E := env) rfl rfl ?_ | refine AQO.nil ?_ | refine AQO.guardU rfl rfl ?_ rfl | refine AQO.guardK rfl rfl ?_ rfl | refine AQO.guardN rfl rfl rfl ?_ rfl | (refine AQO.guardT rfl rfl ?_ ?_ rfl <;> intro hg) | (refine AQO.guardF rfl rfl ?_ ?_ rfl <;> intro hg) | refine AQO.load (E := env) 0 rfl rfl rfl rfl ?_ | refine AQO.load (E := env) 1 rfl rfl rfl rfl ?_ | refine AQO.load (E := env) 2 rfl rfl rfl rfl ?_ | refine AQO.load (E := env) 3 rfl rfl rfl rfl ?_ | refine AQO.load (E := env) 4 rfl rfl rfl rfl ?_ | refine AQO.load (E := env) 5 rfl rfl rfl rfl ?_ | refine AQO.len (E := env) rfl rfl rfl ?_))
  refine AOps.nil ?_
  refine AWP.id ?_
  refine AWP.freezeBox 0 2 rfl rfl ?_
  repeat' (first | refine AOps.op (E := env) rfl rfl ?_ | refine AOps.nil ?_ | refine AWP.seq ?_ | refine AWP.region ?_ | (refine AOps.id ?_; first | refine AOps.guardU rfl rfl ?_ rfl | refine AOps.guardK rfl rfl ?_ rfl | refine AOps.guardN rfl rfl rfl ?_ rfl | (refine AOps.guardT rfl rfl ?_ ?_ rfl <;> intro hg) | (refine AOps.guardF rfl rfl ?_ ?_ rfl <;> intro hg) | refine AOps.load (E := env) 0 rfl rfl rfl rfl ?_ | refine AOps.load (E := env) 1 rfl rfl rfl rfl ?_ | refine AOps.load (E := env) 2 rfl rfl rfl rfl ?_ | refine AOps.load (E := env) 3 rfl rfl rfl rfl ?_ | refine AOps.load (E := env) 4 rfl rfl rfl rfl ?_ | refine AOps.load (E := env) 5 rfl rfl rfl rfl ?_ | refine AOps.len (E := env) rfl rfl rfl ?_ | (refine AOps.box (E := env) rfl rfl ?_; intro _) | (refine AOps.alloc (E := env) rfl rfl ?_; intro _)) | (refine AWP.id ?_; first | refine AWP.condT rfl ?_ | refine AWP.condF rfl ?_ | (refine AWP.condS rfl ?_ ?_ <;> intro hc) | (refine AWP.cond rfl ?_ ?_ <;> intro hc) | refine AWP.block ?_ | refine AWP.skip ?_ | refine AWP.exit ?_ | refine AWP.regionD mixed (by kernel_rfl) ?_) | (refine AQO.id ?_; first | refine AQO.op (E := env) rfl rfl ?_ | refine AQO.nil ?_ | refine AQO.guardU rfl rfl ?_ rfl | refine AQO.guardK rfl rfl ?_ rfl | refine AQO.guardN rfl rfl rfl ?_ rfl | (refine AQO.guardT rfl rfl ?_ ?_ rfl <;> intro hg) | (refine AQO.guardF rfl rfl ?_ ?_ rfl <;> intro hg) | refine AQO.load (E := env) 0 rfl rfl rfl rfl ?_ | refine AQO.load (E := env) 1 rfl rfl rfl rfl ?_ | refine AQO.load (E := env) 2 rfl rfl rfl rfl ?_ | refine AQO.load (E := env) 3 rfl rfl rfl rfl ?_ | refine AQO.load (E := env) 4 rfl rfl rfl rfl ?_ | refine AQO.load (E := env) 5 rfl rfl rfl rfl ?_ | refine AQO.len (E := env) rfl rfl rfl ?_))
  · refine AWP.ret ?_
    refine BQ.ret1 (.tmp rfl) ?_
    simp_all
  have hres' : res = containsL w ks := by simp_all
  clear hres
  refine AWP.loopP [1, 2, 5] 0 (fun q σ η => ∃ (i : Nat), i ≤ ks.length ∧ q = ks.length - i ∧ res = containsL w (ks.drop i) ∧
    σ = [(1, intC w), (2, .ip (cellsA (.agg (Ex.row (.mk op s (.mk k lo hi ns ps rs) n t at_ ks))))), (5, intC i)] ∧ η = []) ks.length
    ⟨_, rfl, 0, Nat.zero_le _, rfl, by simpa using hres', rfl, rfl⟩ ?_
  rintro q σ η ⟨i, hi', hm, hri, rfl, rfl⟩
  repeat' (first | refine AOps.op (E := env) rfl rfl ?_ | refine AOps.nil ?_ | refine AWP.seq ?_ | refine AWP.region ?_ | (refine AOps.id ?_; first | refine AOps.guardU rfl rfl ?_ rfl | refine AOps.guardK rfl rfl ?_ rfl | refine AOps.guardN rfl rfl rfl ?_ rfl | (refine AOps.guardT rfl rfl ?_ ?_ rfl <;> intro hg) | (refine AOps.guardF rfl rfl ?_ ?_ rfl <;> intro hg) | refine AOps.load (E := env) 0 rfl rfl rfl rfl ?_ | refine AOps.load (E := env) 1 rfl rfl rfl rfl ?_ | refine AOps.load (E := env) 2 rfl rfl rfl rfl ?_ | refine AOps.load (E := env) 3 rfl rfl rfl rfl ?_ | refine AOps.load (E := env) 4 rfl rfl rfl rfl ?_ | refine AOps.load (E := env) 5 rfl rfl rfl rfl ?_ | refine AOps.len (E := env) rfl rfl rfl ?_ | (refine AOps.box (E := env) rfl rfl ?_; intro _) | (refine AOps.alloc (E := env) rfl rfl ?_; intro _)) | (refine AWP.id ?_; first | refine AWP.condT rfl ?_ | refine AWP.condF rfl ?_ | (refine AWP.condS rfl ?_ ?_ <;> intro hc) | (refine AWP.cond rfl ?_ ?_ <;> intro hc) | refine AWP.block ?_ | refine AWP.skip ?_ | refine AWP.exit ?_ | refine AWP.regionD mixed (by kernel_rfl) ?_) | (refine AQO.id ?_; first | refine AQO.op (E := env) rfl rfl ?_ | refine AQO.nil ?_ | refine AQO.guardU rfl rfl ?_ rfl | refine AQO.guardK rfl rfl ?_ rfl | refine AQO.guardN rfl rfl rfl ?_ rfl | (refine AQO.guardT rfl rfl ?_ ?_ rfl <;> intro hg) | (refine AQO.guardF rfl rfl ?_ ?_ rfl <;> intro hg) | refine AQO.load (E := env) 0 rfl rfl rfl rfl ?_ | refine AQO.load (E := env) 1 rfl rfl rfl rfl ?_ | refine AQO.load (E := env) 2 rfl rfl rfl rfl ?_ | refine AQO.load (E := env) 3 rfl rfl rfl rfl ?_ | refine AQO.load (E := env) 4 rfl rfl rfl rfl ?_ | refine AQO.load (E := env) 5 rfl rfl rfl rfl ?_ | refine AQO.len (E := env) rfl rfl rfl ?_))
  · have hlt : i < ks.length := by have := of_decide_eq_true ‹decide ((i : Int) < ((Ex.rows ks).length : Int)) = true›; omega
    have hki : ks[i]? = some ks[i] := by simp [hlt]
    have hget := ex_get hki
    have hspec := ih _ (List.getElem_mem hlt)
    rw [List.drop_eq_getElem_cons hlt, containsL] at hri
    unfold ContainsOk at hspec
    generalize ks[i] = kid at *
    obtain ⟨op1, s1, ⟨k1, lo1, hi1, ns1, ps1, rs1⟩, n1, t1, at1, ks1⟩ := kid
    repeat' (first | (first | refine AOps.op (E := env) rfl rfl ?_ | refine AOps.nil ?_ | refine AWP.seq ?_ | refine AWP.region ?_ | (refine AOps.id ?_; first | refine AOps.guardU rfl rfl ?_ rfl | refine AOps.guardK rfl rfl ?_ rfl | refine AOps.guardN rfl rfl rfl ?_ rfl | (refine AOps.guardT rfl rfl ?_ ?_ rfl <;> intro hg) | (refine AOps.guardF rfl rfl ?_ ?_ rfl <;> intro hg) | refine AOps.load (E := env) 0 rfl rfl rfl rfl ?_ | refine AOps.load (E := env) 1 rfl rfl rfl rfl ?_ | refine AOps.load (E := env) 2 rfl rfl rfl rfl ?_ | refine AOps.load (E := env) 3 rfl rfl rfl rfl ?_ | refine AOps.load (E := env) 4 rfl rfl rfl rfl ?_ | refine AOps.load (E := env) 5 rfl rfl rfl rfl ?_ | refine AOps.len (E := env) rfl rfl rfl ?_ | (refine AOps.box (E := env) rfl rfl ?_; intro _) | (refine AOps.alloc (E := env) rfl rfl ?_; intro _)) | (refine AWP.id ?_; first | refine AWP.condT rfl ?_ | refine AWP.condF rfl ?_ | (refine AWP.condS rfl ?_ ?_ <;> intro hc) | (refine AWP.cond rfl ?_ ?_ <;> intro hc) | refine AWP.block ?_ | refine AWP.skip ?_ | refine AWP.exit ?_ | refine AWP.regionD mixed (by kernel_rfl) ?_) | (refine AQO.id ?_; first | refine AQO.op (E := env) rfl rfl ?_ | refine AQO.nil ?_ | refine AQO.guardU rfl rfl ?_ rfl | refine AQO.guardK rfl rfl ?_ rfl | refine AQO.guardN rfl rfl rfl ?_ rfl | (refine AQO.guardT rfl rfl ?_ ?_ rfl <;> intro hg) | (refine AQO.guardF rfl rfl ?_ ?_ rfl <;> intro hg) | refine AQO.load (E := env) 0 rfl rfl rfl rfl ?_ | refine AQO.load (E := env) 1 rfl rfl rfl rfl ?_ | refine AQO.load (E := env) 2 rfl rfl rfl rfl ?_ | refine AQO.load (E := env) 3 rfl rfl rfl rfl ?_ | refine AQO.load (E := env) 4 rfl rfl rfl rfl ?_ | refine AQO.load (E := env) 5 rfl rfl rfl rfl ?_ | refine AQO.len (E := env) rfl rfl rfl ?_)) | refine AOps.idx (E := env) i hget rfl rfl rfl rfl rfl ?_ | refine AOps.pure hspec rfl rfl ?_)
    · refine AWP.id ?_
      refine AWP.ret ?_
      refine BQ.ret1 (.tmp rfl) ?_
      simp_all
    · refine ⟨ks.length - (i + 1), by omega, _, rfl, i + 1, by omega, rfl, by simp_all, ?_, rfl⟩
      rw [← wrap_nat (by omega)]
  · have hlt : i = ks.length := by have := of_decide_eq_false ‹decide ((i : Int) < ((Ex.rows ks).length : Int)) = false›; omega
    subst hlt
    simp only [List.drop_length, containsL] at hri
    repeat' (first | refine AOps.op (E := env) rfl rfl ?_ | refine AOps.nil ?_ | refine AWP.seq ?_ | refine AWP.region ?_ | (refine AOps.id ?_; first | refine AOps.guardU rfl rfl ?_ rfl | refine AOps.guardK rfl rfl ?_ rfl | refine AOps.guardN rfl rfl rfl ?_ rfl | (refine AOps.guardT rfl rfl ?_ ?_ rfl <;> intro hg) | (refine AOps.guardF rfl rfl ?_ ?_ rfl <;> intro hg) | refine AOps.load (E := env) 0 rfl rfl rfl rfl ?_ | refine AOps.load (E := env) 1 rfl rfl rfl rfl ?_ | refine AOps.load (E := env) 2 rfl rfl rfl rfl ?_ | refine AOps.load (E := env) 3 rfl rfl rfl rfl ?_ | refine AOps.load (E := env) 4 rfl rfl rfl rfl ?_ | refine AOps.load (E := env) 5 rfl rfl rfl rfl ?_ | refine AOps.len (E := env) rfl rfl rfl ?_ | (refine AOps.box (E := env) rfl rfl ?_; intro _) | (refine AOps.alloc (E := env) rfl rfl ?_; intro _)) | (refine AWP.id ?_; first | refine AWP.condT rfl ?_ | refine AWP.condF rfl ?_ | (refine AWP.condS rfl ?_ ?_ <;> intro hc) | (refine AWP.cond rfl ?_ ?_ <;> intro hc) | refine AWP.block ?_ | refine AWP.skip ?_ | refine AWP.exit ?_ | refine AWP.regionD mixed (by kernel_rfl) ?_) | (refine AQO.id ?_; first | refine AQO.op (E := env) rfl rfl ?_ | refine AQO.nil ?_ | refine AQO.guardU rfl rfl ?_ rfl | refine AQO.guardK rfl rfl ?_ rfl | refine AQO.guardN rfl rfl rfl ?_ rfl | (refine AQO.guardT rfl rfl ?_ ?_ rfl <;> intro hg) | (refine AQO.guardF rfl rfl ?_ ?_ rfl <;> intro hg) | refine AQO.load (E := env) 0 rfl rfl rfl rfl ?_ | refine AQO.load (E := env) 1 rfl rfl rfl rfl ?_ | refine AQO.load (E := env) 2 rfl rfl rfl rfl ?_ | refine AQO.load (E := env) 3 rfl rfl rfl rfl ?_ | refine AQO.load (E := env) 4 rfl rfl rfl rfl ?_ | refine AQO.load (E := env) 5 rfl rfl rfl rfl ?_ | refine AQO.len (E := env) rfl rfl rfl ?_))
    refine AWP.id ?_
    refine AWP.ret ?_
    refine BQ.ret1 (.tmp rfl) ?_
    simp [hri]

theorem contains_spec (w : Int) (e : Ex) : e.ok → ContainsOk w e := by
  refine Ex.ind (P := fun e => e.ok → ContainsOk w e) ?_ e
  intro op s l n t a ks ih hok
  simp only [Ex.ok] at hok
  exact contains_step w _ hok.1 (fun k hk => ih k hk (Ex.okL_mem hok.2 k hk))
end Go.Proofs.YtkbjckcclfceoaaDoor
