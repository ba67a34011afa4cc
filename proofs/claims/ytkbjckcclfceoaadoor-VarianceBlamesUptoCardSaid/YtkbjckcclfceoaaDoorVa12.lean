/-
  Own work. The statements VarianceComposes and VarianceBlames: the plain laws, and what their functions compute.
-/
import Derived.Test.YtkbjckcclfceoaaDoorVa11
namespace Go.Proofs.YtkbjckcclfceoaaDoor
open Go Go.Aw
attribute [local irreducible] AWP AOps AQO ALx

theorem foldT_range (v s : List Int) : ∀ i, foldT v s i = vl (foldT v s i)
  | 0 => rfl
  | i + 1 => by
    have h := foldT_range v s i
    have hvl : ∀ x, vl (vl x) = vl x := fun x => by unfold vl; repeat' split <;> omega
    have hb : ∀ x y, bothS x y = vl (bothS x y) := fun x y => by
      unfold bothS
      repeat' split
      · exact (hvl y).symm
      · exact (hvl x).symm
      · rfl
    rw [foldT]
    split
    · exact hb _ _
    · exact h

theorem ofS_range (e : Ex) : ofS e = vl (ofS e) := by
  obtain ⟨op, s, l, n, t, a, ks⟩ := e
  rw [ofS]
  repeat' split
  · rfl
  · rfl
  · rfl
  · rfl
  · exact foldT_range _ _ _

theorem ofS_cases (e : Ex) : ofS e = 0 ∨ ofS e = 1 ∨ ofS e = 2 ∨ ofS e = 3 := by rw [ofS_range]; exact vl_cases _

def un (op : Int) (x : Ex) : Ex := .mk op 0 la0 0 ByteArray.empty 0 [x]
def bin (op : Int) (x y : Ex) : Ex := .mk op 0 la0 0 ByteArray.empty 0 [x, y]

theorem form_un (x : Ex) : formS (un 10 x) = true := rfl
theorem form_bin (op : Int) (h : op = 9 ∨ op = 8 ∨ op = 17 ∨ op = 16 ∨ op = 18 ∨ op = 15) (x y : Ex) : formS (bin op x y) = true := by
  rcases h with h | h | h | h | h | h <;> (subst h; rfl)

def ofV (op s : Int) (l : La) (n : Int) (t : ByteArray) (a : Int) (ks : List Ex) (v : List Int) : Int :=
  if formS (.mk op s l n t a ks) = false then 3 else if op = 5 then 1 else
    if v.any (· != 0) = false then 0 else
      match signsS op l ks v with
      | (_, false) => 3
      | (s, true) => foldT v s v.length
theorem ofS_eq (op s : Int) (l : La) (n : Int) (t : ByteArray) (a : Int) (ks : List Ex) : ofS (.mk op s l n t a ks) = ofV op s l n t a ks (ofL ks) := by rw [ofS]; rfl

theorem of_not (x : Ex) : ofS (un 10 x) = flipS (ofS x) := by
  unfold un
  rw [ofS_eq, show ofL [x] = [ofS x] from rfl]
  rcases ofS_cases x with h | h | h | h <;> rw [h] <;> rfl

theorem of_bin (op : Int) (h : op = 9 ∨ op = 8 ∨ op = 17 ∨ op = 16) (x y : Ex) : ofS (bin op x y) = bothS (ofS x) (ofS y) := by
  unfold bin
  rw [ofS_eq, show ofL [x, y] = [ofS x, ofS y] from rfl]
  rcases h with h | h | h | h <;> subst h <;>
  rcases ofS_cases x with h | h | h | h <;> rw [h] <;> rcases ofS_cases y with g | g | g | g <;> rw [g] <;> rfl

theorem of_minus (x y : Ex) : ofS (bin 18 x y) = bothS (ofS x) (flipS (ofS y)) := by
  unfold bin
  rw [ofS_eq, show ofL [x, y] = [ofS x, ofS y] from rfl]
  rcases ofS_cases x with h | h | h | h <;> rw [h] <;> rcases ofS_cases y with g | g | g | g <;> rw [g] <;> rfl

theorem of_leq (x y : Ex) : ofS (bin 15 x y) = bothS (flipS (ofS x)) (ofS y) := by
  unfold bin
  rw [ofS_eq, show ofL [x, y] = [ofS x, ofS y] from rfl]
  rcases ofS_cases x with h | h | h | h <;> rw [h] <;> rcases ofS_cases y with g | g | g | g <;> rw [g] <;> rfl

theorem containsL_mem {w : Int} : ∀ {ks : List Ex} {k : Ex}, k ∈ ks → containsS w k = true → containsL w ks = true
  | k :: ks, x, h, hx => by
    simp only [containsL, Bool.or_eq_true]
    rcases List.mem_cons.1 h with rfl | h
    · exact .inl hx
    · exact .inr (containsL_mem h hx)

/-- The blamed offset is that of a part. -/
theorem blame_part (e : Ex) : ∀ want, containsS (blameS e want) e = true := by
  refine Ex.ind (P := fun e => ∀ want, containsS (blameS e want) e = true) ?_ e
  intro op s l n t a ks ih want
  have self : ∀ a ks, containsS a (.mk op s l n t a ks) = true := fun a ks => by simp [containsS]
  have key : ∀ (ks' : List Ex) (ss v : List Int), (∀ k ∈ ks', k ∈ ks) → blameL a want ss v ks' = a ∨ ∃ k ∈ ks, ∃ u, blameL a want ss v ks' = blameS k u := by
    intro ks'
    induction ks' with
    | nil => intro ss v _; exact .inl (by rw [blameL])
    | cons k ks' ih =>
      intro ss v h
      rw [blameL]
      split
      · exact .inr ⟨k, h k (by simp), _, rfl⟩
      · exact ih _ _ (fun x hx => h x (by simp [hx]))
  rw [blameS]
  split
  · exact self _ _
  · split
    · exact self _ _
    · rename_i ss _
      rcases key ks ss (ofL ks) (fun _ h => h) with h | ⟨k, hk, u, h⟩
      · rw [h]; exact self _ _
      · rw [h]
        simp only [containsS, Bool.or_eq_true]
        exact .inr (containsL_mem hk (ih k hk u))

set_option maxHeartbeats 1000000 in
theorem blames_spec (f : Fu) (hok : f.body.ok) : Pure env.toCx 6 [.agg f.row] (boolC true) := by
  have hmo := monotone_spec f hok
  have hbl := Blame_spec f hok
  have hsm := small_spec f.body hok 300 (by omega) (by omega)
  have hco := fun w => contains_spec w f.body hok
  have hpart := blame_part f.body 1
  obtain ⟨nm, on, pp, r, ⟨op, s, ⟨k, lo, hi, ns, ps, rs⟩, n, t, at_, ks⟩⟩ := f
  unfold ContainsOk at hco
  simp only [blamesS] at *
  generalize monoS _ = x at *
  generalize blameS _ _ = y at *
  generalize roomS _ _ = z at *
  refine Pure.enter (E := env) Tryd.func6 rfl (by kernel_rfl) _ rfl _ Tryd.ntmps6 rfl ?_
  repeat' (first | (first | refine AOps.op (E := env) rfl rfl ?_ | refine AOps.nil ?_ | refine AWP.seq ?_ | refine AWP.region ?_ | (refine AOps.id ?_; first | refine AOps.guardU rfl rfl ?_ rfl | refine AOps.guardK rfl rfl ?_ rfl | refine AOps.guardN rfl rfl rfl ?_ rfl | (refine AOps.guardT rfl rfl ?_ ?_ rfl <;> intro hg) | (refine AOps.guardF rfl rfl ?_ ?_ rfl <;> intro hg) | refine AOps.load (E := env) 0 rfl rfl rfl rfl ?_ | refine AOps.load (E := env) 1 rfl rfl rfl rfl ?_ | refine AOps.load (E := env) 2 rfl rfl rfl rfl ?_ | refine AOps.load (E := env) 3 rfl rfl rfl rfl ?_ | refine AOps.load (E := env) 4 rfl rfl rfl rfl ?_ | refine AOps.load (E := env) 5 rfl rfl rfl rfl ?_ | refine AOps.len (E := env) rfl rfl rfl ?_ | (refine AOps.box (E := env) rfl rfl ?_; intro _) | (refine AOps.alloc (E := env) rfl rfl ?_; intro _)) | (refine AWP.id ?_; first | refine AWP.condT rfl ?_ | refine AWP.condF rfl ?_ | (refine AWP.condS rfl ?_ ?_ <;> intro hc) | (refine AWP.cond rfl ?_ ?_ <;> intro hc) | refine AWP.block ?_ | refine AWP.skip ?_ | refine AWP.exit ?_ | refine AWP.regionD mixed (by kernel_rfl) ?_) | (refine AQO.id ?_; first | refine AQO.op (E := env) rfl rfl ?_ | refine AQO.nil ?_ | refine AQO.guardU rfl rfl ?_ rfl | refine AQO.guardK rfl rfl ?_ rfl | refine AQO.guardN rfl rfl rfl ?_ rfl | (refine AQO.guardT rfl rfl ?_ ?_ rfl <;> intro hg) | (refine AQO.guardF rfl rfl ?_ ?_ rfl <;> intro hg) | refine AQO.load (E := env) 0 rfl rfl rfl rfl ?_ | refine AQO.load (E := env) 1 rfl rfl rfl rfl ?_ | refine AQO.load (E := env) 2 rfl rfl rfl rfl ?_ | refine AQO.load (E := env) 3 rfl rfl rfl rfl ?_ | refine AQO.load (E := env) 4 rfl rfl rfl rfl ?_ | refine AQO.load (E := env) 5 rfl rfl rfl rfl ?_ | refine AQO.len (E := env) rfl rfl rfl ?_)) | refine AOps.pure awake_spec rfl rfl ?_ | refine AOps.pure hsm rfl rfl ?_ | refine AOps.pure hmo rfl rfl ?_ | refine AOps.pure hbl rfl rfl ?_ | refine AOps.pure (hco _) rfl rfl ?_)
  all_goals (refine AWP.id ?_; refine AWP.ret ?_; refine BQ.ret1 (.tmp rfl) ?_; simp_all)

end Go.Proofs.YtkbjckcclfceoaaDoor
