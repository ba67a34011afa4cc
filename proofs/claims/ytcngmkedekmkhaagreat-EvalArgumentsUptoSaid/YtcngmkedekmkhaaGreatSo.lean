/-
  Own work. Whether a list of names is sorted.
-/
import Derived.Test.YtcngmkedekmkhaaGreatNm
namespace Go.Proofs.YtcngmkedekmkhaaGreat
open Go Go.Bw

def lessS (a b : ByteArray) : Bool := Op.bytesLess a.data.toList b.data.toList

def sortedS : List ByteArray → Bool
  | a :: b :: r => lessS a b && sortedS (b :: r)
  | _ => true

theorem sorted_drop : ∀ {l : List ByteArray} {i : Nat} {x y : ByteArray}, 1 ≤ i → l[i - 1]? = some y → l[i]? = some x → sortedS (l.drop (i - 1)) = (lessS y x && sortedS (l.drop i))
  | a :: b :: r, 1, x, y, _, h1, h2 => by
    simp at h1 h2
    subst h1; subst h2
    simp [sortedS]
  | a :: r, i + 2, x, y, _, h1, h2 => by
    have := sorted_drop (l := r) (i := i + 1) (x := x) (y := y) (by omega) (by simpa using h1) (by simpa using h2)
    simpa using this

theorem sorted_end {l : List ByteArray} {i : Nat} (h : l.length ≤ i + 1) : sortedS (l.drop i) = true := by
  have : (l.drop i).length ≤ 1 := by rw [List.length_drop]; omega
  match l.drop i, this with
  | [], _ => rfl
  | [_], _ => rfl

theorem sorted_spec (l : List ByteArray) (hlen : l.length ≤ 1099511627776) : Pure env.toCx 54 [namesC l] (.ret (boolC (sortedS l))) := by
  have hlr : (l.map fun s => [strC s]).length = l.length := by rw [List.length_map]
  have hget : ∀ {i : Nat} {s : ByteArray}, l[i]? = some s → (l.map fun s => [strC s])[i]? = some [strC s] := by intro i s h; rw [List.getElem?_map, h]; rfl
  refine Pure.walk (E := env) Tryz.func54 rfl (by kernel_rfl) (rs := _) rfl Tryz.ntmps54 rfl ?_
  refine dx_stuck mixed 400 rfl (by exact trivial) ?_
  refine DWP.loop [0, 3] 0 (fun q l' es => ∃ i : Nat, 1 ≤ i ∧ i ≤ l.length + 1 ∧ q = l.length + 1 - i ∧ l' = [(0, .d (namesC l)), (3, .d (intC i))] ∧ es = [] ∧ sortedS l = sortedS (l.drop (i - 1))) l.length (by omega) (by exact Nat.le_refl _) rfl rfl ⟨1, by omega, by omega, by omega, rfl, rfl, by simp⟩ ?_
  rintro q l' es ⟨i, hi1, hi', rfl, rfl, rfl, hr⟩
  refine dx_cond mixed 400 rfl (by exact trivial) ?_ ?_ <;> intro hc2
  · have hlt : i < l.length := by have := of_decide_eq_true hc2; rw [hlr] at this; omega
    have hk : l[i]? = some l[i] := by simp [hlt]
    have hk1 : l[i - 1]? = some (l[i - 1]'(by omega)) := by simp [show i - 1 < l.length by omega]
    rw [sorted_drop hi1 hk1 hk] at hr
    generalize l[i] = x at *
    generalize l[i - 1]'(by omega) = y at *
    refine dx_stuck mixed 4 rfl (by exact trivial) ?_
    refine DWP.openR [0, 1, 2, 3, 4, 5, 6, 7, 8, 9] [] [] [] mixed rfl (by kernel_rfl) (by kernel_rfl) ?_
    refine dx_stuck mixed 400 rfl (by exact trivial) ?_
    refine DWP.lexVal rfl rfl rfl (DOpP.idx (i - 1) rfl rfl rfl rfl (wrap_pred hi1 (by omega)) (hget hk1)) ?_
    refine dx_stuck mixed 400 rfl (by exact trivial) ?_
    refine DWP.lexVal rfl rfl rfl (DOpP.idx i rfl rfl rfl rfl rfl (hget hk)) ?_
    refine dx_cond mixed 400 rfl (by exact trivial) ?_ ?_ <;> intro hc3
    · refine dx_fin mixed 400 rfl (by exact trivial) ?_
      exact RD.ret1 rfl rfl (by rw [hr]; simp only [Bool.not_eq_true'] at hc3; rw [lessS, hc3]; rfl)
    · refine dx_stuck mixed 400 rfl (by exact trivial) ?_
      refine DWP.lp ⟨l.length + 1 - (i + 1), by omega, _, _, by exact Nat.zero_le _, rfl, rfl, i + 1, by omega, by omega, rfl, ?_, rfl, ?_⟩
      · rw [← wrap_nat (by omega)]
      · simp only [Bool.not_eq_false'] at hc3; rw [hr, lessS, hc3]; simp
  · have hge : l.length ≤ i := by have := of_decide_eq_false hc2; rw [hlr] at this; omega
    refine dx_fin mixed 400 rfl (by exact trivial) ?_
    exact RD.ret1 rfl rfl (by rw [hr, sorted_end (by omega)])

theorem refSorted_spec (l : List ByteArray) (hlen : l.length ≤ 1099511627776) : Pure env.toCx 58 [namesC l] (.ret (boolC (sortedS l))) := by
  have hlr : (l.map fun s => [strC s]).length = l.length := by rw [List.length_map]
  have hget : ∀ {i : Nat} {s : ByteArray}, l[i]? = some s → (l.map fun s => [strC s])[i]? = some [strC s] := by intro i s h; rw [List.getElem?_map, h]; rfl
  refine Pure.walk (E := env) Tryz.func58 rfl (by kernel_rfl) (rs := _) rfl Tryz.ntmps58 rfl ?_
  refine dx_stuck mixed 400 rfl (by exact trivial) ?_
  refine DWP.loop [0, 3] 0 (fun q l' es => ∃ i : Nat, 1 ≤ i ∧ i ≤ l.length + 1 ∧ q = l.length + 1 - i ∧ l' = [(0, .d (namesC l)), (3, .d (intC i))] ∧ es = [] ∧ sortedS l = sortedS (l.drop (i - 1))) l.length (by omega) (by exact Nat.le_refl _) rfl rfl ⟨1, by omega, by omega, by omega, rfl, rfl, by simp⟩ ?_
  rintro q l' es ⟨i, hi1, hi', rfl, rfl, rfl, hr⟩
  refine dx_cond mixed 400 rfl (by exact trivial) ?_ ?_ <;> intro hc2
  · have hlt : i < l.length := by have := of_decide_eq_true hc2; rw [hlr] at this; omega
    have hk : l[i]? = some l[i] := by simp [hlt]
    have hk1 : l[i - 1]? = some (l[i - 1]'(by omega)) := by simp [show i - 1 < l.length by omega]
    rw [sorted_drop hi1 hk1 hk] at hr
    generalize l[i] = x at *
    generalize l[i - 1]'(by omega) = y at *
    refine dx_stuck mixed 4 rfl (by exact trivial) ?_
    refine DWP.openR [0, 1, 2, 3, 4, 5, 6, 7, 8, 9] [] [] [] mixed rfl (by kernel_rfl) (by kernel_rfl) ?_
    refine dx_stuck mixed 400 rfl (by exact trivial) ?_
    refine DWP.lexVal rfl rfl rfl (DOpP.idx (i - 1) rfl rfl rfl rfl (wrap_pred hi1 (by omega)) (hget hk1)) ?_
    refine dx_stuck mixed 400 rfl (by exact trivial) ?_
    refine DWP.lexVal rfl rfl rfl (DOpP.idx i rfl rfl rfl rfl rfl (hget hk)) ?_
    refine dx_cond mixed 400 rfl (by exact trivial) ?_ ?_ <;> intro hc3
    · refine dx_fin mixed 400 rfl (by exact trivial) ?_
      exact RD.ret1 rfl rfl (by rw [hr]; simp only [Bool.not_eq_true'] at hc3; rw [lessS, hc3]; rfl)
    · refine dx_stuck mixed 400 rfl (by exact trivial) ?_
      refine DWP.lp ⟨l.length + 1 - (i + 1), by omega, _, _, by exact Nat.zero_le _, rfl, rfl, i + 1, by omega, by omega, rfl, ?_, rfl, ?_⟩
      · rw [← wrap_nat (by omega)]
      · simp only [Bool.not_eq_false'] at hc3; rw [hr, lessS, hc3]; simp
  · have hge : l.length ≤ i := by have := of_decide_eq_false hc2; rw [hlr] at this; omega
    refine dx_fin mixed 400 rfl (by exact trivial) ?_
    exact RD.ret1 rfl rfl (by rw [hr, sorted_end (by omega)])

theorem invalid_spec (s : ByteArray) : Pure env.toCx 56 [strC s] (.ret (boolC (!validS s))) := by
  have h := valid_spec s
  generalize validS s = z at *
  refine Pure.walk (E := env) Tryz.func56 rfl (by kernel_rfl) (rs := _) rfl Tryz.ntmps56 rfl ?_
  refine dx_stuck mixed 400 rfl (by exact trivial) ?_
  refine DWP.pure h rfl rfl rfl ?_
  refine dx_fin mixed 400 rfl (by exact trivial) ?_
  exact RD.ret1 rfl rfl rfl

def badN : List ByteArray → Nat → Int
  | [], _ => -1
  | k :: ks, i => if !validS k then (i : Int) else badN ks (i + 1)

theorem badN_drop : ∀ {ks : List ByteArray} {i j : Nat} {k : ByteArray}, ks[i]? = some k → badN (ks.drop i) j = if !validS k then (j : Int) else badN (ks.drop (i + 1)) (j + 1)
  | k' :: ks, 0, j, k, h => by simp only [List.getElem?_cons_zero, Option.some.injEq] at h; subst h; simp [badN]
  | k' :: ks, i + 1, j, k, h => by simpa using badN_drop (ks := ks) (by simpa using h)

theorem badN_all : ∀ (ks : List ByteArray) (j : Nat), decide (badN ks j ≥ 0) = !ks.all validS
  | [], j => by simp [badN]
  | k :: ks, j => by
    rw [badN, List.all_cons]
    cases validS k with
    | false => simp
    | true => simpa using badN_all ks (j + 1)

abbrev invalidF : AV := .v (.func (.func 56) #[] #[])

theorem indexN_spec (l : List ByteArray) (hlen : l.length ≤ 1099511627776) : Pure env.toCx 96 [namesC l, invalidF] (.ret (intC (badN l 0))) := by
  have hlr : (l.map fun s => [strC s]).length = l.length := by rw [List.length_map]
  have hget : ∀ {i : Nat} {s : ByteArray}, l[i]? = some s → (l.map fun s => [strC s])[i]? = some [strC s] := by intro i s h; rw [List.getElem?_map, h]; rfl
  refine Pure.walk (E := env) Tryz.func96 rfl (by kernel_rfl) (rs := _) rfl Tryz.ntmps96 rfl ?_
  refine dx_stuck mixed 400 rfl (by exact trivial) ?_
  refine DWP.loop [0, 1, 7, 8] 0 (fun q l' es => ∃ i : Nat, i ≤ l.length ∧ q = l.length - i ∧ l' = [(0, .d (namesC l)), (1, .d invalidF), (7, .d (intC (l.map fun s => [strC s]).length)), (8, .d (intC i))] ∧ es = [] ∧ badN l 0 = badN (l.drop i) i) l.length (by omega) (by exact Nat.le_refl _) rfl rfl ⟨0, by omega, by omega, rfl, rfl, by simp⟩ ?_
  rintro q l' es ⟨i, hi', rfl, rfl, rfl, hr⟩
  refine dx_cond mixed 400 rfl (by exact trivial) ?_ ?_ <;> intro hc
  · have hlt : i < l.length := by have := of_decide_eq_true hc; rw [hlr] at this; omega
    have hk : l[i]? = some l[i] := by simp [hlt]
    have hih := invalid_spec l[i]
    rw [badN_drop hk] at hr
    generalize l[i] = kk at *
    refine dx_stuck mixed 400 rfl (by exact trivial) ?_
    refine DWP.idx i rfl rfl rfl rfl (hget hk) rfl ?_
    refine dx_stuck mixed 400 rfl (by exact trivial) ?_
    refine DWP.pure hih rfl rfl rfl ?_
    refine dx_cond mixed 400 rfl (by exact trivial) ?_ ?_ <;> intro hc3
    · refine dx_fin mixed 400 rfl (by exact trivial) ?_
      exact RD.ret1 rfl rfl (by rw [hr, hc3]; rfl)
    · refine dx_stuck mixed 400 rfl (by exact trivial) ?_
      refine DWP.lp ⟨l.length - (i + 1), by omega, _, _, by exact Nat.zero_le _, rfl, rfl, i + 1, by omega, rfl, ?_, rfl, ?_⟩
      · rw [← wrap_nat (by omega)]
      · rw [hr, hc3]; rfl
  · have hge : l.drop i = [] := by
      have := of_decide_eq_false hc
      rw [hlr] at this
      exact List.drop_eq_nil_of_le (by omega)
    refine dx_fin mixed 400 rfl (by exact trivial) ?_
    exact RD.ret1 rfl rfl (by rw [hr, hge]; rfl)

theorem anyBad_spec (l : List ByteArray) (hlen : l.length ≤ 1099511627776) : Pure env.toCx 55 [namesC l, invalidF] (.ret (boolC (!l.all validS))) := by
  have h := indexN_spec l hlen
  have hr := badN_all l 0
  generalize badN l 0 = z at *
  refine Pure.walk (E := env) Tryz.func55 rfl (by kernel_rfl) (rs := _) rfl Tryz.ntmps55 rfl ?_
  refine dx_stuck mixed 400 rfl (by exact trivial) ?_
  refine DWP.pure h rfl rfl rfl ?_
  refine dx_fin mixed 400 rfl (by exact trivial) ?_
  exact RD.ret1 rfl rfl (by rw [← hr])
end Go.Proofs.YtcngmkedekmkhaaGreat
