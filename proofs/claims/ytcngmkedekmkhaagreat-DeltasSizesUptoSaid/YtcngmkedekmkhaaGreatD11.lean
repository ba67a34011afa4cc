/-
  Own work. The abstract machine, eleventh part: loops that count over a list, in walks with open values.
-/
import Derived.Test.YtcngmkedekmkhaaGreatD10
namespace Go.Bw
open Go

theorem drop_cons {α : Type} {xs : List α} {i : Nat} {x : α} (h : xs[i]? = some x) : xs.drop i = x :: xs.drop (i + 1) := by
  obtain ⟨hlt, rfl⟩ := List.getElem?_eq_some_iff.1 h
  exact List.drop_eq_getElem_cons hlt

theorem get_map {α β : Type} {f : α → β} {xs : List α} {i : Nat} {x : α} (h : xs[i]? = some x) : (xs.map f)[i]? = some (f x) := by rw [List.getElem?_map, h]; rfl

theorem lt_dec {i n : Nat} {m : Int} (h : decide ((i : Int) < m) = true) (hm : m = (n : Int)) : i < n := by have := of_decide_eq_true h; omega
theorem ge_dec {i n : Nat} {m : Int} (h : decide ((i : Int) < m) = false) (hm : m = (n : Int)) : n ≤ i := by have := of_decide_eq_false h; omega
theorem drop_end {α : Type} {xs : List α} {i : Nat} (h : xs.length ≤ i) : xs.drop i = [] := List.drop_eq_nil_of_le h

section
variable {E : Env} {Q : DQ} {N K : Nat} {σ : TS} {η : Hp} {k : List It} {S : Type}

/-- What the next round is handed. -/
def NextP (m : Nat) (ts : List Nat) (n : Nat) (L : Int → S → List (Nat × CV)) (H : Nat → S → List CEnt) (J : Nat → S → Prop) (i : Nat) (σ1 : TS) (η1 : Hp) : Prop :=
  ∃ n', n' < n - i ∧ ∃ l' es', m ≤ η1.n ∧ pickT m ts σ1 = some l' ∧ takeH m η1 = some es' ∧ ∃ (j : Nat) (s : S), j ≤ n ∧ n' = n - j ∧ l' = L (j : Int) s ∧ es' = H j s ∧ J j s

theorem DWP.each {c : Code} (ts : List Nat) (m : Nat) (n : Nat) (L : Int → S → List (Nat × CV)) (H : Nat → S → List CEnt) (J : Nat → S → Prop) (s0 : S) (hK : Nat.ble K m = true) (hm : Nat.ble m η.n = true) (hp : pickT m ts σ = some (L (Nat.cast 0) s0)) (he : takeH m η = some (H 0 s0)) (h0 : J 0 s0)
    (round : ∀ i s, i ≤ n → J i s → DWP E N K (.code c :: .lp (NextP m ts n L H J i) :: k) Q (ofT (L (i : Int) s)) (ofH (H i s))) : DWP E N K (.code (.loop c) :: k) Q σ η :=
  DWP.loop ts m (fun q l es => ∃ (i : Nat) (s : S), i ≤ n ∧ q = n - i ∧ l = L (i : Int) s ∧ es = H i s ∧ J i s) n (Nat.le_of_ble_eq_true hK) (Nat.le_of_ble_eq_true hm) hp he ⟨0, s0, Nat.zero_le _, rfl, rfl, rfl, h0⟩ (by
    rintro q l es ⟨i, s, hi, rfl, rfl, rfl, hj⟩
    exact round i s hi hj)

theorem DWP.next {m : Nat} {ts : List Nat} {n : Nat} {L : Int → S → List (Nat × CV)} {H : Nat → S → List CEnt} {J : Nat → S → Prop} {i : Nat} (s' : S) (hi : i < n) (hn : n < 4611686018427387904) (hm : Nat.ble m η.n = true) (hp : pickT m ts σ = some (L (IntKind.i64.wrap ((i : Int) + 1)) s')) (he : takeH m η = some (H (i + 1) s')) (hj : J (i + 1) s') :
    DWP E N K (.lp (NextP m ts n L H J i) :: k) Q σ η :=
  DWP.lp ⟨n - (i + 1), by omega, _, _, Nat.le_of_ble_eq_true hm, hp, he, i + 1, s', by omega, rfl, by
    have : IntKind.i64.wrap ((i : Int) + 1) = ((i + 1 : Nat) : Int) := by rw [IntKind.wrap_i64]; omega
    rw [this], rfl, hj⟩
end
end Go.Bw
