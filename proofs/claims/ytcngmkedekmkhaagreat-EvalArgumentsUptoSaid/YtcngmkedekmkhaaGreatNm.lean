/-
  Own work. Names and sets of names: what the program's and the specification's tests compute.
-/
import Derived.Test.YtcngmkedekmkhaaGreatLa
import Derived.Test.YtcngmkedekmkhaaGreatD10
namespace Go.Proofs.YtcngmkedekmkhaaGreat
open Go Go.Bw

def wordS (c : Int) : Bool := decide (97 ≤ c) && decide (c ≤ 122) || decide (48 ≤ c) && decide (c ≤ 57) || c == 45

theorem word_spec (c : Int) : Pure env.toCx 95 [.v (.int .u8 c)] (.ret (boolC (wordS c))) := by
  refine Pure.walk (E := env) Tryz.func95 rfl (by kernel_rfl) (rs := _) rfl Tryz.ntmps95 rfl ?_
  repeat' (first | refine dx_condT mixed 400 rfl (by exact trivial) ?_ | refine dx_condF mixed 400 rfl (by exact trivial) ?_ | (refine dx_cond mixed 400 rfl (by exact trivial) ?_ ?_ <;> intro _))
  all_goals (refine dx_fin mixed 400 rfl (by exact trivial) ?_; exact RD.ret1 rfl rfl (by simp_all [wordS] <;> omega))

theorem letter_spec (c : Int) : Pure env.toCx 97 [.v (.int .u8 c)] (.ret (boolC (wordS c))) := by
  refine Pure.walk (E := env) Tryz.func97 rfl (by kernel_rfl) (rs := _) rfl Tryz.ntmps97 rfl ?_
  repeat' (first | refine dx_condT mixed 400 rfl (by exact trivial) ?_ | refine dx_condF mixed 400 rfl (by exact trivial) ?_ | (refine dx_cond mixed 400 rfl (by exact trivial) ?_ ?_ <;> intro _))
  all_goals (refine dx_fin mixed 400 rfl (by exact trivial) ?_; exact RD.ret1 rfl rfl (by simp_all [wordS] <;> omega))

def wordB (c : UInt8) : Bool := wordS (c.toNat : Int)
def validL : List UInt8 → Bool
  | [] => false
  | c :: r => !decide (((c :: r).length : Int) > 16) && (!decide ((c.toNat : Int) < 97) && !decide ((c.toNat : Int) > 122)) && (c :: r).all wordB
def validS (s : ByteArray) : Bool := validL s.data.toList

theorem all_drop {α : Type} {p : α → Bool} : ∀ {l : List α} {i : Nat} {x : α}, l[i]? = some x → (l.drop i).all p = (p x && (l.drop (i + 1)).all p)
  | y :: l, 0, x, h => by simp only [List.getElem?_cons_zero, Option.some.injEq] at h; subst h; simp
  | y :: l, i + 1, x, h => by simpa using all_drop (l := l) (i := i) (by simpa using h)

theorem valid_spec (s : ByteArray) : Pure env.toCx 53 [strC s] (.ret (boolC (validS s))) := by
  obtain ⟨⟨l⟩⟩ := s
  show Pure env.toCx 53 [strC ⟨⟨l⟩⟩] (.ret (boolC (validL l)))
  cases l with
  | nil =>
    refine Pure.walk (E := env) Tryz.func53 rfl (by kernel_rfl) (rs := _) rfl Tryz.ntmps53 rfl ?_
    (repeat (first | refine dx_condT mixed 400 rfl (by exact trivial) ?_ | refine dx_condF mixed 400 rfl (by exact trivial) ?_))
    refine dx_fin mixed 400 rfl (by exact trivial) ?_
    exact RD.ret1 rfl rfl rfl
  | cons c r =>
    refine Pure.walk (E := env) Tryz.func53 rfl (by kernel_rfl) (rs := _) rfl Tryz.ntmps53 rfl ?_
    refine dx_cond mixed 400 rfl (by exact trivial) ?_ ?_ <;> intro hc
    · exfalso
      have hc := of_decide_eq_true (p := ((c :: r).length : Int) = 0) hc
      simp only [List.length_cons] at hc
      omega
    (repeat (first | refine dx_condT mixed 400 rfl (by exact trivial) ?_ | refine dx_condF mixed 400 rfl (by exact trivial) ?_))
    refine dx_cond mixed 400 rfl (by exact trivial) ?_ ?_ <;> intro h16
    · (repeat (first | refine dx_condT mixed 400 rfl (by exact trivial) ?_ | refine dx_condF mixed 400 rfl (by exact trivial) ?_))
      refine dx_fin mixed 400 rfl (by exact trivial) ?_
      have h16 : decide (((c :: r).length : Int) > 16) = true := h16
      exact RD.ret1 rfl rfl (by simp only [validL, h16]; rfl)
    have h16 : decide (((c :: r).length : Int) > 16) = false := h16
    (repeat (first | refine dx_condT mixed 400 rfl (by exact trivial) ?_ | refine dx_condF mixed 400 rfl (by exact trivial) ?_))
    refine dx_stuck mixed 400 rfl (by exact trivial) ?_
    refine DWP.strIdx 0 rfl rfl rfl rfl rfl rfl ?_
    (repeat (first | refine dx_condT mixed 400 rfl (by exact trivial) ?_ | refine dx_condF mixed 400 rfl (by exact trivial) ?_))
    refine dx_cond mixed 400 rfl (by exact trivial) ?_ ?_ <;> intro h97
    · (repeat (first | refine dx_condT mixed 400 rfl (by exact trivial) ?_ | refine dx_condF mixed 400 rfl (by exact trivial) ?_))
      refine dx_fin mixed 400 rfl (by exact trivial) ?_
      exact RD.ret1 rfl rfl (by simp only [validL, h16, h97]; rfl)
    (repeat (first | refine dx_condT mixed 400 rfl (by exact trivial) ?_ | refine dx_condF mixed 400 rfl (by exact trivial) ?_))
    refine dx_stuck mixed 400 rfl (by exact trivial) ?_
    refine DWP.strIdx 0 rfl rfl rfl rfl rfl rfl ?_
    (repeat (first | refine dx_condT mixed 400 rfl (by exact trivial) ?_ | refine dx_condF mixed 400 rfl (by exact trivial) ?_))
    refine dx_cond mixed 400 rfl (by exact trivial) ?_ ?_ <;> intro h122
    · (repeat (first | refine dx_condT mixed 400 rfl (by exact trivial) ?_ | refine dx_condF mixed 400 rfl (by exact trivial) ?_))
      refine dx_fin mixed 400 rfl (by exact trivial) ?_
      exact RD.ret1 rfl rfl (by simp only [validL, h16, h97, h122]; rfl)
    have hres : validL (c :: r) = (c :: r).all wordB := by simp only [validL, h16, h97, h122]; rfl
    rw [hres]
    clear hres h97 h122 hc
    have hlen : (c :: r).length ≤ 16 := by have := of_decide_eq_false h16; omega
    clear h16
    generalize c :: r = l at *
    refine dx_stuck mixed 400 rfl (by exact trivial) ?_
    refine DWP.loop [0, 23, 24] 0 (fun q l' es => ∃ i : Nat, i ≤ l.length ∧ q = l.length - i ∧ l' = [(0, .d (strC ⟨⟨l⟩⟩)), (23, .d (intC (l.length : Int))), (24, .d (intC i))] ∧ es = [] ∧ l.all wordB = (l.drop i).all wordB) l.length (by omega) (by exact Nat.le_refl _) rfl rfl ⟨0, by omega, by omega, rfl, rfl, by simp⟩ ?_
    rintro q l' es ⟨i, hi', rfl, rfl, rfl, hr⟩
    refine dx_cond mixed 400 rfl (by exact trivial) ?_ ?_ <;> intro hc2
    · have hlt : i < l.length := by have := of_decide_eq_true hc2; omega
      have hk : l[i]? = some l[i] := by simp [hlt]
      rw [all_drop hk] at hr
      refine dx_stuck mixed 400 rfl (by exact trivial) ?_
      refine DWP.strIdx i rfl rfl rfl rfl hk rfl ?_
      generalize l[i] = x at *
      refine dx_stuck mixed 400 rfl (by exact trivial) ?_
      refine DWP.pure (word_spec _) rfl rfl rfl ?_
      have hw : wordS (x.toNat : Int) = wordB x := rfl
      rw [hw]
      generalize wordB x = z at *
      refine dx_cond mixed 400 rfl (by exact trivial) ?_ ?_ <;> intro hc3
      · refine dx_fin mixed 400 rfl (by exact trivial) ?_
        exact RD.ret1 rfl rfl (by rw [hr]; cases z <;> first | rfl | cases hc3)
      · refine dx_stuck mixed 400 rfl (by exact trivial) ?_
        refine DWP.lp ⟨l.length - (i + 1), by omega, _, _, by exact Nat.zero_le _, rfl, rfl, i + 1, by omega, rfl, ?_, rfl, ?_⟩
        · rw [← wrap_nat (by omega)]
        · rw [hr]; cases z <;> first | rfl | cases hc3
    · have hge : l.drop i = [] := List.drop_eq_nil_of_le (by have := of_decide_eq_false hc2; omega)
      refine dx_fin mixed 400 rfl (by exact trivial) ?_
      exact RD.ret1 rfl rfl (by rw [hr, hge]; rfl)

theorem refValid_spec (s : ByteArray) : Pure env.toCx 57 [strC s] (.ret (boolC (validS s))) := by
  obtain ⟨⟨l⟩⟩ := s
  show Pure env.toCx 57 [strC ⟨⟨l⟩⟩] (.ret (boolC (validL l)))
  cases l with
  | nil =>
    refine Pure.walk (E := env) Tryz.func57 rfl (by kernel_rfl) (rs := _) rfl Tryz.ntmps57 rfl ?_
    (repeat (first | refine dx_condT mixed 400 rfl (by exact trivial) ?_ | refine dx_condF mixed 400 rfl (by exact trivial) ?_))
    refine dx_fin mixed 400 rfl (by exact trivial) ?_
    exact RD.ret1 rfl rfl rfl
  | cons c r =>
    refine Pure.walk (E := env) Tryz.func57 rfl (by kernel_rfl) (rs := _) rfl Tryz.ntmps57 rfl ?_
    refine dx_cond mixed 400 rfl (by exact trivial) ?_ ?_ <;> intro hc
    · exfalso
      have hc := of_decide_eq_true (p := ((c :: r).length : Int) < 1) hc
      simp only [List.length_cons] at hc
      omega
    (repeat (first | refine dx_condT mixed 400 rfl (by exact trivial) ?_ | refine dx_condF mixed 400 rfl (by exact trivial) ?_))
    refine dx_cond mixed 400 rfl (by exact trivial) ?_ ?_ <;> intro h16
    · (repeat (first | refine dx_condT mixed 400 rfl (by exact trivial) ?_ | refine dx_condF mixed 400 rfl (by exact trivial) ?_))
      refine dx_fin mixed 400 rfl (by exact trivial) ?_
      have h16 : decide (((c :: r).length : Int) > 16) = true := h16
      exact RD.ret1 rfl rfl (by simp only [validL, h16]; rfl)
    have h16 : decide (((c :: r).length : Int) > 16) = false := h16
    (repeat (first | refine dx_condT mixed 400 rfl (by exact trivial) ?_ | refine dx_condF mixed 400 rfl (by exact trivial) ?_))
    refine dx_stuck mixed 400 rfl (by exact trivial) ?_
    refine DWP.strIdx 0 rfl rfl rfl rfl rfl rfl ?_
    (repeat (first | refine dx_condT mixed 400 rfl (by exact trivial) ?_ | refine dx_condF mixed 400 rfl (by exact trivial) ?_))
    refine dx_cond mixed 400 rfl (by exact trivial) ?_ ?_ <;> intro h97
    · (repeat (first | refine dx_condT mixed 400 rfl (by exact trivial) ?_ | refine dx_condF mixed 400 rfl (by exact trivial) ?_))
      refine dx_fin mixed 400 rfl (by exact trivial) ?_
      exact RD.ret1 rfl rfl (by simp only [validL, h16, h97]; rfl)
    (repeat (first | refine dx_condT mixed 400 rfl (by exact trivial) ?_ | refine dx_condF mixed 400 rfl (by exact trivial) ?_))
    refine dx_stuck mixed 400 rfl (by exact trivial) ?_
    refine DWP.strIdx 0 rfl rfl rfl rfl rfl rfl ?_
    (repeat (first | refine dx_condT mixed 400 rfl (by exact trivial) ?_ | refine dx_condF mixed 400 rfl (by exact trivial) ?_))
    refine dx_cond mixed 400 rfl (by exact trivial) ?_ ?_ <;> intro h122
    · (repeat (first | refine dx_condT mixed 400 rfl (by exact trivial) ?_ | refine dx_condF mixed 400 rfl (by exact trivial) ?_))
      refine dx_fin mixed 400 rfl (by exact trivial) ?_
      exact RD.ret1 rfl rfl (by simp only [validL, h16, h97, h122]; rfl)
    have hres : validL (c :: r) = (c :: r).all wordB := by simp only [validL, h16, h97, h122]; rfl
    rw [hres]
    clear hres h97 h122 hc
    have hlen : (c :: r).length ≤ 16 := by have := of_decide_eq_false h16; omega
    clear h16
    generalize c :: r = l at *
    refine dx_stuck mixed 400 rfl (by exact trivial) ?_
    refine DWP.loop [0, 3] 0 (fun q l' es => ∃ i : Nat, i ≤ l.length ∧ q = l.length - i ∧ l' = [(0, .d (strC ⟨⟨l⟩⟩)), (3, .d (intC i))] ∧ es = [] ∧ l.all wordB = (l.drop i).all wordB) l.length (by omega) (by exact Nat.le_refl _) rfl rfl ⟨0, by omega, by omega, rfl, rfl, by simp⟩ ?_
    rintro q l' es ⟨i, hi', rfl, rfl, rfl, hr⟩
    refine dx_cond mixed 400 rfl (by exact trivial) ?_ ?_ <;> intro hc2
    · have hlt : i < l.length := by have := of_decide_eq_true (p := (i : Int) < (l.length : Int)) hc2; omega
      have hk : l[i]? = some l[i] := by simp [hlt]
      rw [all_drop hk] at hr
      refine dx_stuck mixed 400 rfl (by exact trivial) ?_
      refine DWP.strIdx i rfl rfl rfl rfl hk rfl ?_
      generalize l[i] = x at *
      refine dx_stuck mixed 400 rfl (by exact trivial) ?_
      refine DWP.pure (letter_spec _) rfl rfl rfl ?_
      have hw : wordS (x.toNat : Int) = wordB x := rfl
      rw [hw]
      generalize wordB x = z at *
      refine dx_cond mixed 400 rfl (by exact trivial) ?_ ?_ <;> intro hc3
      · refine dx_fin mixed 400 rfl (by exact trivial) ?_
        exact RD.ret1 rfl rfl (by rw [hr]; cases z <;> first | rfl | cases hc3)
      · refine dx_stuck mixed 400 rfl (by exact trivial) ?_
        refine DWP.lp ⟨l.length - (i + 1), by omega, _, _, by exact Nat.zero_le _, rfl, rfl, i + 1, by omega, rfl, ?_, rfl, ?_⟩
        · rw [← wrap_nat (by omega)]
        · rw [hr]; cases z <;> first | rfl | cases hc3
    · have hge : l.drop i = [] := List.drop_eq_nil_of_le (by have := of_decide_eq_false (p := (i : Int) < (l.length : Int)) hc2; omega)
      refine dx_fin mixed 400 rfl (by exact trivial) ?_
      exact RD.ret1 rfl rfl (by rw [hr, hge]; rfl)
end Go.Proofs.YtcngmkedekmkhaaGreat
