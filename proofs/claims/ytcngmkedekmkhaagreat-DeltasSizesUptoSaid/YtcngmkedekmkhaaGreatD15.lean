/-
  Own work. The abstract machine, fifteenth part: parts of slices and of text, structs compared, in walks with open values.
-/
import Derived.Test.YtcngmkedekmkhaaGreatD14
namespace Go.Bw
open Go

section
variable {E : Env} {Q : DQ} {N K : Nat} {σ : TS} {η : Hp} {o : Oper} {all : List Oper} {k : List It} {x : CV}

theorem DOpS.toP (h : DOpS E N o σ x) : DOpP E N o σ η x := fun ρ s ηB hs _ => h ρ s ηB hs
theorem DOpS.kop {y : AV} (h : kop E.P E.T (dat σ) o.op = some y) : DOpS E N o σ (.d y) := fun ρ s ηB hs => ⟨y, rfl, (OpP.kop h).mono fun _ _ _ hy => dat_ss hs hy⟩

/-- An end of a part. -/
def bndC (σ : TS) (dflt : Nat) : Option Operand → Option Nat
  | none => some dflt
  | some p => match cev σ p with
    | some (.d y) => natV (some y)
    | _ => none

theorem bndC_ok {d n : Nat} {p : Option Operand} (h : bndC σ d p = some n) : bndV (dat σ) d p = some n := by
  cases p with
  | none => exact h
  | some p =>
    simp only [bndC] at h
    split at h
    · rename_i y hy
      show natV (ev (dat σ) p) = some n
      rw [cev_dat hy]; exact h
    · cases h

theorem DOpS.part {t : TypeId} {p : Operand} {lo hi : Option Operand} {e kk sz by' : Nat} {z : List Value} {rows : List (List AV)} (l h : Nat) (ho : o.op = .slice t p lo hi none) (hp : cev σ p = some (.d (.sl kk rows))) (ht : tget E.T t = some ⟨.slice e kk, sz, by', z⟩)
    (hl : bndC σ 0 lo = some l) (hh : bndC σ rows.length hi = some h) (h1 : l ≤ h) (h2 : h ≤ rows.length) : DOpS E N o σ (.d (.sl kk ((rows.take h).drop l))) :=
  DOpS.kop (by
    rw [ho]
    simp only [Bw.kop, cev_dat hp, ht, bndC_ok hl, bndC_ok hh]
    have : (Nat.beq kk kk && Nat.ble l h && Nat.ble h rows.length) = true := by simp [h1, h2]
    rw [this])

/-- From an end on. -/
theorem DOpS.partF {t : TypeId} {p : Operand} {lo : Option Operand} {e kk sz by' : Nat} {z : List Value} {rows : List (List AV)} (l : Nat) (ho : o.op = .slice t p lo none none) (hp : cev σ p = some (.d (.sl kk rows))) (ht : tget E.T t = some ⟨.slice e kk, sz, by', z⟩)
    (hl : bndC σ 0 lo = some l) (h1 : l ≤ rows.length) : DOpS E N o σ (.d (.sl kk (rows.drop l))) := by
  have := DOpS.part (E := E) (N := N) l rows.length ho hp ht hl rfl h1 (Nat.le_refl _)
  rwa [List.take_length] at this

/-- Up to an end. -/
theorem DOpS.partT {t : TypeId} {p : Operand} {hi : Option Operand} {e kk sz by' : Nat} {z : List Value} {rows : List (List AV)} (h : Nat) (ho : o.op = .slice t p none hi none) (hp : cev σ p = some (.d (.sl kk rows))) (ht : tget E.T t = some ⟨.slice e kk, sz, by', z⟩)
    (hh : bndC σ rows.length hi = some h) (h2 : h ≤ rows.length) : DOpS E N o σ (.d (.sl kk (rows.take h))) := by
  have := DOpS.part (E := E) (N := N) 0 h ho hp ht rfl hh (Nat.zero_le _) h2
  rwa [List.drop_zero] at this

/-- Text behind text. -/
theorem DOpS.cat {t : TypeId} {p q : Operand} {yt : TypeId} {a b : ByteArray} (ho : o.op = .binOp .add t p q yt) (hp : cev σ p = some (.d (.v (.string a)))) (hq : cev σ q = some (.d (.v (.string b)))) (hb : a.data.toList.length + b.data.toList.length ≤ 9223372036854775807) : DOpS E N o σ (.d (.v (.string ⟨(a.data.toList ++ b.data.toList).toArray⟩))) :=
  DOpS.kop (by
    rw [ho]
    simp only [Bw.kop, cev_dat hp, cev_dat hq]
    have : Nat.ble (a.data.toList.length + b.data.toList.length) 9223372036854775807 = true := Nat.ble_eq_true_of_le hb
    rw [this])

theorem DOpS.strIdx {t : TypeId} {p ix : Operand} {b : ByteArray} {c : UInt8} {sz by' : Nat} {z : List Value} {kd : IntKind} {m : Int} (j : Nat) (ho : o.op = .index t p ix) (hp : cev σ p = some (.d (.v (.string b))))
    (ht : tget E.T t = some ⟨.str, sz, by', z⟩) (hix : cev σ ix = some (.d (.v (.int kd m)))) (hm : m = (j : Int)) (hr : b.data.toList[j]? = some c) : DOpS E N o σ (.d (.v (.int .u8 c.toNat))) :=
  DOpS.kop (by
    subst hm
    rw [ho]
    simp only [Bw.kop, cev_dat hp, cev_dat hix, ht]
    have : natV (some (.v (.int kd (j : Int)))) = some j := rfl
    rw [this]
    have h2 : nth b.data.toList j = some c := by rw [nth_eq]; exact hr
    show (match nth b.data.toList j with | some c => some (AV.v (.int .u8 (c.toNat : Int))) | none => none) = _
    rw [h2])

/-- Structs of plain fields compared. -/
theorem DOpS.eqS {t : TypeId} {p q : Operand} {yt : TypeId} {xs ys : List AV} {fs : Array Field} {c : Bool} (ho : o.op = .binOp .eql t p q yt) (hp : cev σ p = some (.d (.agg xs))) (hq : cev σ q = some (.d (.agg ys))) (ht : eqTB E.P t xs.length = true) (hu : E.P.underlying t = some (.struct fs)) (hc : eqVs E.P fs.toList xs ys = some c) : DOpS E N o σ (.d (.v (.bool c))) :=
  DOpS.kop (by rw [ho]; simp only [Bw.kop, cev_dat hp, cev_dat hq, ht, hu, hc])
theorem DOpS.neS {t : TypeId} {p q : Operand} {yt : TypeId} {xs ys : List AV} {fs : Array Field} {c : Bool} (ho : o.op = .binOp .neq t p q yt) (hp : cev σ p = some (.d (.agg xs))) (hq : cev σ q = some (.d (.agg ys))) (ht : eqTB E.P t xs.length = true) (hu : E.P.underlying t = some (.struct fs)) (hc : eqVs E.P fs.toList xs ys = some c) : DOpS E N o σ (.d (.v (.bool (!c)))) :=
  DOpS.kop (by rw [ho]; simp only [Bw.kop, cev_dat hp, cev_dat hq, ht, hu, hc])
theorem DOpS.boolNe {t : TypeId} {p q : Operand} {yt : TypeId} {a b : Bool} (ho : o.op = .binOp .neq t p q yt) (hu : E.P.underlying t = some .bool) (hp : cev σ p = some (.d (.v (.bool a)))) (hq : cev σ q = some (.d (.v (.bool b)))) : DOpS E N o σ (.d (.v (.bool (!(a == b))))) :=
  DOpS.nop (by rw [ho]; simp only [Bw.nop, hu, cev_dat hp, cev_dat hq, isNilS, boolV])
theorem DOpS.max2 {p q : Operand} {tys : Array TypeId} {kd kd' : IntKind} {a b : Int} (ho : o.op = .call { callee := .builtin .max, args := #[p, q], argTypes := tys }) (hp : cev σ p = some (.d (.v (.int kd a)))) (hq : cev σ q = some (.d (.v (.int kd' b)))) : DOpS E N o σ (.d (.v (.int kd (if b > a then b else a)))) :=
  DOpS.nop (by rw [ho]; simp only [Bw.nop, cev_dat hp, cev_dat hq, intV])
theorem DOpS.min2 {p q : Operand} {tys : Array TypeId} {kd kd' : IntKind} {a b : Int} (ho : o.op = .call { callee := .builtin .min, args := #[p, q], argTypes := tys }) (hp : cev σ p = some (.d (.v (.int kd a)))) (hq : cev σ q = some (.d (.v (.int kd' b)))) : DOpS E N o σ (.d (.v (.int kd (if b < a then b else a)))) :=
  DOpS.nop (by rw [ho]; simp only [Bw.nop, cev_dat hp, cev_dat hq, intV])
end
end Go.Bw
