/-
  Own work. The abstract machine, tenth part: bytes of text in walks with open values.
-/
import Derived.Test.YtcngmkedekmkhaaGreatD9
namespace Go.Bw
open Go

section
variable {E : Env} {Q : DQ} {N K : Nat} {σ : TS} {η : Hp} {o : Oper} {all rest : List Oper} {k : List It}

theorem DOpP.strIdx {t : TypeId} {p ix : Operand} {b : ByteArray} {c : UInt8} {sz by' : Nat} {z : List Value} {kd : IntKind} {m : Int} (j : Nat) (ho : o.op = .index t p ix) (hp : cev σ p = some (.d (.v (.string b))))
    (ht : tget E.T t = some ⟨.str, sz, by', z⟩) (hix : cev σ ix = some (.d (.v (.int kd m)))) (hm : m = (j : Int)) (hr : b.data.toList[j]? = some c) : DOpP E N o σ η (.d (.v (.int .u8 c.toNat))) :=
  DOpP.kop (by
    subst hm
    rw [ho]
    simp only [Bw.kop, cev_dat hp, cev_dat hix, ht]
    have : natV (some (.v (.int kd (j : Int)))) = some j := rfl
    rw [this]
    have h2 : nth b.data.toList j = some c := by rw [nth_eq]; exact hr
    show (match nth b.data.toList j with | some c => some (AV.v (.int .u8 (c.toNat : Int))) | none => none) = _
    rw [h2])

theorem DWP.strIdx {t : TypeId} {p ix : Operand} {b : ByteArray} {c : UInt8} {sz by' : Nat} {z : List Value} {kd : IntKind} {m : Int} {dst : Option Nat} {ty : TypeId} {pos : String} {after : Array Edge} (j : Nat) (hp : cev σ p = some (.d (.v (.string b))))
    (ht : tget E.T t = some ⟨.str, sz, by', z⟩) (hix : cev σ ix = some (.d (.v (.int kd m)))) (hm : m = (j : Int)) (hr : b.data.toList[j]? = some c) (hd : dstB N dst = true) (hk : DWP E N K (.ops all rest :: k) Q (putT σ dst (.d (.v (.int .u8 c.toNat)))) η) :
    DWP E N K (.ops all (⟨dst, .index t p ix, ty, pos, after, none⟩ :: rest) :: k) Q σ η := DWP.val (o := ⟨dst, .index t p ix, ty, pos, after, none⟩) rfl hd (DOpP.strIdx j rfl hp ht hix hm hr) hk

theorem wrap_pred {i : Nat} (h1 : 1 ≤ i) (h : i < 4611686018427387904) : IntKind.i64.wrap ((i : Int) - 1) = ((i - 1 : Nat) : Int) := by
  rw [IntKind.wrap_i64]; omega
end
end Go.Bw
