/-
  Own work, printed by mkfc.py. How closed runs are made: which functions may write what they are handed, which one catches.
-/
import Derived.Test.YtcngmkedekmkhaaGreatCt
namespace Go.Proofs.YtcngmkedekmkhaaGreat
open Go Go.Bw
def impT : Tr Bool := (.nd none (.nd none (.nd none (.nd none (.nd none (.nd none .lf (.nd none (.nd none (.nd (some true) .lf .lf) .lf) (.nd (some true) .lf .lf))) (.nd none .lf (.nd none .lf (.nd none (.nd (some true) .lf .lf) .lf)))) (.nd none (.nd none .lf (.nd none .lf (.nd none (.nd (some true) .lf .lf) .lf))) (.nd none (.nd none (.nd (some true) .lf .lf) .lf) .lf))) (.nd none (.nd none (.nd none (.nd none .lf (.nd (some true) (.nd (some true) .lf .lf) .lf)) .lf) (.nd none (.nd none (.nd none (.nd (some true) .lf .lf) .lf) (.nd none (.nd (some true) .lf .lf) .lf)) .lf)) (.nd none (.nd none (.nd none (.nd none (.nd (some true) .lf .lf) (.nd (some true) .lf .lf)) (.nd none (.nd (some true) .lf .lf) .lf)) (.nd none (.nd none (.nd (some true) .lf .lf) .lf) .lf)) (.nd none (.nd none .lf (.nd (some true) .lf .lf)) (.nd none (.nd none (.nd (some true) .lf .lf) .lf) .lf))))) (.nd none (.nd none (.nd none (.nd none (.nd none .lf (.nd none (.nd (some true) .lf .lf) .lf)) .lf) (.nd none (.nd none (.nd none (.nd (some true) .lf .lf) .lf) (.nd none (.nd (some true) .lf .lf) .lf)) .lf)) (.nd none (.nd none (.nd none (.nd none .lf (.nd (some true) .lf .lf)) (.nd (some true) .lf .lf)) .lf) (.nd none (.nd none .lf (.nd (some true) .lf .lf)) (.nd none (.nd (some true) (.nd (some true) .lf .lf) .lf) (.nd none (.nd (some true) .lf .lf) .lf))))) (.nd none (.nd none (.nd none (.nd none (.nd none (.nd (some true) .lf .lf) .lf) .lf) (.nd none (.nd (some true) .lf .lf) (.nd none (.nd (some true) .lf .lf) .lf))) (.nd none (.nd none (.nd (some true) (.nd (some true) .lf .lf) .lf) .lf) (.nd none .lf (.nd none (.nd (some true) .lf .lf) .lf)))) (.nd none (.nd none (.nd none (.nd none (.nd (some true) .lf .lf) .lf) (.nd none (.nd (some true) .lf .lf) .lf)) (.nd none .lf (.nd none (.nd (some true) .lf .lf) .lf))) (.nd none (.nd none .lf (.nd (some true) .lf .lf)) (.nd none (.nd (some true) .lf .lf) .lf)))))) (.nd none (.nd none (.nd none (.nd none (.nd none .lf (.nd none (.nd none (.nd (some true) .lf .lf) .lf) (.nd (some true) .lf .lf))) (.nd none (.nd none (.nd none (.nd (some true) .lf .lf) .lf) .lf) (.nd none .lf (.nd none (.nd (some true) .lf .lf) .lf)))) (.nd none (.nd none (.nd none .lf (.nd (some true) .lf .lf)) .lf) (.nd none (.nd none (.nd (some true) .lf .lf) (.nd (some true) .lf .lf)) .lf))) (.nd none (.nd none .lf (.nd none (.nd none (.nd (some true) (.nd (some true) .lf .lf) .lf) .lf) (.nd none .lf (.nd none (.nd (some true) .lf .lf) .lf)))) (.nd none (.nd none (.nd none (.nd none (.nd (some true) .lf .lf) .lf) (.nd none (.nd (some true) .lf .lf) .lf)) (.nd none (.nd none (.nd (some true) .lf .lf) .lf) .lf)) (.nd none (.nd none .lf (.nd (some true) .lf .lf)) .lf)))) (.nd none (.nd none (.nd none (.nd none (.nd none .lf (.nd (some true) (.nd (some true) .lf .lf) .lf)) .lf) (.nd none (.nd none (.nd none (.nd (some true) .lf .lf) .lf) (.nd none (.nd (some true) .lf .lf) .lf)) .lf)) (.nd none (.nd none (.nd none (.nd none (.nd (some true) .lf .lf) (.nd (some true) .lf .lf)) (.nd none (.nd (some true) .lf .lf) .lf)) .lf) (.nd none (.nd none .lf (.nd (some true) .lf .lf)) (.nd none (.nd (some true) (.nd (some true) .lf .lf) .lf) (.nd none (.nd (some true) .lf .lf) .lf))))) (.nd none (.nd none (.nd none (.nd none (.nd none .lf (.nd (some true) .lf .lf)) .lf) .lf) (.nd none (.nd none (.nd (some true) (.nd (some true) .lf .lf) .lf) .lf) .lf)) (.nd none (.nd none (.nd none .lf (.nd none (.nd (some true) .lf .lf) .lf)) (.nd none .lf (.nd none (.nd (some true) .lf .lf) .lf))) (.nd none (.nd none (.nd none (.nd (some true) .lf .lf) .lf) (.nd (some true) .lf .lf)) .lf))))))
noncomputable def cfgF (fs : List (Nat × List AV × AV)) : Cfg := ⟨true, fun _ => true, fun g => match impT.get g with
  | some _ => true
  | none => false, fun _ => false, fns, fun g => match Nat.beq g 187 with
  | true => some (99, .agg [.v (.int .i64 0), .v (.int .i64 0)])
  | false => none, fs⟩
theorem fok0 : FOk env [] := fun f hf => by cases hf
theorem fok1 {g : Nat} {xs : List AV} {z : AV} {fs : List (Nat × List AV × AV)} (h : Pure env.toCx g xs (.ret z)) (hf : FOk env fs) : FOk env ((g, xs, z) :: fs) := fun f hm => by
  rcases List.mem_cons.1 hm with rfl | hm
  · exact h
  · exact hf f hm
theorem run_fact {fs : List (Nat × List AV × AV)} (hf : FOk env fs) {g : Nat} {xs : List AV} {z : AV} (h : runV Tryz.prog glob tab (cfgF fs) 1000000 g xs = some z) : Pure env.toCx g xs (.ret z) := by
  refine runV_ok (E := env) (c := cfgF fs) mixed hf (fun f ty z h => ?_) (fun g x h => fns_ok g x h) h
  simp only [cfgF] at h
  split at h
  · rename_i hb
    cases h
    rw [Nat.eq_of_beq_eq_true hb]
    exact caught_ok
  · cases h
end Go.Proofs.YtcngmkedekmkhaaGreat
