/-
  Own work. The abstract machine, eighth part: the driver's lemmas for walks with open values.
-/
import Derived.Test.YtcngmkedekmkhaaGreatD7
namespace Go.Bw
open Go

/-- With open values: nothing is entered by itself. -/
def cfgS : Cfg := ⟨false, fun _ => false, fun _ => false, fun _ => false, fun _ => none, fun _ => none, []⟩

section
variable {E : Env} {Q : DQ} {N K N' K' : Nat} {todo todo' t1 t2 : List It} {σ σ' s1 s2 : TS} {η η' : Hp} {ns : List (Nat × Nat)}

theorem dx_stuck (hm : E.P.follows .mixedOrders = true) (f : Nat) (h : dx E.P E.G E.T cfgS f N K todo σ η [] = .stuck N' K' todo' σ' η' ns) (hn : eqs ns) (k : DWP E N' K' todo' Q σ' η') : DWP E N K todo Q σ η :=
  (dx_ok hm cfgS (fun f hf => by cases hf) (fun f ty z h => by cases h) (fun g x h => by cases h) f Q N K todo σ η [] (by rw [h]; exact ⟨hn, k⟩)).2
theorem dx_cond (hm : E.P.follows .mixedOrders = true) (f : Nat) {b : Bool} (h : dx E.P E.G E.T cfgS f N K todo σ η [] = .cond b N' K' t1 s1 t2 s2 η' ns) (hn : eqs ns) (k1 : b = true → DWP E N' K' t1 Q s1 η') (k2 : b = false → DWP E N' K' t2 Q s2 η') : DWP E N K todo Q σ η :=
  (dx_ok hm cfgS (fun f hf => by cases hf) (fun f ty z h => by cases h) (fun g x h => by cases h) f Q N K todo σ η [] (by rw [h]; exact ⟨hn, k1, k2⟩)).2
theorem dx_fin (hm : E.P.follows .mixedOrders = true) (f : Nat) {e : DE} (h : dx E.P E.G E.T cfgS f N K todo σ η [] = .fin e σ' η' ns) (hn : eqs ns) (k : Q e σ' η') : DWP E N K todo Q σ η :=
  (dx_ok hm cfgS (fun f hf => by cases hf) (fun f ty z h => by cases h) (fun g x h => by cases h) f Q N K todo σ η [] (by rw [h]; exact ⟨hn, k⟩)).2

/-- With closed conditions, nothing entered. -/
def cfgK : Cfg := ⟨true, fun _ => false, fun _ => false, fun _ => false, fun _ => none, fun _ => none, []⟩
theorem dx_finK (hm : E.P.follows .mixedOrders = true) (f : Nat) {e : DE} (h : dx E.P E.G E.T cfgK f N K todo σ η [] = .fin e σ' η' []) (k : Q e σ' η') : DWP E N K todo Q σ η :=
  (dx_ok hm cfgK (fun f hf => by cases hf) (fun f ty z h => by cases h) (fun g x h => by cases h) f Q N K todo σ η [] (by rw [h]; exact ⟨trivial, k⟩)).2

/-- A function's contract by its walk. -/
theorem Pure.walk {g : FuncId} {fn : Func} {c : Code} {xs : List AV} {rs : List ResultVar} {nt : Nat} {res : AR} (hf : E.P.funcs[g]? = some fn) (hb : fn.body = some c) (hname : (fn.name == "runtime.NumGoroutine") = false) (hrs : fn.results = rs.toArray) (hnt : fn.ntmps = nt) (hn : Nat.ble xs.length nt = true)
    (h : DWP E nt 0 [.code c] (RD E.T rs (Ends 60 res)) (ofArgs 0 (xs.map .d)) Hp.nil) : Pure E.toCx g xs res := Pure.ofD 60 (DCall.enter hf hb hname rs hrs nt hnt (by simpa using hn) h)
end
end Go.Bw
