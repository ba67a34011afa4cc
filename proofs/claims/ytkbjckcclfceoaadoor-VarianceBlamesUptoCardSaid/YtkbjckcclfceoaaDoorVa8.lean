/-
  Own work. The examples that each statement of layer 20 begins with, and the tables: the walks.
-/
import Derived.Test.YtkbjckcclfceoaaDoorVa7
import Derived.Test.YtkbjckcclfceoaaDoorAw11
namespace Go.Proofs.YtkbjckcclfceoaaDoor
open Go Go.Aw
attribute [local irreducible] AWP AOps AQO ALx

def la0 : La := .mk 0 0 0 [] [] []
def exState : Ex := .mk 5 0 la0 0 ByteArray.empty 3 []
def exOn : Ex := .mk 32 0 la0 0 ByteArray.empty 0 [exState]
def exOne : Ex := .mk 1 0 la0 1 ByteArray.empty 0 []
def exZero : Ex := .mk 1 0 la0 0 ByteArray.empty 0 []
def exX : Ex := .mk 7 0 la0 0 ByteArray.empty 0 [exOn, exOne, exZero]
def exY : Ex := .mk 7 0 la0 0 ByteArray.empty 0 [exOn, exZero, exOne]
def fuY : Fu := ⟨ByteArray.empty, ByteArray.empty, [], 1, exY⟩

theorem exX_ok : exX.ok := by simp [exX, exOn, exOne, exZero, exState, Ex.ok, Ex.okL]
theorem exY_ok : exY.ok := by simp [exY, exOn, exOne, exZero, exState, Ex.ok, Ex.okL]
theorem exX_of : ofS exX = 1 := by rfl
theorem exY_of : ofS exY = 2 := by rfl
theorem fuY_blame : blamesS fuY = 3 := by rfl

set_option maxHeartbeats 4000000 in
theorem awake_spec : Pure env.toCx 7 [] (boolC true) := by
  have hx := of_spec exX exX_ok
  have hy := of_spec exY exY_ok
  have hb := Blame_spec fuY exY_ok
  unfold OfOk at hx hy
  rw [exX_of] at hx
  rw [exY_of] at hy
  rw [fuY_blame] at hb
  refine Pure.enter (E := env) Tryd.func7 rfl (by kernel_rfl) _ rfl _ Tryd.ntmps7 rfl ?_
  have imp0 : Imp (.agg ((cellsA (.agg (Ex.row exState))).set 5 (.v (.slice none 0 0)) |>.set 6 (.v (.slice none 0 0)) |>.set 7 (.v (.slice none 0 0)) |>.set 11 (.v (.slice none 0 0)))) (.agg (Ex.row exState)) := by (refine Imp.agg ?_; repeat' (first | exact ImpL.nil | refine ImpL.cons ?_ ?_ | exact Imp.refl _ | exact Imp.nil _))
  have imp1 : Imp (.agg ((cellsA (.agg (Ex.row exOn))).set 5 (.v (.slice none 0 0)) |>.set 6 (.v (.slice none 0 0)) |>.set 7 (.v (.slice none 0 0)))) (.agg (Ex.row exOn)) := by (refine Imp.agg ?_; repeat' (first | exact ImpL.nil | refine ImpL.cons ?_ ?_ | exact Imp.refl _ | exact Imp.nil _))
  have imp2 : Imp (.agg ((cellsA (.agg (Ex.row exOne))).set 5 (.v (.slice none 0 0)) |>.set 6 (.v (.slice none 0 0)) |>.set 7 (.v (.slice none 0 0)) |>.set 11 (.v (.slice none 0 0)))) (.agg (Ex.row exOne)) := by (refine Imp.agg ?_; repeat' (first | exact ImpL.nil | refine ImpL.cons ?_ ?_ | exact Imp.refl _ | exact Imp.nil _))
  have imp3 : Imp (.agg ((cellsA (.agg (Ex.row exZero))).set 5 (.v (.slice none 0 0)) |>.set 6 (.v (.slice none 0 0)) |>.set 7 (.v (.slice none 0 0)) |>.set 11 (.v (.slice none 0 0)))) (.agg (Ex.row exZero)) := by (refine Imp.agg ?_; repeat' (first | exact ImpL.nil | refine ImpL.cons ?_ ?_ | exact Imp.refl _ | exact Imp.nil _))
  have imp4 : Imp (.agg ((cellsA (.agg (Ex.row exX))).set 5 (.v (.slice none 0 0)) |>.set 6 (.v (.slice none 0 0)) |>.set 7 (.v (.slice none 0 0)))) (.agg (Ex.row exX)) := by (refine Imp.agg ?_; repeat' (first | exact ImpL.nil | refine ImpL.cons ?_ ?_ | exact Imp.refl _ | exact Imp.nil _))
  have imp5 : Imp (.agg ((cellsA (.agg (Ex.row exY))).set 5 (.v (.slice none 0 0)) |>.set 6 (.v (.slice none 0 0)) |>.set 7 (.v (.slice none 0 0)))) (.agg (Ex.row exY)) := by (refine Imp.agg ?_; repeat' (first | exact ImpL.nil | refine ImpL.cons ?_ ?_ | exact Imp.refl _ | exact Imp.nil _))
  have imp6 : Imp (.agg ((cellsA (.agg fuY.row)).set 2 (.v (.slice none 0 0)))) (.agg fuY.row) := by (refine Imp.agg ?_; repeat' (first | exact ImpL.nil | refine ImpL.cons ?_ ?_ | exact Imp.refl _ | exact Imp.nil _))
  repeat' (first | (first | refine AOps.op (E := env) rfl rfl ?_ | refine AOps.nil ?_ | refine AWP.seq ?_ | refine AWP.region ?_ | (refine AOps.id ?_; first | refine AOps.guardU rfl rfl ?_ rfl | refine AOps.guardK rfl rfl ?_ rfl | refine AOps.guardN rfl rfl rfl ?_ rfl | (refine AOps.guardT rfl rfl ?_ ?_ rfl <;> intro hg) | (refine AOps.guardF rfl rfl ?_ ?_ rfl <;> intro hg) | refine AOps.load (E := env) 0 rfl rfl rfl rfl ?_ | refine AOps.load (E := env) 1 rfl rfl rfl rfl ?_ | refine AOps.load (E := env) 2 rfl rfl rfl rfl ?_ | refine AOps.load (E := env) 3 rfl rfl rfl rfl ?_ | refine AOps.load (E := env) 4 rfl rfl rfl rfl ?_ | refine AOps.load (E := env) 5 rfl rfl rfl rfl ?_ | refine AOps.len (E := env) rfl rfl rfl ?_ | (refine AOps.box (E := env) rfl rfl ?_; intro _) | (refine AOps.alloc (E := env) rfl rfl ?_; intro _)) | (refine AWP.id ?_; first | refine AWP.condT rfl ?_ | refine AWP.condF rfl ?_ | (refine AWP.condS rfl ?_ ?_ <;> intro hc) | (refine AWP.cond rfl ?_ ?_ <;> intro hc) | refine AWP.block ?_ | refine AWP.skip ?_ | refine AWP.exit ?_ | refine AWP.regionD mixed (by kernel_rfl) ?_) | (refine AQO.id ?_; first | refine AQO.op (E := env) rfl rfl ?_ | refine AQO.nil ?_ | refine AQO.guardU rfl rfl ?_ rfl | refine AQO.guardK rfl rfl ?_ rfl | refine AQO.guardN rfl rfl rfl ?_ rfl | (refine AQO.guardT rfl rfl ?_ ?_ rfl <;> intro hg) | (refine AQO.guardF rfl rfl ?_ ?_ rfl <;> intro hg) | refine AQO.load (E := env) 0 rfl rfl rfl rfl ?_ | refine AQO.load (E := env) 1 rfl rfl rfl rfl ?_ | refine AQO.load (E := env) 2 rfl rfl rfl rfl ?_ | refine AQO.load (E := env) 3 rfl rfl rfl rfl ?_ | refine AQO.load (E := env) 4 rfl rfl rfl rfl ?_ | refine AQO.load (E := env) 5 rfl rfl rfl rfl ?_ | refine AQO.len (E := env) rfl rfl rfl ?_)) | (refine AOps.conv (t := 6) _ rfl imp0 ?_; refine AOps.lit (E := env) rfl rfl rfl rfl rfl rfl ?_; intro _; refine AOps.freeze 0 7 rfl rfl ?_) | (refine AOps.conv (t := 8) _ rfl imp1 ?_; refine AOps.store (E := env) 0 rfl rfl rfl rfl rfl rfl rfl ?_) | (refine AOps.conv (t := 9) _ rfl imp2 ?_; refine AOps.store (E := env) 1 rfl rfl rfl rfl rfl rfl rfl ?_) | (refine AOps.conv (t := 10) _ rfl imp3 ?_; refine AOps.store (E := env) 2 rfl rfl rfl rfl rfl rfl rfl ?_) | (refine AOps.lit (E := env) rfl rfl rfl rfl rfl rfl ?_; intro _; refine AOps.freeze 3 14 rfl rfl ?_) | (refine AOps.lit (E := env) rfl rfl rfl rfl rfl rfl ?_; intro _; refine AOps.freeze 4 19 rfl rfl ?_) | (refine AOps.conv (t := 15) _ rfl imp4 ?_; refine AOps.store (E := env) 3 rfl rfl rfl rfl rfl rfl rfl ?_) | (refine AOps.conv (t := 20) _ rfl imp5 ?_; refine AOps.store (E := env) 4 rfl rfl rfl rfl rfl rfl rfl ?_) | refine AOps.pure hx rfl rfl ?_ | refine AOps.pure hy rfl rfl ?_ | (refine AOps.conv (t := 31) _ rfl imp6 ?_; refine AOps.pure hb rfl rfl ?_))
  refine AWP.ret ?_
  exact BQ.ret1 (.tmp rfl) rfl
end Go.Proofs.YtkbjckcclfceoaaDoor
