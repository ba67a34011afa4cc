/- Own work, printed by bwgen.py. The table of types of this seat in the form that the program logic asks, and the functions by their numbers. -/
import Derived.Test.YtmbalfjhlngncaaGreatRows
import Derived.Test.YtmbalfjhlngncaaGreatKE9
set_option linter.all false
namespace Go.Proofs.YtmbalfjhlngncaaGreat
open Go Go.Bw
abbrev ts:Value:= .string .empty
abbrev tS (a b:Nat):Option TI:=some ⟨.slice a b,1,24,[.slice none 0 0]⟩
abbrev tL (x:Option TI):bZ:= .nd x .lf .lf
abbrev t0:Option TI:=some ⟨.other,1,8,[.nilFunc]⟩
abbrev t1:Option TI:=some ⟨.int .i64,1,8,[.int .i64 0]⟩
abbrev t2:Option TI:=some ⟨.struct [(0,2,1,false),(1,3,1,false),(2,4,1,false),(3,6,1,false)],4,24,[.int .i64 0,.int .i64 0,.bool false,.int .u8 0]⟩
abbrev t3:Option TI:=some ⟨.other,1,8,[.pointer none]⟩
abbrev t4:Option TI:=some ⟨.struct [(0,3,1,false),(1,29,7,true),(8,2,1,false),(9,9,1,false),(10,3,1,false),(11,30,1,false)],12,168,[.int .i64 0,.int .i64 0,.int .i64 0,.int .i64 0,.int .i64 0,.slice none 0 0,.slice none 0 0,.slice none 0 0,.int .i64 0,ts,.int .i64 0,.slice none 0 0]⟩
abbrev t5:Option TI:=some ⟨.struct [(0,38,4,true),(4,39,1,false)],5,104,[.int .i64 0,.slice none 0 0,.slice none 0 0,.slice none 0 0,.slice none 0 0]⟩
abbrev t6:Option TI:=some ⟨.struct [(0,3,1,false),(1,2,1,false),(2,9,1,false),(3,22,1,false)],4,56,[.int .i64 0,.int .i64 0,ts,.slice none 0 0]⟩
abbrev t7:Option TI:=some ⟨.struct [(0,12,1,false),(1,12,1,false),(2,293,1,false),(3,328,1,false),(4,5,1,false),(5,5,1,false),(6,329,1,false),(7,330,1,false),(8,331,1,false),(9,332,1,false),(10,333,1,false)],11,48,[.int .u64 0,.int .u64 0,.int .u32 0,.int .u8 0,.int .u8 0,.int .u8 0,.int .u8 0,.nilFunc,.pointer none,.int .i32 0,.int .i32 0]⟩
abbrev t8:Option TI:=some ⟨.struct [(0,3,1,false),(1,3,1,false)],2,16,[.int .i64 0,.int .i64 0]⟩
abbrev t9:Option TI:=some ⟨.struct [(0,22,1,false),(1,9,1,false)],2,40,[.slice none 0 0,ts]⟩
abbrev t10:Option TI:=some ⟨.int .u64,1,8,[.int .u64 0]⟩
abbrev t11:Option TI:=some ⟨.struct [(0,42,1,false),(1,3,1,false)],2,16,[.int .i64 0,.int .i64 0]⟩
abbrev t12:Option TI:=some ⟨.struct [(0,26,6,true),(6,27,1,false)],7,120,[.int .i64 0,.int .i64 0,.int .i64 0,.slice none 0 0,.slice none 0 0,.slice none 0 0,.slice none 0 0]⟩
abbrev t13:Option TI:=some ⟨.str,1,16,[ts]⟩
abbrev t14:Option TI:=some ⟨.struct [(0,17,1,false)],1,8,[.pointer none]⟩
abbrev t15:Option TI:=some ⟨.struct [(0,17,1,false),(1,17,1,false),(2,17,1,false),(3,9,1,false)],4,40,[.pointer none,.pointer none,.pointer none,ts]⟩
abbrev t16:Option TI:=some ⟨.struct [(0,3,1,false),(1,9,1,false),(2,2,1,false),(3,3,1,false),(4,81,1,false)],5,64,[.int .i64 0,ts,.int .i64 0,.int .i64 0,.slice none 0 0]⟩
abbrev t17:Option TI:=some ⟨.struct [(0,114,1,false),(1,9,1,false)],2,40,[.slice none 0 0,ts]⟩
abbrev t18:Option TI:=some ⟨.struct [(0,3,1,false)],1,8,[.int .i64 0]⟩
abbrev t19:Option TI:=some ⟨.struct [(0,212,1,false),(1,3,1,false)],2,32,[.slice none 0 0,.int .i64 0]⟩
abbrev t20:Option TI:=some ⟨.struct [(0,48,4,true),(4,38,4,true)],8,136,[.int .i64 0,.int .i64 0,ts,.slice none 0 0,.int .i64 0,.slice none 0 0,.slice none 0 0,.slice none 0 0]⟩
abbrev t21:Option TI:=some ⟨.int .u8,1,1,[.int .u8 0]⟩
abbrev t22:Option TI:=some ⟨.struct [(0,9,1,false),(1,9,1,false),(2,27,1,false),(3,3,1,false),(4,32,12,true)],16,232,[ts,ts,.slice none 0 0,.int .i64 0,.int .i64 0,.int .i64 0,.int .i64 0,.int .i64 0,.int .i64 0,.slice none 0 0,.slice none 0 0,.slice none 0 0,.int .i64 0,ts,.int .i64 0,.slice none 0 0]⟩
abbrev t23:Option TI:=some ⟨.struct [(0,3,1,false),(1,2,1,false),(2,2,1,false),(3,22,1,false),(4,23,1,false),(5,24,1,false)],6,96,[.int .i64 0,.int .i64 0,.int .i64 0,.slice none 0 0,.slice none 0 0,.slice none 0 0]⟩
abbrev t24:Option TI:=some ⟨.struct [(0,9,1,false),(1,12,1,false)],2,24,[ts,.int .u64 0]⟩
abbrev t25:Option TI:=some ⟨.int .i32,1,4,[.int .i32 0]⟩
abbrev t26:Option TI:=some ⟨.struct [(0,2,1,false),(1,22,1,false),(2,35,1,false),(3,36,1,false)],4,80,[.int .i64 0,.slice none 0 0,.slice none 0 0,.slice none 0 0]⟩
abbrev t27:Option TI:=some ⟨.struct [(0,3,1,false),(1,2,1,false)],2,16,[.int .i64 0,.int .i64 0]⟩
abbrev t28:Option TI:=some ⟨.struct [(0,22,1,false),(1,276,1,false)],2,48,[.slice none 0 0,.slice none 0 0]⟩
abbrev t29:Option TI:=some ⟨.struct [(0,3,1,false),(1,26,6,true)],7,104,[.int .i64 0,.int .i64 0,.int .i64 0,.int .i64 0,.slice none 0 0,.slice none 0 0,.slice none 0 0]⟩
abbrev t30:Option TI:=some ⟨.struct [(0,9,1,false),(1,3,1,false)],2,24,[ts,.int .i64 0]⟩
def Xb:bZ:=(.nd none (.nd t0 (.nd t1 (.nd t2 (.nd t3 (.nd t4 (.nd t0 (.nd t0 (tL t0) .lf) (.nd t3 (tL t0) .lf)) (.nd t5 (.nd t0 (tL t0) .lf) (tL t0))) (.nd t6 (.nd t0 (.nd none (tL t0) .lf) (.nd none (tL t7) .lf)) (.nd t0 (.nd t0 (tL t8) .lf) (tL t0)))) (.nd (tS 26 6) (.nd (tS 48 4) (.nd t0 (.nd t0 (tL t0) .lf) (.nd t0 (tL t0) .lf)) (.nd t0 (.nd t9 (tL t10) .lf) (tL t0))) (.nd t0 (.nd t11 (.nd t12 (tL t0) .lf) (tL t0)) (.nd t0 (.nd t0 (tL t0) .lf) .lf)))) (.nd t13 (.nd t14 (.nd (tS 38 4) (.nd t0 (.nd t0 (tL t10) .lf) (.nd t0 (tL t15) .lf)) (.nd t0 (.nd t0 (tL t0) .lf) (tL t0))) (.nd t0 (.nd t16 (.nd t0 (tL t0) .lf) (tL t0)) (.nd t17 (.nd t0 (tL t0) .lf) (tL (tS 2 1))))) (.nd (tS 62 2) (.nd none (.nd t0 (tL t18) (.nd t0 (tL t3) .lf)) (.nd t0 (.nd t0 (tL t19) .lf) (tL t0))) (.nd t20 (.nd t0 (.nd t0 (tL t0) .lf) (tL t0)) (.nd t12 (.nd t0 (tL t0) .lf) (tL t0)))))) (.nd t21 (.nd t13 (.nd t3 (.nd t22 (.nd t0 (.nd t0 (tL t0) .lf) (.nd t0 (tL t0) .lf)) (.nd t0 (.nd t0 (tL t0) .lf) (tL t0))) (.nd none (.nd (tS 83 5) (.nd t0 (tL t0) .lf) (tL t0)) (.nd t0 (.nd t0 (tL t10) .lf) (tL t0)))) (.nd t23 (.nd t0 (.nd t0 (.nd t0 (tL t0) .lf) (.nd t0 (tL t21) .lf)) (.nd t0 (.nd t0 (tL t0) .lf) (tL t0))) (.nd t0 (.nd t0 (tL t0) (tL t0)) (.nd t0 (.nd t0 (tL t0) .lf) (tL (tS 4 1)))))) (.nd t24 (.nd t25 (.nd t26 (.nd t0 (.nd t27 (tL t0) .lf) (tL t0)) (.nd t0 (.nd t0 (tL (some ⟨.int .u32,1,4,[.int .u32 0]⟩)) .lf) (tL t0))) (.nd t0 (.nd t0 (.nd t3 (tL t28) .lf) .lf) (.nd t0 (.nd t0 (tL t3) .lf) (tL t0)))) (.nd t29 (.nd t0 (.nd t0 (.nd t0 (tL t0) .lf) (.nd t0 (tL t25) .lf)) (.nd t0 (.nd t0 (tL t0) .lf) (tL t0))) (.nd t30 (.nd t20 (tL t0) (tL t0)) (.nd t0 (.nd t0 (tL t0) .lf) (tL t0))))))) (.nd t1 (.nd (some ⟨.bool,1,1,[.bool false]⟩) (.nd t2 (.nd t3 (.nd t4 (.nd t0 (.nd t0 (tL t0) .lf) (.nd t0 (tL t0) .lf)) (.nd t0 (.nd t0 (tL t0) .lf) (tL t0))) (.nd t6 (.nd t0 (.nd t0 (tL t0) .lf) (tL t0)) (.nd t0 (.nd t0 (tL t0) .lf) (tL (tS 29 7))))) (.nd (tS 167 2) (.nd t0 (.nd t0 (.nd t0 (tL t0) .lf) (.nd t0 (tL t21) .lf)) (.nd t0 (.nd t0 (tL t0) .lf) (tL t0))) (.nd t0 (.nd none (.nd t0 (tL (tS 303 2)) .lf) .lf) (.nd t0 (.nd t0 (tL t0) .lf) (tL t0))))) (.nd t10 (.nd (some ⟨.iface,1,16,[.nilIface]⟩) (.nd (tS 116 2) (.nd t0 (.nd t27 (tL t0) .lf) (tL t0)) (.nd t0 (.nd t0 (tL t0) .lf) (tL t0))) (.nd t0 (.nd none (.nd t0 (tL (tS 300 2)) .lf) (tL (tS 3 1))) (.nd t17 (.nd t0 (tL t0) .lf) (tL t0)))) (.nd t29 (.nd t0 (.nd t0 (.nd t0 (tL t0) .lf) (.nd t0 (tL t25) .lf)) (.nd t0 (.nd t0 (tL t19) .lf) (tL t0))) (.nd t0 (.nd t20 (.nd t0 (tL t1) .lf) (tL t0)) (.nd t12 (.nd t0 (tL t3) .lf) (tL t0)))))) (.nd t21 (.nd t13 (.nd t14 (.nd t22 (.nd t0 (.nd t0 (tL t0) .lf) (.nd none (tL t15) .lf)) (.nd t0 (tL t0) (tL t0))) (.nd t0 (.nd t16 (.nd t3 (tL t0) .lf) (tL (some ⟨.other,1,8,[.map none]⟩))) (.nd (tS 133 2) (.nd t0 (tL t0) .lf) (tL t0)))) (.nd t23 (.nd t1 (.nd t0 (.nd t18 (tL t0) .lf) (.nd none (tL t0) .lf)) (.nd t0 (.nd t0 (tL t0) .lf) (tL t0))) (.nd t20 (.nd t0 (.nd t0 (tL t0) .lf) (tL t0)) (.nd t0 (.nd t0 (tL t0) .lf) .lf)))) (.nd t24 (.nd (tS 9 1) (.nd t26 (.nd none (.nd t0 (tL t0) .lf) (tL t0)) (.nd (tS 59 8) (.nd t9 (tL t0) .lf) (tL t0))) (.nd t0 (.nd t11 (.nd t12 (tL t28) .lf) (tL t0)) (.nd none (.nd t0 (tL t0) .lf) (tL t3)))) (.nd (tS 32 12) (.nd t0 (.nd t0 (.nd t0 (tL t0) .lf) (.nd t0 (tL t7) .lf)) (.nd t0 (.nd t0 (tL t8) .lf) (tL t0))) (.nd t30 (.nd t5 (.nd t0 (tL t0) .lf) (tL (tS 42 1))) (.nd t0 (.nd t0 (tL t0) .lf) (tL t0))))))))
def fX:Gl:=[]
set_option maxRecDepth 100000 in
theorem aef:xT Tryz.prog Xb:=abv (by kernel_rfl)
noncomputable def env:Env:={P:=Tryz.prog,G:=fX,T:=Xb,tok:=aef}
theorem mixed:env.toCx.P.follows .mixedOrders=true:=by kernel_rfl
