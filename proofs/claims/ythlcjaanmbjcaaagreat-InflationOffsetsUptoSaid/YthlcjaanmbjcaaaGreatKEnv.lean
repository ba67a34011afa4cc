/- Own work, printed by bwgen.py. The table of types of this seat in the form that the program logic asks, and the functions by their numbers. -/
import Derived.Test.YthlcjaanmbjcaaaGreatRows
import Derived.Test.YthlcjaanmbjcaaaGreatKE10
set_option linter.all false
namespace Go.Proofs.YthlcjaanmbjcaaaGreat
open Go Go.Bw
abbrev ts:Value:= .string .empty
abbrev tS (a b:Nat):Option TI:=some ⟨.slice a b,1,24,[.slice none 0 0]⟩
abbrev tL (x:Option TI):bt:= .nd x .lf .lf
abbrev t0:Option TI:=some ⟨.other,1,8,[.nilFunc]⟩
abbrev t1:Option TI:=some ⟨.int .i64,1,8,[.int .i64 0]⟩
abbrev t2:Option TI:=some ⟨.struct [(0,2,1,false),(1,3,1,false),(2,4,1,false),(3,6,1,false)],4,24,[.int .i64 0,.int .i64 0,.bool false,.int .u8 0]⟩
abbrev t3:Option TI:=some ⟨.other,1,8,[.pointer none]⟩
abbrev t4:Option TI:=some ⟨.struct [(0,3,1,false),(1,29,7,true),(8,2,1,false),(9,9,1,false),(10,3,1,false),(11,30,1,false)],12,168,[.int .i64 0,.int .i64 0,.int .i64 0,.int .i64 0,.int .i64 0,.slice none 0 0,.slice none 0 0,.slice none 0 0,.int .i64 0,ts,.int .i64 0,.slice none 0 0]⟩
abbrev t5:Option TI:=some ⟨.struct [(0,12,1,false),(1,12,1,false),(2,131,1,false),(3,185,1,false),(4,5,1,false),(5,5,1,false),(6,186,1,false),(7,187,1,false),(8,188,1,false),(9,189,1,false),(10,190,1,false)],11,48,[.int .u64 0,.int .u64 0,.int .u32 0,.int .u8 0,.int .u8 0,.int .u8 0,.int .u8 0,.nilFunc,.pointer none,.int .i32 0,.int .i32 0]⟩
abbrev t6:Option TI:=some ⟨.struct [(0,9,1,false),(1,3,1,false)],2,24,[ts,.int .i64 0]⟩
abbrev t7:Option TI:=some ⟨.struct [(0,48,1,false)],1,24,[.slice none 0 0]⟩
abbrev t8:Option TI:=some ⟨.struct [(0,38,1,false),(1,3,1,false)],2,16,[.int .i64 0,.int .i64 0]⟩
abbrev t9:Option TI:=some ⟨.str,1,16,[ts]⟩
abbrev t10:Option TI:=some ⟨.struct [(0,17,1,false)],1,8,[.pointer none]⟩
abbrev t11:Option TI:=some ⟨.struct [(0,3,1,false)],1,8,[.int .i64 0]⟩
abbrev t12:Option TI:=some ⟨.struct [(0,3,1,false),(1,9,1,false),(2,2,1,false),(3,3,1,false),(4,81,1,false)],5,64,[.int .i64 0,ts,.int .i64 0,.int .i64 0,.slice none 0 0]⟩
abbrev t13:Option TI:=some ⟨.struct [(0,26,6,true),(6,27,1,false)],7,120,[.int .i64 0,.int .i64 0,.int .i64 0,.slice none 0 0,.slice none 0 0,.slice none 0 0,.slice none 0 0]⟩
abbrev t14:Option TI:=some ⟨.struct [(0,17,1,false),(1,17,1,false),(2,17,1,false),(3,9,1,false)],4,40,[.pointer none,.pointer none,.pointer none,ts]⟩
abbrev t15:Option TI:=some ⟨.struct [(0,58,1,false)],1,8,[.map none]⟩
abbrev t16:Option TI:=some ⟨.int .u8,1,1,[.int .u8 0]⟩
abbrev t17:Option TI:=some ⟨.struct [(0,9,1,false),(1,9,1,false),(2,27,1,false),(3,3,1,false),(4,32,12,true)],16,232,[ts,ts,.slice none 0 0,.int .i64 0,.int .i64 0,.int .i64 0,.int .i64 0,.int .i64 0,.int .i64 0,.slice none 0 0,.slice none 0 0,.slice none 0 0,.int .i64 0,ts,.int .i64 0,.slice none 0 0]⟩
abbrev t18:Option TI:=some ⟨.int .u64,1,8,[.int .u64 0]⟩
abbrev t19:Option TI:=some ⟨.struct [(0,3,1,false),(1,2,1,false),(2,2,1,false),(3,22,1,false),(4,23,1,false),(5,24,1,false)],6,96,[.int .i64 0,.int .i64 0,.int .i64 0,.slice none 0 0,.slice none 0 0,.slice none 0 0]⟩
abbrev t20:Option TI:=some ⟨.struct [(0,22,1,false),(1,9,1,false)],2,40,[.slice none 0 0,ts]⟩
abbrev t21:Option TI:=some ⟨.struct [(0,9,1,false),(1,12,1,false)],2,24,[ts,.int .u64 0]⟩
abbrev t22:Option TI:=some ⟨.int .i32,1,4,[.int .i32 0]⟩
abbrev t23:Option TI:=some ⟨.struct [(0,3,1,false),(1,26,6,true)],7,104,[.int .i64 0,.int .i64 0,.int .i64 0,.int .i64 0,.slice none 0 0,.slice none 0 0,.slice none 0 0]⟩
def H6:bt:=(.nd none (.nd t0 (.nd t1 (.nd t2 (.nd t3 (.nd t4 (.nd t0 (tL t0) (tL t5)) (.nd t0 (tL t0) .lf)) (.nd t0 (.nd t0 (tL t0) .lf) (.nd t3 (tL (tS 4 1)) .lf))) (.nd (tS 26 6) (.nd none (.nd t0 (tL t0) .lf) (.nd t6 (tL t0) .lf)) (.nd t7 (.nd t8 (tL t0) .lf) (tL t0)))) (.nd t9 (.nd t10 (.nd t0 (.nd t0 (tL (some ⟨.int .u32,1,4,[.int .u32 0]⟩)) .lf) (.nd t11 (tL t0) .lf)) (.nd t0 (.nd t12 (tL t0) .lf) (.nd t13 (tL t14) .lf))) (.nd (tS 104 2) (.nd t0 (.nd t0 (tL t0) .lf) .lf) (.nd t15 (.nd t0 (tL t0) .lf) (.nd t1 (tL t0) .lf))))) (.nd t16 (.nd t9 (.nd t3 (.nd t17 (.nd t0 (tL t0) .lf) (.nd t18 (tL t0) .lf)) (.nd none (.nd (tS 83 5) (tL t0) .lf) (.nd t0 (tL t0) .lf))) (.nd t19 (.nd t0 (.nd t0 (tL t20) .lf) (.nd t0 (tL t0) .lf)) (.nd t0 (.nd t0 (tL t0) .lf) (.nd t0 (tL t16) .lf)))) (.nd t21 (.nd t22 (.nd t0 (.nd t0 (tL t18) .lf) (.nd t0 (tL t0) .lf)) (.nd t0 (.nd t0 (tL t0) .lf) (tL t0))) (.nd t23 (.nd none (.nd t0 (tL t0) .lf) (.nd t0 (tL t0) .lf)) (.nd t0 (.nd t0 (tL (tS 38 1)) .lf) (.nd t0 (tL t22) .lf)))))) (.nd t1 (.nd (some ⟨.bool,1,1,[.bool false]⟩) (.nd t2 (.nd t3 (.nd t4 (.nd t0 (tL t0) (tL t5)) (.nd t0 (tL t0) .lf)) (.nd (tS 3 1) (.nd t0 (tL t0) .lf) (.nd t0 (tL t0) .lf))) (.nd (tS 137 2) (.nd t0 (.nd none (tL t20) .lf) (.nd t6 (tL t0) .lf)) (.nd t7 (.nd none (tL t0) .lf) (.nd t0 (tL t0) .lf)))) (.nd t18 (.nd (some ⟨.iface,1,16,[.nilIface]⟩) (.nd t0 (.nd t0 (tL t0) .lf) (.nd t11 (tL t0) .lf)) (.nd t0 (.nd none (tL t0) .lf) (.nd t13 (tL t14) .lf))) (.nd t23 (.nd t0 (.nd t0 (tL t0) .lf) (.nd t0 (tL t0) .lf)) (.nd t15 (.nd t0 (tL t0) .lf) (.nd none (tL t3) .lf))))) (.nd t16 (.nd t9 (.nd t10 (.nd t17 (.nd t0 (tL t0) .lf) (.nd t0 (tL t3) .lf)) (.nd t0 (.nd t12 (tL t0) .lf) (.nd t3 (tL t0) .lf))) (.nd t19 (.nd t0 (.nd t0 (tL t3) .lf) (.nd t0 (tL t0) .lf)) (.nd (some ⟨.other,1,8,[.map none]⟩) (.nd t0 (tL t3) .lf) (.nd t0 (tL t16) .lf)))) (.nd t21 (.nd (tS 9 1) (.nd t1 (.nd none (tL t0) .lf) (.nd t0 (tL t0) .lf)) (.nd t0 (.nd t8 (tL t18) .lf) (tL t0))) (.nd (tS 32 12) (.nd t0 (tL t0) (.nd t0 (tL t0) .lf)) (.nd t0 (.nd t0 (tL t0) .lf) (.nd t0 (tL t22) .lf)))))))
def eX:Gl:=[]
set_option maxRecDepth 100000 in
theorem Nj:p0 Tryz.prog H6:=LF (by kernel_rfl)
noncomputable def env:Env:={P:=Tryz.prog,G:=eX,T:=H6,tok:=Nj}
theorem mixed:env.toCx.P.follows .mixedOrders=true:=by kernel_rfl
