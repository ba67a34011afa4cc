/-
  Own work, printed by the runner. Closed calls, run in the kernel.
-/
import Derived.Test.YtcngmkedekmkhaaGreatFaw1
namespace Go.Proofs.YtcngmkedekmkhaaGreat
open Go Go.Bw
set_option maxRecDepth 1000000
abbrev wx154 : List AV := [(.v (.string ⟨⟨[110, 117, 109, 40, 51, 32, 45, 32, 110, 117, 109, 98, 101, 114, 40, 115, 41, 41]⟩⟩)), (.v (.int .i64 1))]
abbrev wz154 : AV := (.tup [(.agg [(.v (.int .i64 51)), (.v (.string ⟨⟨[110, 117, 109]⟩⟩)), (.v (.int .i64 0)), (.v (.int .i64 0)), (.sl 5 [[(.v (.int .i64 41)), (.v (.string ⟨⟨[]⟩⟩)), (.v (.int .i64 0)), (.v (.int .i64 6)), (.sl 5 [[(.v (.int .i64 44)), (.v (.string ⟨⟨[]⟩⟩)), (.v (.int .i64 3)), (.v (.int .i64 4)), (.v (.slice none 0 0))], [(.v (.int .i64 51)), (.v (.string ⟨⟨[110, 117, 109, 98, 101, 114]⟩⟩)), (.v (.int .i64 0)), (.v (.int .i64 8)), (.sl 5 [[(.v (.int .i64 49)), (.v (.string ⟨⟨[]⟩⟩)), (.v (.int .i64 0)), (.v (.int .i64 15)), (.v (.slice none 0 0))]])]])]])]), (.agg [(.v (.int .i64 0)), (.v (.int .i64 0))])])
abbrev wq154 : Nat × List AV × AV := (98, wx154, wz154)
theorem wr154 : runV Tryz.prog glob tab (cfgF []) 1000000 98 wx154 = some wz154 := by kernel_rfl
theorem wt154 : Pure env.toCx 98 wx154 (.ret wz154) := run_fact fok0 wr154
abbrev wx177 : List AV := [(.v (.string ⟨⟨[110, 117, 109, 40, 51, 32, 45, 32, 110, 117, 109, 98, 101, 114, 40, 115, 41, 41]⟩⟩)), (.v (.int .i64 0))]
abbrev wz177 : AV := (.tup [(.agg [(.v (.int .i64 2)), (.v (.int .i64 0)), (.v (.int .i64 3)), (.v (.slice none 0 0)), (.v (.slice none 0 0)), (.v (.slice none 0 0))]), (.agg [(.v (.string ⟨⟨[102]⟩⟩)), (.v (.string ⟨⟨[111]⟩⟩)), (.v (.slice none 0 0)), (.v (.int .i64 0)), (.v (.int .i64 22)), (.v (.int .i64 0)), (.v (.int .i64 2)), (.v (.int .i64 0)), (.v (.int .i64 3)), (.v (.slice none 0 0)), (.v (.slice none 0 0)), (.v (.slice none 0 0)), (.v (.int .i64 0)), (.v (.string ⟨⟨[]⟩⟩)), (.v (.int .i64 0)), (.sl 12 [[(.v (.int .i64 18)), (.v (.int .i64 1)), (.v (.int .i64 0)), (.v (.int .i64 0)), (.v (.int .i64 0)), (.v (.slice none 0 0)), (.v (.slice none 0 0)), (.v (.slice none 0 0)), (.v (.int .i64 0)), (.v (.string ⟨⟨[]⟩⟩)), (.v (.int .i64 6)), (.sl 12 [[(.v (.int .i64 1)), (.v (.int .i64 1)), (.v (.int .i64 0)), (.v (.int .i64 0)), (.v (.int .i64 0)), (.v (.slice none 0 0)), (.v (.slice none 0 0)), (.v (.slice none 0 0)), (.v (.int .i64 3)), (.v (.string ⟨⟨[]⟩⟩)), (.v (.int .i64 4)), (.v (.slice none 0 0))], [(.v (.int .i64 31)), (.v (.int .i64 1)), (.v (.int .i64 0)), (.v (.int .i64 0)), (.v (.int .i64 0)), (.v (.slice none 0 0)), (.v (.slice none 0 0)), (.v (.slice none 0 0)), (.v (.int .i64 0)), (.v (.string ⟨⟨[]⟩⟩)), (.v (.int .i64 8)), (.sl 12 [[(.v (.int .i64 5)), (.v (.int .i64 0)), (.v (.int .i64 2)), (.v (.int .i64 0)), (.v (.int .i64 3)), (.v (.slice none 0 0)), (.v (.slice none 0 0)), (.v (.slice none 0 0)), (.v (.int .i64 0)), (.v (.string ⟨⟨[]⟩⟩)), (.v (.int .i64 15)), (.v (.slice none 0 0))]])]])]])])])
abbrev wq177 : Nat × List AV × AV := (33, wx177, wz177)
theorem wr177 : runV Tryz.prog glob tab (cfgF [wq154]) 1000000 33 wx177 = some wz177 := by kernel_rfl
theorem wt177 : Pure env.toCx 33 wx177 (.ret wz177) := run_fact (fok1 wt154 fok0) wr177
end Go.Proofs.YtcngmkedekmkhaaGreat
