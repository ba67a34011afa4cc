/-
  Own work, printed by the runner. Closed calls, run in the kernel.
-/
import Derived.Test.YtcngmkedekmkhaaGreatFc
namespace Go.Proofs.YtcngmkedekmkhaaGreat
open Go Go.Bw
set_option maxRecDepth 1000000
abbrev wx73 : List AV := [(.v (.string ⟨⟨[110, 117, 109, 40, 110, 117, 109, 98, 101, 114, 40, 115, 41, 32, 43, 32, 49, 41]⟩⟩)), (.v (.int .i64 1))]
abbrev wz73 : AV := (.tup [(.agg [(.v (.int .i64 51)), (.v (.string ⟨⟨[110, 117, 109]⟩⟩)), (.v (.int .i64 0)), (.v (.int .i64 0)), (.sl 5 [[(.v (.int .i64 40)), (.v (.string ⟨⟨[]⟩⟩)), (.v (.int .i64 0)), (.v (.int .i64 14)), (.sl 5 [[(.v (.int .i64 51)), (.v (.string ⟨⟨[110, 117, 109, 98, 101, 114]⟩⟩)), (.v (.int .i64 0)), (.v (.int .i64 4)), (.sl 5 [[(.v (.int .i64 49)), (.v (.string ⟨⟨[]⟩⟩)), (.v (.int .i64 0)), (.v (.int .i64 11)), (.v (.slice none 0 0))]])], [(.v (.int .i64 44)), (.v (.string ⟨⟨[]⟩⟩)), (.v (.int .i64 1)), (.v (.int .i64 16)), (.v (.slice none 0 0))]])]])]), (.agg [(.v (.int .i64 0)), (.v (.int .i64 0))])])
abbrev wq73 : Nat × List AV × AV := (98, wx73, wz73)
theorem wr73 : runV Tryz.prog glob tab (cfgF []) 1000000 98 wx73 = some wz73 := by kernel_rfl
theorem wt73 : Pure env.toCx 98 wx73 (.ret wz73) := run_fact fok0 wr73
abbrev wx112 : List AV := [(.v (.string ⟨⟨[110, 117, 109, 40, 110, 117, 109, 98, 101, 114, 40, 115, 41, 32, 43, 32, 49, 41]⟩⟩)), (.v (.int .i64 0))]
abbrev wz112 : AV := (.tup [(.agg [(.v (.int .i64 2)), (.v (.int .i64 0)), (.v (.int .i64 3)), (.v (.slice none 0 0)), (.v (.slice none 0 0)), (.v (.slice none 0 0))]), (.agg [(.v (.string ⟨⟨[102]⟩⟩)), (.v (.string ⟨⟨[111]⟩⟩)), (.v (.slice none 0 0)), (.v (.int .i64 0)), (.v (.int .i64 22)), (.v (.int .i64 0)), (.v (.int .i64 2)), (.v (.int .i64 0)), (.v (.int .i64 3)), (.v (.slice none 0 0)), (.v (.slice none 0 0)), (.v (.slice none 0 0)), (.v (.int .i64 0)), (.v (.string ⟨⟨[]⟩⟩)), (.v (.int .i64 0)), (.sl 12 [[(.v (.int .i64 17)), (.v (.int .i64 1)), (.v (.int .i64 0)), (.v (.int .i64 0)), (.v (.int .i64 0)), (.v (.slice none 0 0)), (.v (.slice none 0 0)), (.v (.slice none 0 0)), (.v (.int .i64 0)), (.v (.string ⟨⟨[]⟩⟩)), (.v (.int .i64 14)), (.sl 12 [[(.v (.int .i64 31)), (.v (.int .i64 1)), (.v (.int .i64 0)), (.v (.int .i64 0)), (.v (.int .i64 0)), (.v (.slice none 0 0)), (.v (.slice none 0 0)), (.v (.slice none 0 0)), (.v (.int .i64 0)), (.v (.string ⟨⟨[]⟩⟩)), (.v (.int .i64 4)), (.sl 12 [[(.v (.int .i64 5)), (.v (.int .i64 0)), (.v (.int .i64 2)), (.v (.int .i64 0)), (.v (.int .i64 3)), (.v (.slice none 0 0)), (.v (.slice none 0 0)), (.v (.slice none 0 0)), (.v (.int .i64 0)), (.v (.string ⟨⟨[]⟩⟩)), (.v (.int .i64 11)), (.v (.slice none 0 0))]])], [(.v (.int .i64 1)), (.v (.int .i64 1)), (.v (.int .i64 0)), (.v (.int .i64 0)), (.v (.int .i64 0)), (.v (.slice none 0 0)), (.v (.slice none 0 0)), (.v (.slice none 0 0)), (.v (.int .i64 1)), (.v (.string ⟨⟨[]⟩⟩)), (.v (.int .i64 16)), (.v (.slice none 0 0))]])]])])])
abbrev wq112 : Nat × List AV × AV := (33, wx112, wz112)
theorem wr112 : runV Tryz.prog glob tab (cfgF [wq73]) 1000000 33 wx112 = some wz112 := by kernel_rfl
theorem wt112 : Pure env.toCx 33 wx112 (.ret wz112) := run_fact (fok1 wt73 fok0) wr112
end Go.Proofs.YtcngmkedekmkhaaGreat
