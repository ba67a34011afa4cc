/-
  Own work, printed by the runner. Closed calls, run in the kernel.
-/
import Derived.Test.YtcngmkedekmkhaaGreatFaw2
namespace Go.Proofs.YtcngmkedekmkhaaGreat
open Go Go.Bw
set_option maxRecDepth 1000000
abbrev wx198 : List AV := [(.v (.string ⟨⟨[110, 117, 109, 40, 50, 41]⟩⟩)), (.v (.int .i64 1))]
abbrev wz198 : AV := (.tup [(.agg [(.v (.int .i64 51)), (.v (.string ⟨⟨[110, 117, 109]⟩⟩)), (.v (.int .i64 0)), (.v (.int .i64 0)), (.sl 5 [[(.v (.int .i64 44)), (.v (.string ⟨⟨[]⟩⟩)), (.v (.int .i64 2)), (.v (.int .i64 4)), (.v (.slice none 0 0))]])]), (.agg [(.v (.int .i64 0)), (.v (.int .i64 0))])])
abbrev wq198 : Nat × List AV × AV := (98, wx198, wz198)
theorem wr198 : runV Tryz.prog glob tab (cfgF []) 1000000 98 wx198 = some wz198 := by kernel_rfl
theorem wt198 : Pure env.toCx 98 wx198 (.ret wz198) := run_fact fok0 wr198
abbrev wx209 : List AV := [(.v (.string ⟨⟨[110, 117, 109, 40, 50, 41]⟩⟩)), (.v (.int .i64 0))]
abbrev wz209 : AV := (.tup [(.agg [(.v (.int .i64 2)), (.v (.int .i64 0)), (.v (.int .i64 3)), (.v (.slice none 0 0)), (.v (.slice none 0 0)), (.v (.slice none 0 0))]), (.agg [(.v (.string ⟨⟨[102]⟩⟩)), (.v (.string ⟨⟨[111]⟩⟩)), (.v (.slice none 0 0)), (.v (.int .i64 0)), (.v (.int .i64 22)), (.v (.int .i64 0)), (.v (.int .i64 2)), (.v (.int .i64 0)), (.v (.int .i64 3)), (.v (.slice none 0 0)), (.v (.slice none 0 0)), (.v (.slice none 0 0)), (.v (.int .i64 0)), (.v (.string ⟨⟨[]⟩⟩)), (.v (.int .i64 0)), (.sl 12 [[(.v (.int .i64 1)), (.v (.int .i64 1)), (.v (.int .i64 0)), (.v (.int .i64 0)), (.v (.int .i64 0)), (.v (.slice none 0 0)), (.v (.slice none 0 0)), (.v (.slice none 0 0)), (.v (.int .i64 2)), (.v (.string ⟨⟨[]⟩⟩)), (.v (.int .i64 4)), (.v (.slice none 0 0))]])])])
abbrev wq209 : Nat × List AV × AV := (33, wx209, wz209)
theorem wr209 : runV Tryz.prog glob tab (cfgF [wq198]) 1000000 33 wx209 = some wz209 := by kernel_rfl
theorem wt209 : Pure env.toCx 33 wx209 (.ret wz209) := run_fact (fok1 wt198 fok0) wr209
end Go.Proofs.YtcngmkedekmkhaaGreat
