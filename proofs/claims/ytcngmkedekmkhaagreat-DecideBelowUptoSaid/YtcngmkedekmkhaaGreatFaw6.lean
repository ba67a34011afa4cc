/-
  Own work, printed by the runner. Closed calls, run in the kernel.
-/
import Derived.Test.YtcngmkedekmkhaaGreatFaw5
namespace Go.Proofs.YtcngmkedekmkhaaGreat
open Go Go.Bw
set_option maxRecDepth 1000000
abbrev wx708 : List AV := [(.agg [(.v (.int .i64 2)), (.v (.int .i64 0)), (.v (.int .i64 3)), (.v (.slice none 0 0)), (.v (.slice none 0 0)), (.v (.slice none 0 0))]), (.agg [(.v (.string ⟨⟨[102]⟩⟩)), (.v (.string ⟨⟨[111]⟩⟩)), (.v (.slice none 0 0)), (.v (.int .i64 0)), (.v (.int .i64 22)), (.v (.int .i64 0)), (.v (.int .i64 2)), (.v (.int .i64 0)), (.v (.int .i64 3)), (.v (.slice none 0 0)), (.v (.slice none 0 0)), (.v (.slice none 0 0)), (.v (.int .i64 0)), (.v (.string ⟨⟨[]⟩⟩)), (.v (.int .i64 0)), (.sl 12 [[(.v (.int .i64 17)), (.v (.int .i64 1)), (.v (.int .i64 0)), (.v (.int .i64 0)), (.v (.int .i64 0)), (.v (.slice none 0 0)), (.v (.slice none 0 0)), (.v (.slice none 0 0)), (.v (.int .i64 0)), (.v (.string ⟨⟨[]⟩⟩)), (.v (.int .i64 14)), (.sl 12 [[(.v (.int .i64 31)), (.v (.int .i64 1)), (.v (.int .i64 0)), (.v (.int .i64 0)), (.v (.int .i64 0)), (.v (.slice none 0 0)), (.v (.slice none 0 0)), (.v (.slice none 0 0)), (.v (.int .i64 0)), (.v (.string ⟨⟨[]⟩⟩)), (.v (.int .i64 4)), (.sl 12 [[(.v (.int .i64 5)), (.v (.int .i64 0)), (.v (.int .i64 2)), (.v (.int .i64 0)), (.v (.int .i64 3)), (.v (.slice none 0 0)), (.v (.slice none 0 0)), (.v (.slice none 0 0)), (.v (.int .i64 0)), (.v (.string ⟨⟨[]⟩⟩)), (.v (.int .i64 11)), (.v (.slice none 0 0))]])], [(.v (.int .i64 1)), (.v (.int .i64 1)), (.v (.int .i64 0)), (.v (.int .i64 0)), (.v (.int .i64 0)), (.v (.slice none 0 0)), (.v (.slice none 0 0)), (.v (.slice none 0 0)), (.v (.int .i64 1)), (.v (.string ⟨⟨[]⟩⟩)), (.v (.int .i64 16)), (.v (.slice none 0 0))]])]])]), (.v (.slice none 0 0)), (.agg [(.v (.string ⟨⟨[102]⟩⟩)), (.v (.string ⟨⟨[111]⟩⟩)), (.v (.slice none 0 0)), (.v (.int .i64 0)), (.v (.int .i64 22)), (.v (.int .i64 0)), (.v (.int .i64 2)), (.v (.int .i64 0)), (.v (.int .i64 3)), (.v (.slice none 0 0)), (.v (.slice none 0 0)), (.v (.slice none 0 0)), (.v (.int .i64 0)), (.v (.string ⟨⟨[]⟩⟩)), (.v (.int .i64 0)), (.sl 12 [[(.v (.int .i64 1)), (.v (.int .i64 1)), (.v (.int .i64 0)), (.v (.int .i64 0)), (.v (.int .i64 0)), (.v (.slice none 0 0)), (.v (.slice none 0 0)), (.v (.slice none 0 0)), (.v (.int .i64 2)), (.v (.string ⟨⟨[]⟩⟩)), (.v (.int .i64 4)), (.v (.slice none 0 0))]])]), (.v (.slice none 0 0))]
abbrev wz708 : AV := (.tup [(.agg [(.v (.bool false)), (.v (.int .i64 0)), (.v (.int .i64 0))]), (.v (.int .i64 0))])
abbrev wq708 : Nat × List AV × AV := (39, wx708, wz708)
theorem wr708 : runV Tryz.prog glob tab (cfgF [wq269, wq341, wq676]) 1000000 39 wx708 = some wz708 := by kernel_rfl
theorem wt708 : Pure env.toCx 39 wx708 (.ret wz708) := run_fact (fok1 wt269 (fok1 wt341 (fok1 wt676 fok0))) wr708
abbrev wx709 : List AV := []
abbrev wz709 : AV := (.v (.bool true))
theorem wr709 : runV Tryz.prog glob tab (cfgF [wq112, wq177, wq209, wq256, wq269, wq341, wq440, wq524, wq590, wq591, wq594, wq665, wq708]) 1000000 15 wx709 = some wz709 := by kernel_rfl
theorem wt709 : Pure env.toCx 15 wx709 (.ret wz709) := run_fact (fok1 wt112 (fok1 wt177 (fok1 wt209 (fok1 wt256 (fok1 wt269 (fok1 wt341 (fok1 wt440 (fok1 wt524 (fok1 wt590 (fok1 wt591 (fok1 wt594 (fok1 wt665 (fok1 wt708 fok0))))))))))))) wr709
end Go.Proofs.YtcngmkedekmkhaaGreat
