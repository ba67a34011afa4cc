/-
  Own work, printed by the runner. Closed calls, run in the kernel.
-/
import Derived.Test.YtcngmkedekmkhaaGreatFad4
namespace Go.Proofs.YtcngmkedekmkhaaGreat
open Go Go.Bw
set_option maxRecDepth 1000000

abbrev dx191 : List AV := [(.agg [(.v (.int .i64 (.ofNat 4))), (.v (.int .i64 (.ofNat 0))), (.v (.int .i64 (.ofNat 0))), (.v (.slice none 0 0)), (.v (.slice none 0 0)), (.v (.slice none 0 0))]), (.agg [(.v (.int .i64 (.ofNat 0))), (.sl 1 [[(.v (.string ⟨⟨[97]⟩⟩))], [(.v (.string ⟨⟨[98]⟩⟩))]]), (.v (.slice none 0 0)), (.v (.slice none 0 0))]), (.agg [(.v (.int .i64 (.ofNat 0))), (.sl 1 [[(.v (.string ⟨⟨[98]⟩⟩))]]), (.v (.slice none 0 0)), (.v (.slice none 0 0))])]
abbrev dz191 : AV := (.tup [(.agg [(.v (.int .i64 (.ofNat 0))), (.sl 1 [[(.v (.string ⟨⟨[97]⟩⟩))]]), (.v (.slice none 0 0)), (.v (.slice none 0 0))]), (.v (.int .i64 (.ofNat 0)))])
abbrev dq191 : Nat × List AV × AV := (87, dx191, dz191)
-- own steps 872
theorem dr191 : runV Tryz.prog glob tab (cfgF [dq13, dq178, dq87, dq187, dq188, dq105]) 1000000 87 dx191 = some dz191 := by kernel_rfl
theorem dt191 : Pure env.toCx 87 dx191 (.ret dz191) := run_fact (fok1 dt13 (fok1 dt178 (fok1 dt87 (fok1 dt187 (fok1 dt188 (fok1 dt105 fok0)))))) dr191

abbrev dx192 : List AV := [(.agg [(.v (.int .i64 (.ofNat 4))), (.v (.int .i64 (.ofNat 0))), (.v (.int .i64 (.ofNat 0))), (.v (.slice none 0 0)), (.v (.slice none 0 0)), (.v (.slice none 0 0))]), (.agg [(.v (.string ⟨⟨[102]⟩⟩)), (.v (.string ⟨⟨[111]⟩⟩)), (.v (.slice none 0 0)), (.v (.int .i64 (.ofNat 0))), (.v (.int .i64 (.ofNat 16))), (.v (.int .i64 (.ofNat 0))), (.v (.int .i64 (.ofNat 4))), (.v (.int .i64 (.ofNat 0))), (.v (.int .i64 (.ofNat 0))), (.v (.slice none 0 0)), (.v (.slice none 0 0)), (.v (.slice none 0 0)), (.v (.int .i64 (.ofNat 0))), (.v (.string ⟨⟨[]⟩⟩)), (.v (.int .i64 (.ofNat 2))), (.sl 12 [[(.v (.int .i64 (.ofNat 5))), (.v (.int .i64 (.ofNat 0))), (.v (.int .i64 (.ofNat 4))), (.v (.int .i64 (.ofNat 0))), (.v (.int .i64 (.ofNat 0))), (.v (.slice none 0 0)), (.v (.slice none 0 0)), (.v (.slice none 0 0)), (.v (.int .i64 (.ofNat 0))), (.v (.string ⟨⟨[]⟩⟩)), (.v (.int .i64 (.ofNat 0))), (.v (.slice none 0 0))], [(.v (.int .i64 (.ofNat 23))), (.v (.int .i64 (.ofNat 0))), (.v (.int .i64 (.ofNat 4))), (.v (.int .i64 (.ofNat 0))), (.v (.int .i64 (.ofNat 0))), (.v (.slice none 0 0)), (.v (.slice none 0 0)), (.v (.slice none 0 0)), (.v (.int .i64 (.ofNat 0))), (.v (.string ⟨⟨[]⟩⟩)), (.v (.int .i64 (.ofNat 7))), (.sl 12 [[(.v (.int .i64 (.ofNat 3))), (.v (.int .i64 (.ofNat 3))), (.v (.int .i64 (.ofNat 0))), (.v (.int .i64 (.ofNat 0))), (.v (.int .i64 (.ofNat 0))), (.v (.slice none 0 0)), (.v (.slice none 0 0)), (.v (.slice none 0 0)), (.v (.int .i64 (.ofNat 0))), (.v (.string ⟨⟨[97]⟩⟩)), (.v (.int .i64 (.ofNat 11))), (.v (.slice none 0 0))]])]])]), (.agg [(.v (.int .i64 (.ofNat 0))), (.sl 1 [[(.v (.string ⟨⟨[98]⟩⟩))]]), (.v (.slice none 0 0)), (.v (.slice none 0 0))]), (.v (.slice none 0 0))]
abbrev dz192 : AV := (.tup [(.agg [(.v (.int .i64 (.ofNat 0))), (.sl 1 [[(.v (.string ⟨⟨[97]⟩⟩))]]), (.v (.slice none 0 0)), (.v (.slice none 0 0))]), (.v (.int .i64 (.ofNat 0)))])
abbrev dq192 : Nat × List AV × AV := (47, dx192, dz192)
-- own steps 1234
theorem dr192 : runV Tryz.prog glob tab (cfgF [dq89, dq155, dq97, dq168, dq13, dq178, dq87, dq187, dq188, dq105]) 1000000 47 dx192 = some dz192 := by kernel_rfl
theorem dt192 : Pure env.toCx 47 dx192 (.ret dz192) := run_fact (fok1 dt89 (fok1 dt155 (fok1 dt97 (fok1 dt168 (fok1 dt13 (fok1 dt178 (fok1 dt87 (fok1 dt187 (fok1 dt188 (fok1 dt105 fok0)))))))))) dr192

abbrev dx196 : List AV := [(.agg [(.v (.int .i64 (.ofNat 16))), (.v (.int .i64 (.ofNat 0))), (.v (.int .i64 (.ofNat 4))), (.v (.int .i64 (.ofNat 0))), (.v (.int .i64 (.ofNat 0))), (.v (.slice none 0 0)), (.v (.slice none 0 0)), (.v (.slice none 0 0)), (.v (.int .i64 (.ofNat 0))), (.v (.string ⟨⟨[]⟩⟩)), (.v (.int .i64 (.ofNat 2))), (.sl 12 [[(.v (.int .i64 (.ofNat 5))), (.v (.int .i64 (.ofNat 0))), (.v (.int .i64 (.ofNat 4))), (.v (.int .i64 (.ofNat 0))), (.v (.int .i64 (.ofNat 0))), (.v (.slice none 0 0)), (.v (.slice none 0 0)), (.v (.slice none 0 0)), (.v (.int .i64 (.ofNat 0))), (.v (.string ⟨⟨[]⟩⟩)), (.v (.int .i64 (.ofNat 0))), (.v (.slice none 0 0))], [(.v (.int .i64 (.ofNat 23))), (.v (.int .i64 (.ofNat 0))), (.v (.int .i64 (.ofNat 4))), (.v (.int .i64 (.ofNat 0))), (.v (.int .i64 (.ofNat 0))), (.v (.slice none 0 0)), (.v (.slice none 0 0)), (.v (.slice none 0 0)), (.v (.int .i64 (.ofNat 0))), (.v (.string ⟨⟨[]⟩⟩)), (.v (.int .i64 (.ofNat 7))), (.sl 12 [[(.v (.int .i64 (.ofNat 3))), (.v (.int .i64 (.ofNat 3))), (.v (.int .i64 (.ofNat 0))), (.v (.int .i64 (.ofNat 0))), (.v (.int .i64 (.ofNat 0))), (.v (.slice none 0 0)), (.v (.slice none 0 0)), (.v (.slice none 0 0)), (.v (.int .i64 (.ofNat 0))), (.v (.string ⟨⟨[97]⟩⟩)), (.v (.int .i64 (.ofNat 11))), (.v (.slice none 0 0))]])]])])]
abbrev dz196 : AV := (.v (.int .i64 (.ofNat 4)))
abbrev dq196 : Nat × List AV × AV := (21, dx196, dz196)
-- own steps 89
theorem dr196 : runV Tryz.prog glob tab (cfgF []) 1000000 21 dx196 = some dz196 := by kernel_rfl
theorem dt196 : Pure env.toCx 21 dx196 (.ret dz196) := run_fact fok0 dr196

abbrev dx197 : List AV := []
abbrev dz197 : AV := (.v (.bool true))
abbrev dq197 : Nat × List AV × AV := (20, dx197, dz197)
-- own steps 2476
theorem dr197 : runV Tryz.prog glob tab (cfgF [dq63, dq70, dq89, dq154, dq155, dq97, dq168, dq13, dq178, dq87, dq187, dq188, dq105, dq196]) 1000000 20 dx197 = some dz197 := by kernel_rfl
theorem dt197 : Pure env.toCx 20 dx197 (.ret dz197) := run_fact (fok1 dt63 (fok1 dt70 (fok1 dt89 (fok1 dt154 (fok1 dt155 (fok1 dt97 (fok1 dt168 (fok1 dt13 (fok1 dt178 (fok1 dt87 (fok1 dt187 (fok1 dt188 (fok1 dt105 (fok1 dt196 fok0)))))))))))))) dr197
end Go.Proofs.YtcngmkedekmkhaaGreat
