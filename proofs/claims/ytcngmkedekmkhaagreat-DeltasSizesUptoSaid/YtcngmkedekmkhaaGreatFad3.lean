/-
  Own work, printed by the runner. Closed calls, run in the kernel.
-/
import Derived.Test.YtcngmkedekmkhaaGreatFad2
namespace Go.Proofs.YtcngmkedekmkhaaGreat
open Go Go.Bw
set_option maxRecDepth 1000000

abbrev dx132 : List AV := [(.agg [(.v (.int .i64 (.ofNat 4))), (.v (.int .i64 (.ofNat 0))), (.v (.int .i64 (.ofNat 0))), (.v (.slice none 0 0)), (.v (.slice none 0 0)), (.v (.slice none 0 0))]), (.agg [(.v (.int .i64 (.ofNat 0))), (.sl 1 [[(.v (.string ⟨⟨[97]⟩⟩))]]), (.v (.slice none 0 0)), (.v (.slice none 0 0))]), (.agg [(.v (.int .i64 (.ofNat 0))), (.sl 1 [[(.v (.string ⟨⟨[97]⟩⟩))]]), (.v (.slice none 0 0)), (.v (.slice none 0 0))])]
abbrev dz132 : AV := (.agg [(.v (.int .i64 (.ofNat 0))), (.sl 1 [[(.v (.string ⟨⟨[97]⟩⟩))]]), (.v (.slice none 0 0)), (.v (.slice none 0 0))])
abbrev dq132 : Nat × List AV × AV := (178, dx132, dz132)
-- own steps 435
theorem dr132 : runV Tryz.prog glob tab (cfgF []) 1000000 178 dx132 = some dz132 := by kernel_rfl
theorem dt132 : Pure env.toCx 178 dx132 (.ret dz132) := run_fact fok0 dr132

abbrev dx134 : List AV := [(.agg [(.v (.int .i64 (.ofNat 4))), (.v (.int .i64 (.ofNat 0))), (.v (.int .i64 (.ofNat 0))), (.v (.slice none 0 0)), (.v (.slice none 0 0)), (.v (.slice none 0 0))]), (.agg [(.v (.int .i64 (.ofNat 0))), (.sl 1 [[(.v (.string ⟨⟨[97]⟩⟩))]]), (.v (.slice none 0 0)), (.v (.slice none 0 0))]), (.agg [(.v (.int .i64 (.ofNat 0))), (.sl 1 [[(.v (.string ⟨⟨[97]⟩⟩))]]), (.v (.slice none 0 0)), (.v (.slice none 0 0))])]
abbrev dz134 : AV := (.tup [(.agg [(.v (.int .i64 (.ofNat 0))), (.sl 1 [[(.v (.string ⟨⟨[97]⟩⟩))]]), (.v (.slice none 0 0)), (.v (.slice none 0 0))]), (.v (.int .i64 (.ofNat 0)))])
abbrev dq134 : Nat × List AV × AV := (76, dx134, dz134)
-- own steps 1050
theorem dr134 : runV Tryz.prog glob tab (cfgF [dq13, dq106, dq118]) 1000000 76 dx134 = some dz134 := by kernel_rfl
theorem dt134 : Pure env.toCx 76 dx134 (.ret dz134) := run_fact (fok1 dt13 (fok1 dt106 (fok1 dt118 fok0))) dr134

abbrev dx135 : List AV := [(.agg [(.v (.int .i64 (.ofNat 0))), (.sl 1 [[(.v (.string ⟨⟨[97]⟩⟩))]]), (.v (.slice none 0 0)), (.v (.slice none 0 0)), (.v (.slice none 0 0))]), (.agg [(.v (.int .i64 (.ofNat 16))), (.v (.int .i64 (.ofNat 0))), (.v (.int .i64 (.ofNat 4))), (.v (.int .i64 (.ofNat 0))), (.v (.int .i64 (.ofNat 0))), (.v (.slice none 0 0)), (.v (.slice none 0 0)), (.v (.slice none 0 0)), (.v (.int .i64 (.ofNat 0))), (.v (.string ⟨⟨[]⟩⟩)), (.v (.int .i64 (.ofNat 2))), (.sl 12 [[(.v (.int .i64 (.ofNat 5))), (.v (.int .i64 (.ofNat 0))), (.v (.int .i64 (.ofNat 4))), (.v (.int .i64 (.ofNat 0))), (.v (.int .i64 (.ofNat 0))), (.v (.slice none 0 0)), (.v (.slice none 0 0)), (.v (.slice none 0 0)), (.v (.int .i64 (.ofNat 0))), (.v (.string ⟨⟨[]⟩⟩)), (.v (.int .i64 (.ofNat 0))), (.v (.slice none 0 0))], [(.v (.int .i64 (.ofNat 23))), (.v (.int .i64 (.ofNat 0))), (.v (.int .i64 (.ofNat 4))), (.v (.int .i64 (.ofNat 0))), (.v (.int .i64 (.ofNat 0))), (.v (.slice none 0 0)), (.v (.slice none 0 0)), (.v (.slice none 0 0)), (.v (.int .i64 (.ofNat 0))), (.v (.string ⟨⟨[]⟩⟩)), (.v (.int .i64 (.ofNat 7))), (.sl 12 [[(.v (.int .i64 (.ofNat 3))), (.v (.int .i64 (.ofNat 3))), (.v (.int .i64 (.ofNat 0))), (.v (.int .i64 (.ofNat 0))), (.v (.int .i64 (.ofNat 0))), (.v (.slice none 0 0)), (.v (.slice none 0 0)), (.v (.slice none 0 0)), (.v (.int .i64 (.ofNat 0))), (.v (.string ⟨⟨[97]⟩⟩)), (.v (.int .i64 (.ofNat 11))), (.v (.slice none 0 0))]])]])])]
abbrev dz135 : AV := (.agg [(.v (.int .i64 (.ofNat 0))), (.v (.int .i64 (.ofNat 0))), (.v (.string ⟨⟨[]⟩⟩)), (.v (.slice none 0 0)), (.v (.int .i64 (.ofNat 0))), (.sl 1 [[(.v (.string ⟨⟨[97]⟩⟩))]]), (.v (.slice none 0 0)), (.v (.slice none 0 0))])
abbrev dq135 : Nat × List AV × AV := (91, dx135, dz135)
-- own steps 139
theorem dr135 : runV Tryz.prog glob tab (cfgF [dq115, dq134]) 1000000 91 dx135 = some dz135 := by kernel_rfl
theorem dt135 : Pure env.toCx 91 dx135 (.ret dz135) := run_fact (fok1 dt115 (fok1 dt134 fok0)) dr135

abbrev dx136 : List AV := [(.agg [(.v (.int .i64 (.ofNat 0))), (.sl 1 [[(.v (.string ⟨⟨[97]⟩⟩))]]), (.v (.slice none 0 0)), (.v (.slice none 0 0)), (.v (.slice none 0 0))]), (.agg [(.v (.int .i64 (.ofNat 16))), (.v (.int .i64 (.ofNat 0))), (.v (.int .i64 (.ofNat 4))), (.v (.int .i64 (.ofNat 0))), (.v (.int .i64 (.ofNat 0))), (.v (.slice none 0 0)), (.v (.slice none 0 0)), (.v (.slice none 0 0)), (.v (.int .i64 (.ofNat 0))), (.v (.string ⟨⟨[]⟩⟩)), (.v (.int .i64 (.ofNat 2))), (.sl 12 [[(.v (.int .i64 (.ofNat 5))), (.v (.int .i64 (.ofNat 0))), (.v (.int .i64 (.ofNat 4))), (.v (.int .i64 (.ofNat 0))), (.v (.int .i64 (.ofNat 0))), (.v (.slice none 0 0)), (.v (.slice none 0 0)), (.v (.slice none 0 0)), (.v (.int .i64 (.ofNat 0))), (.v (.string ⟨⟨[]⟩⟩)), (.v (.int .i64 (.ofNat 0))), (.v (.slice none 0 0))], [(.v (.int .i64 (.ofNat 23))), (.v (.int .i64 (.ofNat 0))), (.v (.int .i64 (.ofNat 4))), (.v (.int .i64 (.ofNat 0))), (.v (.int .i64 (.ofNat 0))), (.v (.slice none 0 0)), (.v (.slice none 0 0)), (.v (.slice none 0 0)), (.v (.int .i64 (.ofNat 0))), (.v (.string ⟨⟨[]⟩⟩)), (.v (.int .i64 (.ofNat 7))), (.sl 12 [[(.v (.int .i64 (.ofNat 3))), (.v (.int .i64 (.ofNat 3))), (.v (.int .i64 (.ofNat 0))), (.v (.int .i64 (.ofNat 0))), (.v (.int .i64 (.ofNat 0))), (.v (.slice none 0 0)), (.v (.slice none 0 0)), (.v (.slice none 0 0)), (.v (.int .i64 (.ofNat 0))), (.v (.string ⟨⟨[97]⟩⟩)), (.v (.int .i64 (.ofNat 11))), (.v (.slice none 0 0))]])]])])]
abbrev dz136 : AV := (.agg [(.v (.int .i64 (.ofNat 0))), (.v (.int .i64 (.ofNat 0))), (.v (.string ⟨⟨[]⟩⟩)), (.v (.slice none 0 0)), (.v (.int .i64 (.ofNat 0))), (.sl 1 [[(.v (.string ⟨⟨[97]⟩⟩))]]), (.v (.slice none 0 0)), (.v (.slice none 0 0))])
abbrev dq136 : Nat × List AV × AV := (51, dx136, dz136)
-- own steps 172
theorem dr136 : runV Tryz.prog glob tab (cfgF [dq115, dq134]) 1000000 51 dx136 = some dz136 := by kernel_rfl
theorem dt136 : Pure env.toCx 51 dx136 (.ret dz136) := run_fact (fok1 dt115 (fok1 dt134 fok0)) dr136

abbrev dx137 : List AV := [(.agg [(.v (.int .i64 (.ofNat 16))), (.v (.int .i64 (.ofNat 0))), (.v (.int .i64 (.ofNat 4))), (.v (.int .i64 (.ofNat 0))), (.v (.int .i64 (.ofNat 0))), (.v (.slice none 0 0)), (.v (.slice none 0 0)), (.v (.slice none 0 0)), (.v (.int .i64 (.ofNat 0))), (.v (.string ⟨⟨[]⟩⟩)), (.v (.int .i64 (.ofNat 2))), (.sl 12 [[(.v (.int .i64 (.ofNat 5))), (.v (.int .i64 (.ofNat 0))), (.v (.int .i64 (.ofNat 4))), (.v (.int .i64 (.ofNat 0))), (.v (.int .i64 (.ofNat 0))), (.v (.slice none 0 0)), (.v (.slice none 0 0)), (.v (.slice none 0 0)), (.v (.int .i64 (.ofNat 0))), (.v (.string ⟨⟨[]⟩⟩)), (.v (.int .i64 (.ofNat 0))), (.v (.slice none 0 0))], [(.v (.int .i64 (.ofNat 23))), (.v (.int .i64 (.ofNat 0))), (.v (.int .i64 (.ofNat 4))), (.v (.int .i64 (.ofNat 0))), (.v (.int .i64 (.ofNat 0))), (.v (.slice none 0 0)), (.v (.slice none 0 0)), (.v (.slice none 0 0)), (.v (.int .i64 (.ofNat 0))), (.v (.string ⟨⟨[]⟩⟩)), (.v (.int .i64 (.ofNat 7))), (.sl 12 [[(.v (.int .i64 (.ofNat 3))), (.v (.int .i64 (.ofNat 3))), (.v (.int .i64 (.ofNat 0))), (.v (.int .i64 (.ofNat 0))), (.v (.int .i64 (.ofNat 0))), (.v (.slice none 0 0)), (.v (.slice none 0 0)), (.v (.slice none 0 0)), (.v (.int .i64 (.ofNat 0))), (.v (.string ⟨⟨[97]⟩⟩)), (.v (.int .i64 (.ofNat 11))), (.v (.slice none 0 0))]])]])]), (.agg [(.v (.int .i64 (.ofNat 0))), (.sl 1 [[(.v (.string ⟨⟨[97]⟩⟩))]]), (.v (.slice none 0 0)), (.v (.slice none 0 0))]), (.v (.slice none 0 0))]
abbrev dz137 : AV := (.tup [(.agg [(.v (.int .i64 (.ofNat 0))), (.sl 1 [[(.v (.string ⟨⟨[97]⟩⟩))]]), (.v (.slice none 0 0)), (.v (.slice none 0 0))]), (.v (.int .i64 (.ofNat 0)))])
abbrev dq137 : Nat × List AV × AV := (27, dx137, dz137)
-- own steps 261
theorem dr137 : runV Tryz.prog glob tab (cfgF [dq115, dq134]) 1000000 27 dx137 = some dz137 := by kernel_rfl
theorem dt137 : Pure env.toCx 27 dx137 (.ret dz137) := run_fact (fok1 dt115 (fok1 dt134 fok0)) dr137

abbrev dx138 : List AV := [(.agg [(.v (.int .i64 (.ofNat 4))), (.v (.int .i64 (.ofNat 0))), (.v (.int .i64 (.ofNat 0))), (.v (.slice none 0 0)), (.v (.slice none 0 0)), (.v (.slice none 0 0))]), (.agg [(.v (.string ⟨⟨[102]⟩⟩)), (.v (.string ⟨⟨[111]⟩⟩)), (.v (.slice none 0 0)), (.v (.int .i64 (.ofNat 0))), (.v (.int .i64 (.ofNat 16))), (.v (.int .i64 (.ofNat 0))), (.v (.int .i64 (.ofNat 4))), (.v (.int .i64 (.ofNat 0))), (.v (.int .i64 (.ofNat 0))), (.v (.slice none 0 0)), (.v (.slice none 0 0)), (.v (.slice none 0 0)), (.v (.int .i64 (.ofNat 0))), (.v (.string ⟨⟨[]⟩⟩)), (.v (.int .i64 (.ofNat 2))), (.sl 12 [[(.v (.int .i64 (.ofNat 5))), (.v (.int .i64 (.ofNat 0))), (.v (.int .i64 (.ofNat 4))), (.v (.int .i64 (.ofNat 0))), (.v (.int .i64 (.ofNat 0))), (.v (.slice none 0 0)), (.v (.slice none 0 0)), (.v (.slice none 0 0)), (.v (.int .i64 (.ofNat 0))), (.v (.string ⟨⟨[]⟩⟩)), (.v (.int .i64 (.ofNat 0))), (.v (.slice none 0 0))], [(.v (.int .i64 (.ofNat 23))), (.v (.int .i64 (.ofNat 0))), (.v (.int .i64 (.ofNat 4))), (.v (.int .i64 (.ofNat 0))), (.v (.int .i64 (.ofNat 0))), (.v (.slice none 0 0)), (.v (.slice none 0 0)), (.v (.slice none 0 0)), (.v (.int .i64 (.ofNat 0))), (.v (.string ⟨⟨[]⟩⟩)), (.v (.int .i64 (.ofNat 7))), (.sl 12 [[(.v (.int .i64 (.ofNat 3))), (.v (.int .i64 (.ofNat 3))), (.v (.int .i64 (.ofNat 0))), (.v (.int .i64 (.ofNat 0))), (.v (.int .i64 (.ofNat 0))), (.v (.slice none 0 0)), (.v (.slice none 0 0)), (.v (.slice none 0 0)), (.v (.int .i64 (.ofNat 0))), (.v (.string ⟨⟨[97]⟩⟩)), (.v (.int .i64 (.ofNat 11))), (.v (.slice none 0 0))]])]])]), (.agg [(.v (.int .i64 (.ofNat 0))), (.sl 1 [[(.v (.string ⟨⟨[97]⟩⟩))]]), (.v (.slice none 0 0)), (.v (.slice none 0 0))]), (.v (.slice none 0 0))]
abbrev dz138 : AV := (.tup [(.agg [(.v (.int .i64 (.ofNat 0))), (.sl 1 [[(.v (.string ⟨⟨[97]⟩⟩))]]), (.v (.slice none 0 0)), (.v (.slice none 0 0))]), (.v (.int .i64 (.ofNat 0)))])
abbrev dq138 : Nat × List AV × AV := (24, dx138, dz138)
-- own steps 300
theorem dr138 : runV Tryz.prog glob tab (cfgF [dq108, dq115, dq134]) 1000000 24 dx138 = some dz138 := by kernel_rfl
theorem dt138 : Pure env.toCx 24 dx138 (.ret dz138) := run_fact (fok1 dt108 (fok1 dt115 (fok1 dt134 fok0))) dr138

abbrev dx144 : List AV := [(.agg [(.v (.int .i64 (.ofNat 4))), (.v (.int .i64 (.ofNat 0))), (.v (.int .i64 (.ofNat 0))), (.v (.slice none 0 0)), (.v (.slice none 0 0)), (.v (.slice none 0 0))]), (.agg [(.v (.int .i64 (.ofNat 0))), (.sl 1 [[(.v (.string ⟨⟨[97]⟩⟩))]]), (.v (.slice none 0 0)), (.v (.slice none 0 0))]), (.agg [(.v (.int .i64 (.ofNat 0))), (.sl 1 [[(.v (.string ⟨⟨[97]⟩⟩))]]), (.v (.slice none 0 0)), (.v (.slice none 0 0))])]
abbrev dz144 : AV := (.v (.bool true))
abbrev dq144 : Nat × List AV × AV := (68, dx144, dz144)
-- own steps 146
theorem dr144 : runV Tryz.prog glob tab (cfgF [dq13, dq106]) 1000000 68 dx144 = some dz144 := by kernel_rfl
theorem dt144 : Pure env.toCx 68 dx144 (.ret dz144) := run_fact (fok1 dt13 (fok1 dt106 fok0)) dr144

abbrev dx145 : List AV := [(.agg [(.v (.int .i64 (.ofNat 4))), (.v (.int .i64 (.ofNat 0))), (.v (.int .i64 (.ofNat 0))), (.v (.slice none 0 0)), (.v (.slice none 0 0)), (.v (.slice none 0 0))])]
abbrev dz145 : AV := (.agg [(.v (.int .i64 (.ofNat 0))), (.v (.slice none 0 0)), (.v (.slice none 0 0)), (.v (.slice none 0 0))])
abbrev dq145 : Nat × List AV × AV := (196, dx145, dz145)
-- own steps 21
theorem dr145 : runV Tryz.prog glob tab (cfgF [dq117]) 1000000 196 dx145 = some dz145 := by kernel_rfl
theorem dt145 : Pure env.toCx 196 dx145 (.ret dz145) := run_fact (fok1 dt117 fok0) dr145

abbrev dx146 : List AV := [(.agg [(.v (.int .i64 (.ofNat 4))), (.v (.int .i64 (.ofNat 0))), (.v (.int .i64 (.ofNat 0))), (.v (.slice none 0 0)), (.v (.slice none 0 0)), (.v (.slice none 0 0))]), (.agg [(.v (.int .i64 (.ofNat 0))), (.sl 1 [[(.v (.string ⟨⟨[97]⟩⟩))]]), (.v (.slice none 0 0)), (.v (.slice none 0 0))]), (.agg [(.v (.int .i64 (.ofNat 0))), (.sl 1 [[(.v (.string ⟨⟨[97]⟩⟩))]]), (.v (.slice none 0 0)), (.v (.slice none 0 0))])]
abbrev dz146 : AV := (.agg [(.v (.int .i64 (.ofNat 0))), (.v (.slice none 0 0)), (.v (.slice none 0 0)), (.v (.slice none 0 0))])
abbrev dq146 : Nat × List AV × AV := (128, dx146, dz146)
-- own steps 22
theorem dr146 : runV Tryz.prog glob tab (cfgF [dq144, dq145]) 1000000 128 dx146 = some dz146 := by kernel_rfl
theorem dt146 : Pure env.toCx 128 dx146 (.ret dz146) := run_fact (fok1 dt144 (fok1 dt145 fok0)) dr146

abbrev dx150 : List AV := [(.agg [(.v (.int .i64 (.ofNat 4))), (.v (.int .i64 (.ofNat 0))), (.v (.int .i64 (.ofNat 0))), (.v (.slice none 0 0)), (.v (.slice none 0 0)), (.v (.slice none 0 0))]), (.agg [(.v (.int .i64 (.ofNat 0))), (.v (.slice none 0 0)), (.v (.slice none 0 0)), (.v (.slice none 0 0))])]
abbrev dz150 : AV := (.tup [(.sl 1 [[(.v (.int .u8 (.ofNat 0)))]]), (.v (.int .i64 (.ofNat 0)))])
abbrev dq150 : Nat × List AV × AV := (127, dx150, dz150)
-- own steps 150
theorem dr150 : runV Tryz.prog glob tab (cfgF [dq13]) 1000000 127 dx150 = some dz150 := by kernel_rfl
theorem dt150 : Pure env.toCx 127 dx150 (.ret dz150) := run_fact (fok1 dt13 fok0) dr150

abbrev dx152 : List AV := [(.agg [(.v (.int .i64 (.ofNat 4))), (.v (.int .i64 (.ofNat 0))), (.v (.int .i64 (.ofNat 0))), (.v (.slice none 0 0)), (.v (.slice none 0 0)), (.v (.slice none 0 0))]), (.sl 1 [[(.v (.int .u8 (.ofNat 0)))]])]
abbrev dz152 : AV := (.tup [(.agg [(.v (.int .i64 (.ofNat 0))), (.v (.slice none 0 0)), (.v (.slice none 0 0)), (.v (.slice none 0 0))]), (.v (.int .i64 (.ofNat 0)))])
abbrev dq152 : Nat × List AV × AV := (129, dx152, dz152)
-- own steps 415
theorem dr152 : runV Tryz.prog glob tab (cfgF [dq13]) 1000000 129 dx152 = some dz152 := by kernel_rfl
theorem dt152 : Pure env.toCx 129 dx152 (.ret dz152) := run_fact (fok1 dt13 fok0) dr152

abbrev dx153 : List AV := [(.agg [(.v (.int .i64 (.ofNat 4))), (.v (.int .i64 (.ofNat 0))), (.v (.int .i64 (.ofNat 0))), (.v (.slice none 0 0)), (.v (.slice none 0 0)), (.v (.slice none 0 0))]), (.agg [(.v (.int .i64 (.ofNat 0))), (.sl 1 [[(.v (.string ⟨⟨[97]⟩⟩))]]), (.v (.slice none 0 0)), (.v (.slice none 0 0))]), (.agg [(.v (.int .i64 (.ofNat 0))), (.sl 1 [[(.v (.string ⟨⟨[97]⟩⟩))]]), (.v (.slice none 0 0)), (.v (.slice none 0 0))])]
abbrev dz153 : AV := (.tup [(.agg [(.v (.int .i64 (.ofNat 0))), (.v (.slice none 0 0)), (.v (.slice none 0 0)), (.v (.slice none 0 0))]), (.v (.int .i64 (.ofNat 0)))])
abbrev dq153 : Nat × List AV × AV := (87, dx153, dz153)
-- own steps 148
theorem dr153 : runV Tryz.prog glob tab (cfgF [dq13, dq106, dq146, dq150, dq152]) 1000000 87 dx153 = some dz153 := by kernel_rfl
theorem dt153 : Pure env.toCx 87 dx153 (.ret dz153) := run_fact (fok1 dt13 (fok1 dt106 (fok1 dt146 (fok1 dt150 (fok1 dt152 fok0))))) dr153

abbrev dx154 : List AV := [(.agg [(.v (.int .i64 (.ofNat 4))), (.v (.int .i64 (.ofNat 0))), (.v (.int .i64 (.ofNat 0))), (.v (.slice none 0 0)), (.v (.slice none 0 0)), (.v (.slice none 0 0))]), (.agg [(.v (.string ⟨⟨[102]⟩⟩)), (.v (.string ⟨⟨[111]⟩⟩)), (.v (.slice none 0 0)), (.v (.int .i64 (.ofNat 0))), (.v (.int .i64 (.ofNat 16))), (.v (.int .i64 (.ofNat 0))), (.v (.int .i64 (.ofNat 4))), (.v (.int .i64 (.ofNat 0))), (.v (.int .i64 (.ofNat 0))), (.v (.slice none 0 0)), (.v (.slice none 0 0)), (.v (.slice none 0 0)), (.v (.int .i64 (.ofNat 0))), (.v (.string ⟨⟨[]⟩⟩)), (.v (.int .i64 (.ofNat 2))), (.sl 12 [[(.v (.int .i64 (.ofNat 5))), (.v (.int .i64 (.ofNat 0))), (.v (.int .i64 (.ofNat 4))), (.v (.int .i64 (.ofNat 0))), (.v (.int .i64 (.ofNat 0))), (.v (.slice none 0 0)), (.v (.slice none 0 0)), (.v (.slice none 0 0)), (.v (.int .i64 (.ofNat 0))), (.v (.string ⟨⟨[]⟩⟩)), (.v (.int .i64 (.ofNat 0))), (.v (.slice none 0 0))], [(.v (.int .i64 (.ofNat 23))), (.v (.int .i64 (.ofNat 0))), (.v (.int .i64 (.ofNat 4))), (.v (.int .i64 (.ofNat 0))), (.v (.int .i64 (.ofNat 0))), (.v (.slice none 0 0)), (.v (.slice none 0 0)), (.v (.slice none 0 0)), (.v (.int .i64 (.ofNat 0))), (.v (.string ⟨⟨[]⟩⟩)), (.v (.int .i64 (.ofNat 7))), (.sl 12 [[(.v (.int .i64 (.ofNat 3))), (.v (.int .i64 (.ofNat 3))), (.v (.int .i64 (.ofNat 0))), (.v (.int .i64 (.ofNat 0))), (.v (.int .i64 (.ofNat 0))), (.v (.slice none 0 0)), (.v (.slice none 0 0)), (.v (.slice none 0 0)), (.v (.int .i64 (.ofNat 0))), (.v (.string ⟨⟨[97]⟩⟩)), (.v (.int .i64 (.ofNat 11))), (.v (.slice none 0 0))]])]])]), (.agg [(.v (.int .i64 (.ofNat 0))), (.sl 1 [[(.v (.string ⟨⟨[97]⟩⟩))]]), (.v (.slice none 0 0)), (.v (.slice none 0 0))]), (.v (.slice none 0 0))]
abbrev dz154 : AV := (.tup [(.agg [(.v (.int .i64 (.ofNat 0))), (.v (.slice none 0 0)), (.v (.slice none 0 0)), (.v (.slice none 0 0))]), (.v (.int .i64 (.ofNat 0)))])
abbrev dq154 : Nat × List AV × AV := (47, dx154, dz154)
-- own steps 360
theorem dr154 : runV Tryz.prog glob tab (cfgF [dq107, dq108, dq115, dq134, dq153]) 1000000 47 dx154 = some dz154 := by kernel_rfl
theorem dt154 : Pure env.toCx 47 dx154 (.ret dz154) := run_fact (fok1 dt107 (fok1 dt108 (fok1 dt115 (fok1 dt134 (fok1 dt153 fok0))))) dr154

abbrev dx155 : List AV := [(.agg [(.v (.int .i64 (.ofNat 4))), (.v (.int .i64 (.ofNat 0))), (.v (.int .i64 (.ofNat 0))), (.v (.slice none 0 0)), (.v (.slice none 0 0)), (.v (.slice none 0 0))]), (.agg [(.v (.string ⟨⟨[102]⟩⟩)), (.v (.string ⟨⟨[111]⟩⟩)), (.v (.slice none 0 0)), (.v (.int .i64 (.ofNat 0))), (.v (.int .i64 (.ofNat 16))), (.v (.int .i64 (.ofNat 0))), (.v (.int .i64 (.ofNat 4))), (.v (.int .i64 (.ofNat 0))), (.v (.int .i64 (.ofNat 0))), (.v (.slice none 0 0)), (.v (.slice none 0 0)), (.v (.slice none 0 0)), (.v (.int .i64 (.ofNat 0))), (.v (.string ⟨⟨[]⟩⟩)), (.v (.int .i64 (.ofNat 2))), (.sl 12 [[(.v (.int .i64 (.ofNat 5))), (.v (.int .i64 (.ofNat 0))), (.v (.int .i64 (.ofNat 4))), (.v (.int .i64 (.ofNat 0))), (.v (.int .i64 (.ofNat 0))), (.v (.slice none 0 0)), (.v (.slice none 0 0)), (.v (.slice none 0 0)), (.v (.int .i64 (.ofNat 0))), (.v (.string ⟨⟨[]⟩⟩)), (.v (.int .i64 (.ofNat 0))), (.v (.slice none 0 0))], [(.v (.int .i64 (.ofNat 23))), (.v (.int .i64 (.ofNat 0))), (.v (.int .i64 (.ofNat 4))), (.v (.int .i64 (.ofNat 0))), (.v (.int .i64 (.ofNat 0))), (.v (.slice none 0 0)), (.v (.slice none 0 0)), (.v (.slice none 0 0)), (.v (.int .i64 (.ofNat 0))), (.v (.string ⟨⟨[]⟩⟩)), (.v (.int .i64 (.ofNat 7))), (.sl 12 [[(.v (.int .i64 (.ofNat 3))), (.v (.int .i64 (.ofNat 3))), (.v (.int .i64 (.ofNat 0))), (.v (.int .i64 (.ofNat 0))), (.v (.int .i64 (.ofNat 0))), (.v (.slice none 0 0)), (.v (.slice none 0 0)), (.v (.slice none 0 0)), (.v (.int .i64 (.ofNat 0))), (.v (.string ⟨⟨[97]⟩⟩)), (.v (.int .i64 (.ofNat 11))), (.v (.slice none 0 0))]])]])]), (.v (.bool true)), (.agg [(.v (.int .i64 (.ofNat 0))), (.sl 1 [[(.v (.string ⟨⟨[98]⟩⟩))]]), (.v (.slice none 0 0)), (.v (.slice none 0 0))]), (.v (.slice none 0 0))]
abbrev dz155 : AV := (.v (.int .i64 (.ofNat 0)))
abbrev dq155 : Nat × List AV × AV := (49, dx155, dz155)
-- own steps 47
theorem dr155 : runV Tryz.prog glob tab (cfgF [dq63, dq87]) 1000000 49 dx155 = some dz155 := by kernel_rfl
theorem dt155 : Pure env.toCx 49 dx155 (.ret dz155) := run_fact (fok1 dt63 (fok1 dt87 fok0)) dr155

abbrev dx160 : List AV := [(.v (.slice none 0 0)), (.sl 1 [[(.v (.string ⟨⟨[98]⟩⟩))]]), (.v (.bool true)), (.v (.bool true)), (.v (.bool true))]
abbrev dz160 : AV := (.sl 1 [[(.v (.string ⟨⟨[98]⟩⟩))]])
abbrev dq160 : Nat × List AV × AV := (316, dx160, dz160)
-- own steps 257
theorem dr160 : runV Tryz.prog glob tab (cfgF []) 1000000 316 dx160 = some dz160 := by kernel_rfl
theorem dt160 : Pure env.toCx 316 dx160 (.ret dz160) := run_fact fok0 dr160

abbrev dx161 : List AV := [(.v (.slice none 0 0)), (.sl 1 [[(.v (.string ⟨⟨[98]⟩⟩))]])]
abbrev dz161 : AV := (.sl 1 [[(.v (.string ⟨⟨[98]⟩⟩))]])
abbrev dq161 : Nat × List AV × AV := (257, dx161, dz161)
-- own steps 270
theorem dr161 : runV Tryz.prog glob tab (cfgF []) 1000000 257 dx161 = some dz161 := by kernel_rfl
theorem dt161 : Pure env.toCx 257 dx161 (.ret dz161) := run_fact fok0 dr161

abbrev dx162 : List AV := [(.agg [(.v (.int .i64 (.ofNat 4))), (.v (.int .i64 (.ofNat 0))), (.v (.int .i64 (.ofNat 0))), (.v (.slice none 0 0)), (.v (.slice none 0 0)), (.v (.slice none 0 0))]), (.agg [(.v (.int .i64 (.ofNat 0))), (.v (.slice none 0 0)), (.v (.slice none 0 0)), (.v (.slice none 0 0))]), (.agg [(.v (.int .i64 (.ofNat 0))), (.sl 1 [[(.v (.string ⟨⟨[98]⟩⟩))]]), (.v (.slice none 0 0)), (.v (.slice none 0 0))])]
abbrev dz162 : AV := (.agg [(.v (.int .i64 (.ofNat 0))), (.sl 1 [[(.v (.string ⟨⟨[98]⟩⟩))]]), (.v (.slice none 0 0)), (.v (.slice none 0 0))])
abbrev dq162 : Nat × List AV × AV := (178, dx162, dz162)
-- own steps 303
theorem dr162 : runV Tryz.prog glob tab (cfgF []) 1000000 178 dx162 = some dz162 := by kernel_rfl
theorem dt162 : Pure env.toCx 178 dx162 (.ret dz162) := run_fact fok0 dr162

abbrev dx163 : List AV := [(.sl 1 [[(.v (.string ⟨⟨[98]⟩⟩))]]), (.sl 1 [[(.v (.string ⟨⟨[97]⟩⟩))]]), (.v (.bool true)), (.v (.bool true)), (.v (.bool true))]
abbrev dz163 : AV := (.sl 1 [[(.v (.string ⟨⟨[97]⟩⟩))], [(.v (.string ⟨⟨[98]⟩⟩))]])
abbrev dq163 : Nat × List AV × AV := (316, dx163, dz163)
-- own steps 447
theorem dr163 : runV Tryz.prog glob tab (cfgF []) 1000000 316 dx163 = some dz163 := by kernel_rfl
theorem dt163 : Pure env.toCx 316 dx163 (.ret dz163) := run_fact fok0 dr163
end Go.Proofs.YtcngmkedekmkhaaGreat
