/-
  Own work, printed by the runner. Closed calls, run in the kernel.
-/
import Derived.Test.YtcngmkedekmkhaaGreatFad3
namespace Go.Proofs.YtcngmkedekmkhaaGreat
open Go Go.Bw
set_option maxRecDepth 1000000

abbrev dx164 : List AV := [(.sl 1 [[(.v (.string ⟨⟨[98]⟩⟩))]]), (.sl 1 [[(.v (.string ⟨⟨[97]⟩⟩))]])]
abbrev dz164 : AV := (.sl 1 [[(.v (.string ⟨⟨[97]⟩⟩))], [(.v (.string ⟨⟨[98]⟩⟩))]])
abbrev dq164 : Nat × List AV × AV := (257, dx164, dz164)
-- own steps 460
theorem dr164 : runV Tryz.prog glob tab (cfgF []) 1000000 257 dx164 = some dz164 := by kernel_rfl
theorem dt164 : Pure env.toCx 257 dx164 (.ret dz164) := run_fact fok0 dr164

abbrev dx165 : List AV := [(.agg [(.v (.int .i64 (.ofNat 4))), (.v (.int .i64 (.ofNat 0))), (.v (.int .i64 (.ofNat 0))), (.v (.slice none 0 0)), (.v (.slice none 0 0)), (.v (.slice none 0 0))]), (.agg [(.v (.int .i64 (.ofNat 0))), (.sl 1 [[(.v (.string ⟨⟨[98]⟩⟩))]]), (.v (.slice none 0 0)), (.v (.slice none 0 0))]), (.agg [(.v (.int .i64 (.ofNat 0))), (.sl 1 [[(.v (.string ⟨⟨[97]⟩⟩))]]), (.v (.slice none 0 0)), (.v (.slice none 0 0))])]
abbrev dz165 : AV := (.agg [(.v (.int .i64 (.ofNat 0))), (.sl 1 [[(.v (.string ⟨⟨[97]⟩⟩))], [(.v (.string ⟨⟨[98]⟩⟩))]]), (.v (.slice none 0 0)), (.v (.slice none 0 0))])
abbrev dq165 : Nat × List AV × AV := (178, dx165, dz165)
-- own steps 493
theorem dr165 : runV Tryz.prog glob tab (cfgF []) 1000000 178 dx165 = some dz165 := by kernel_rfl
theorem dt165 : Pure env.toCx 178 dx165 (.ret dz165) := run_fact fok0 dr165

abbrev dx168 : List AV := [(.agg [(.v (.int .i64 (.ofNat 4))), (.v (.int .i64 (.ofNat 0))), (.v (.int .i64 (.ofNat 0))), (.v (.slice none 0 0)), (.v (.slice none 0 0)), (.v (.slice none 0 0))]), (.agg [(.v (.int .i64 (.ofNat 0))), (.sl 1 [[(.v (.string ⟨⟨[98]⟩⟩))]]), (.v (.slice none 0 0)), (.v (.slice none 0 0))]), (.agg [(.v (.int .i64 (.ofNat 0))), (.sl 1 [[(.v (.string ⟨⟨[97]⟩⟩))]]), (.v (.slice none 0 0)), (.v (.slice none 0 0))])]
abbrev dz168 : AV := (.tup [(.agg [(.v (.int .i64 (.ofNat 0))), (.sl 1 [[(.v (.string ⟨⟨[97]⟩⟩))], [(.v (.string ⟨⟨[98]⟩⟩))]]), (.v (.slice none 0 0)), (.v (.slice none 0 0))]), (.v (.int .i64 (.ofNat 0)))])
abbrev dq168 : Nat × List AV × AV := (76, dx168, dz168)
-- own steps 1108
theorem dr168 : runV Tryz.prog glob tab (cfgF [dq13, dq87, dq106, dq118]) 1000000 76 dx168 = some dz168 := by kernel_rfl
theorem dt168 : Pure env.toCx 76 dx168 (.ret dz168) := run_fact (fok1 dt13 (fok1 dt87 (fok1 dt106 (fok1 dt118 fok0)))) dr168

abbrev dx169 : List AV := [(.agg [(.v (.int .i64 (.ofNat 0))), (.sl 1 [[(.v (.string ⟨⟨[98]⟩⟩))]]), (.v (.slice none 0 0)), (.v (.slice none 0 0)), (.v (.slice none 0 0))]), (.agg [(.v (.int .i64 (.ofNat 16))), (.v (.int .i64 (.ofNat 0))), (.v (.int .i64 (.ofNat 4))), (.v (.int .i64 (.ofNat 0))), (.v (.int .i64 (.ofNat 0))), (.v (.slice none 0 0)), (.v (.slice none 0 0)), (.v (.slice none 0 0)), (.v (.int .i64 (.ofNat 0))), (.v (.string ⟨⟨[]⟩⟩)), (.v (.int .i64 (.ofNat 2))), (.sl 12 [[(.v (.int .i64 (.ofNat 5))), (.v (.int .i64 (.ofNat 0))), (.v (.int .i64 (.ofNat 4))), (.v (.int .i64 (.ofNat 0))), (.v (.int .i64 (.ofNat 0))), (.v (.slice none 0 0)), (.v (.slice none 0 0)), (.v (.slice none 0 0)), (.v (.int .i64 (.ofNat 0))), (.v (.string ⟨⟨[]⟩⟩)), (.v (.int .i64 (.ofNat 0))), (.v (.slice none 0 0))], [(.v (.int .i64 (.ofNat 23))), (.v (.int .i64 (.ofNat 0))), (.v (.int .i64 (.ofNat 4))), (.v (.int .i64 (.ofNat 0))), (.v (.int .i64 (.ofNat 0))), (.v (.slice none 0 0)), (.v (.slice none 0 0)), (.v (.slice none 0 0)), (.v (.int .i64 (.ofNat 0))), (.v (.string ⟨⟨[]⟩⟩)), (.v (.int .i64 (.ofNat 7))), (.sl 12 [[(.v (.int .i64 (.ofNat 3))), (.v (.int .i64 (.ofNat 3))), (.v (.int .i64 (.ofNat 0))), (.v (.int .i64 (.ofNat 0))), (.v (.int .i64 (.ofNat 0))), (.v (.slice none 0 0)), (.v (.slice none 0 0)), (.v (.slice none 0 0)), (.v (.int .i64 (.ofNat 0))), (.v (.string ⟨⟨[97]⟩⟩)), (.v (.int .i64 (.ofNat 11))), (.v (.slice none 0 0))]])]])])]
abbrev dz169 : AV := (.agg [(.v (.int .i64 (.ofNat 0))), (.v (.int .i64 (.ofNat 0))), (.v (.string ⟨⟨[]⟩⟩)), (.v (.slice none 0 0)), (.v (.int .i64 (.ofNat 0))), (.sl 1 [[(.v (.string ⟨⟨[97]⟩⟩))], [(.v (.string ⟨⟨[98]⟩⟩))]]), (.v (.slice none 0 0)), (.v (.slice none 0 0))])
abbrev dq169 : Nat × List AV × AV := (91, dx169, dz169)
-- own steps 139
theorem dr169 : runV Tryz.prog glob tab (cfgF [dq97, dq168]) 1000000 91 dx169 = some dz169 := by kernel_rfl
theorem dt169 : Pure env.toCx 91 dx169 (.ret dz169) := run_fact (fok1 dt97 (fok1 dt168 fok0)) dr169

abbrev dx170 : List AV := [(.agg [(.v (.int .i64 (.ofNat 0))), (.sl 1 [[(.v (.string ⟨⟨[98]⟩⟩))]]), (.v (.slice none 0 0)), (.v (.slice none 0 0)), (.v (.slice none 0 0))]), (.agg [(.v (.int .i64 (.ofNat 16))), (.v (.int .i64 (.ofNat 0))), (.v (.int .i64 (.ofNat 4))), (.v (.int .i64 (.ofNat 0))), (.v (.int .i64 (.ofNat 0))), (.v (.slice none 0 0)), (.v (.slice none 0 0)), (.v (.slice none 0 0)), (.v (.int .i64 (.ofNat 0))), (.v (.string ⟨⟨[]⟩⟩)), (.v (.int .i64 (.ofNat 2))), (.sl 12 [[(.v (.int .i64 (.ofNat 5))), (.v (.int .i64 (.ofNat 0))), (.v (.int .i64 (.ofNat 4))), (.v (.int .i64 (.ofNat 0))), (.v (.int .i64 (.ofNat 0))), (.v (.slice none 0 0)), (.v (.slice none 0 0)), (.v (.slice none 0 0)), (.v (.int .i64 (.ofNat 0))), (.v (.string ⟨⟨[]⟩⟩)), (.v (.int .i64 (.ofNat 0))), (.v (.slice none 0 0))], [(.v (.int .i64 (.ofNat 23))), (.v (.int .i64 (.ofNat 0))), (.v (.int .i64 (.ofNat 4))), (.v (.int .i64 (.ofNat 0))), (.v (.int .i64 (.ofNat 0))), (.v (.slice none 0 0)), (.v (.slice none 0 0)), (.v (.slice none 0 0)), (.v (.int .i64 (.ofNat 0))), (.v (.string ⟨⟨[]⟩⟩)), (.v (.int .i64 (.ofNat 7))), (.sl 12 [[(.v (.int .i64 (.ofNat 3))), (.v (.int .i64 (.ofNat 3))), (.v (.int .i64 (.ofNat 0))), (.v (.int .i64 (.ofNat 0))), (.v (.int .i64 (.ofNat 0))), (.v (.slice none 0 0)), (.v (.slice none 0 0)), (.v (.slice none 0 0)), (.v (.int .i64 (.ofNat 0))), (.v (.string ⟨⟨[97]⟩⟩)), (.v (.int .i64 (.ofNat 11))), (.v (.slice none 0 0))]])]])])]
abbrev dz170 : AV := (.agg [(.v (.int .i64 (.ofNat 0))), (.v (.int .i64 (.ofNat 0))), (.v (.string ⟨⟨[]⟩⟩)), (.v (.slice none 0 0)), (.v (.int .i64 (.ofNat 0))), (.sl 1 [[(.v (.string ⟨⟨[97]⟩⟩))], [(.v (.string ⟨⟨[98]⟩⟩))]]), (.v (.slice none 0 0)), (.v (.slice none 0 0))])
abbrev dq170 : Nat × List AV × AV := (51, dx170, dz170)
-- own steps 172
theorem dr170 : runV Tryz.prog glob tab (cfgF [dq97, dq168]) 1000000 51 dx170 = some dz170 := by kernel_rfl
theorem dt170 : Pure env.toCx 51 dx170 (.ret dz170) := run_fact (fok1 dt97 (fok1 dt168 fok0)) dr170

abbrev dx172 : List AV := [(.agg [(.v (.int .i64 (.ofNat 16))), (.v (.int .i64 (.ofNat 0))), (.v (.int .i64 (.ofNat 4))), (.v (.int .i64 (.ofNat 0))), (.v (.int .i64 (.ofNat 0))), (.v (.slice none 0 0)), (.v (.slice none 0 0)), (.v (.slice none 0 0)), (.v (.int .i64 (.ofNat 0))), (.v (.string ⟨⟨[]⟩⟩)), (.v (.int .i64 (.ofNat 2))), (.sl 12 [[(.v (.int .i64 (.ofNat 5))), (.v (.int .i64 (.ofNat 0))), (.v (.int .i64 (.ofNat 4))), (.v (.int .i64 (.ofNat 0))), (.v (.int .i64 (.ofNat 0))), (.v (.slice none 0 0)), (.v (.slice none 0 0)), (.v (.slice none 0 0)), (.v (.int .i64 (.ofNat 0))), (.v (.string ⟨⟨[]⟩⟩)), (.v (.int .i64 (.ofNat 0))), (.v (.slice none 0 0))], [(.v (.int .i64 (.ofNat 23))), (.v (.int .i64 (.ofNat 0))), (.v (.int .i64 (.ofNat 4))), (.v (.int .i64 (.ofNat 0))), (.v (.int .i64 (.ofNat 0))), (.v (.slice none 0 0)), (.v (.slice none 0 0)), (.v (.slice none 0 0)), (.v (.int .i64 (.ofNat 0))), (.v (.string ⟨⟨[]⟩⟩)), (.v (.int .i64 (.ofNat 7))), (.sl 12 [[(.v (.int .i64 (.ofNat 3))), (.v (.int .i64 (.ofNat 3))), (.v (.int .i64 (.ofNat 0))), (.v (.int .i64 (.ofNat 0))), (.v (.int .i64 (.ofNat 0))), (.v (.slice none 0 0)), (.v (.slice none 0 0)), (.v (.slice none 0 0)), (.v (.int .i64 (.ofNat 0))), (.v (.string ⟨⟨[97]⟩⟩)), (.v (.int .i64 (.ofNat 11))), (.v (.slice none 0 0))]])]])]), (.agg [(.v (.int .i64 (.ofNat 0))), (.sl 1 [[(.v (.string ⟨⟨[98]⟩⟩))]]), (.v (.slice none 0 0)), (.v (.slice none 0 0))]), (.v (.slice none 0 0))]
abbrev dz172 : AV := (.tup [(.agg [(.v (.int .i64 (.ofNat 0))), (.sl 1 [[(.v (.string ⟨⟨[97]⟩⟩))], [(.v (.string ⟨⟨[98]⟩⟩))]]), (.v (.slice none 0 0)), (.v (.slice none 0 0))]), (.v (.int .i64 (.ofNat 0)))])
abbrev dq172 : Nat × List AV × AV := (27, dx172, dz172)
-- own steps 261
theorem dr172 : runV Tryz.prog glob tab (cfgF [dq97, dq168]) 1000000 27 dx172 = some dz172 := by kernel_rfl
theorem dt172 : Pure env.toCx 27 dx172 (.ret dz172) := run_fact (fok1 dt97 (fok1 dt168 fok0)) dr172

abbrev dx173 : List AV := [(.agg [(.v (.int .i64 (.ofNat 4))), (.v (.int .i64 (.ofNat 0))), (.v (.int .i64 (.ofNat 0))), (.v (.slice none 0 0)), (.v (.slice none 0 0)), (.v (.slice none 0 0))]), (.agg [(.v (.string ⟨⟨[102]⟩⟩)), (.v (.string ⟨⟨[111]⟩⟩)), (.v (.slice none 0 0)), (.v (.int .i64 (.ofNat 0))), (.v (.int .i64 (.ofNat 16))), (.v (.int .i64 (.ofNat 0))), (.v (.int .i64 (.ofNat 4))), (.v (.int .i64 (.ofNat 0))), (.v (.int .i64 (.ofNat 0))), (.v (.slice none 0 0)), (.v (.slice none 0 0)), (.v (.slice none 0 0)), (.v (.int .i64 (.ofNat 0))), (.v (.string ⟨⟨[]⟩⟩)), (.v (.int .i64 (.ofNat 2))), (.sl 12 [[(.v (.int .i64 (.ofNat 5))), (.v (.int .i64 (.ofNat 0))), (.v (.int .i64 (.ofNat 4))), (.v (.int .i64 (.ofNat 0))), (.v (.int .i64 (.ofNat 0))), (.v (.slice none 0 0)), (.v (.slice none 0 0)), (.v (.slice none 0 0)), (.v (.int .i64 (.ofNat 0))), (.v (.string ⟨⟨[]⟩⟩)), (.v (.int .i64 (.ofNat 0))), (.v (.slice none 0 0))], [(.v (.int .i64 (.ofNat 23))), (.v (.int .i64 (.ofNat 0))), (.v (.int .i64 (.ofNat 4))), (.v (.int .i64 (.ofNat 0))), (.v (.int .i64 (.ofNat 0))), (.v (.slice none 0 0)), (.v (.slice none 0 0)), (.v (.slice none 0 0)), (.v (.int .i64 (.ofNat 0))), (.v (.string ⟨⟨[]⟩⟩)), (.v (.int .i64 (.ofNat 7))), (.sl 12 [[(.v (.int .i64 (.ofNat 3))), (.v (.int .i64 (.ofNat 3))), (.v (.int .i64 (.ofNat 0))), (.v (.int .i64 (.ofNat 0))), (.v (.int .i64 (.ofNat 0))), (.v (.slice none 0 0)), (.v (.slice none 0 0)), (.v (.slice none 0 0)), (.v (.int .i64 (.ofNat 0))), (.v (.string ⟨⟨[97]⟩⟩)), (.v (.int .i64 (.ofNat 11))), (.v (.slice none 0 0))]])]])]), (.agg [(.v (.int .i64 (.ofNat 0))), (.sl 1 [[(.v (.string ⟨⟨[98]⟩⟩))]]), (.v (.slice none 0 0)), (.v (.slice none 0 0))]), (.v (.slice none 0 0))]
abbrev dz173 : AV := (.tup [(.agg [(.v (.int .i64 (.ofNat 0))), (.sl 1 [[(.v (.string ⟨⟨[97]⟩⟩))], [(.v (.string ⟨⟨[98]⟩⟩))]]), (.v (.slice none 0 0)), (.v (.slice none 0 0))]), (.v (.int .i64 (.ofNat 0)))])
abbrev dq173 : Nat × List AV × AV := (24, dx173, dz173)
-- own steps 300
theorem dr173 : runV Tryz.prog glob tab (cfgF [dq155, dq97, dq168]) 1000000 24 dx173 = some dz173 := by kernel_rfl
theorem dt173 : Pure env.toCx 24 dx173 (.ret dz173) := run_fact (fok1 dt155 (fok1 dt97 (fok1 dt168 fok0))) dr173

abbrev dx176 : List AV := [(.v (.slice none 0 0)), (.sl 1 [[(.v (.string ⟨⟨[97]⟩⟩))], [(.v (.string ⟨⟨[98]⟩⟩))]])]
abbrev dz176 : AV := (.v (.bool true))
abbrev dq176 : Nat × List AV × AV := (203, dx176, dz176)
-- own steps 123
theorem dr176 : runV Tryz.prog glob tab (cfgF []) 1000000 203 dx176 = some dz176 := by kernel_rfl
theorem dt176 : Pure env.toCx 203 dx176 (.ret dz176) := run_fact fok0 dr176

abbrev dx177 : List AV := [(.agg [(.v (.int .i64 (.ofNat 4))), (.v (.int .i64 (.ofNat 0))), (.v (.int .i64 (.ofNat 0))), (.v (.slice none 0 0)), (.v (.slice none 0 0)), (.v (.slice none 0 0))]), (.agg [(.v (.int .i64 (.ofNat 0))), (.sl 1 [[(.v (.string ⟨⟨[97]⟩⟩))], [(.v (.string ⟨⟨[98]⟩⟩))]]), (.v (.slice none 0 0)), (.v (.slice none 0 0))])]
abbrev dz177 : AV := (.v (.bool true))
abbrev dq177 : Nat × List AV × AV := (130, dx177, dz177)
-- own steps 55
theorem dr177 : runV Tryz.prog glob tab (cfgF [dq176]) 1000000 130 dx177 = some dz177 := by kernel_rfl
theorem dt177 : Pure env.toCx 130 dx177 (.ret dz177) := run_fact (fok1 dt176 fok0) dr177

abbrev dx178 : List AV := [(.agg [(.v (.int .i64 (.ofNat 4))), (.v (.int .i64 (.ofNat 0))), (.v (.int .i64 (.ofNat 0))), (.v (.slice none 0 0)), (.v (.slice none 0 0)), (.v (.slice none 0 0))]), (.agg [(.v (.int .i64 (.ofNat 0))), (.sl 1 [[(.v (.string ⟨⟨[97]⟩⟩))], [(.v (.string ⟨⟨[98]⟩⟩))]]), (.v (.slice none 0 0)), (.v (.slice none 0 0))])]
abbrev dz178 : AV := (.v (.bool true))
abbrev dq178 : Nat × List AV × AV := (88, dx178, dz178)
-- own steps 21
theorem dr178 : runV Tryz.prog glob tab (cfgF [dq13, dq177]) 1000000 88 dx178 = some dz178 := by kernel_rfl
theorem dt178 : Pure env.toCx 88 dx178 (.ret dz178) := run_fact (fok1 dt13 (fok1 dt177 fok0)) dr178

abbrev dx184 : List AV := [(.agg [(.v (.int .i64 (.ofNat 4))), (.v (.int .i64 (.ofNat 0))), (.v (.int .i64 (.ofNat 0))), (.v (.slice none 0 0)), (.v (.slice none 0 0)), (.v (.slice none 0 0))]), (.agg [(.v (.int .i64 (.ofNat 0))), (.sl 1 [[(.v (.string ⟨⟨[97]⟩⟩))], [(.v (.string ⟨⟨[98]⟩⟩))]]), (.v (.slice none 0 0)), (.v (.slice none 0 0))]), (.agg [(.v (.int .i64 (.ofNat 0))), (.sl 1 [[(.v (.string ⟨⟨[98]⟩⟩))]]), (.v (.slice none 0 0)), (.v (.slice none 0 0))])]
abbrev dz184 : AV := (.v (.bool false))
abbrev dq184 : Nat × List AV × AV := (68, dx184, dz184)
-- own steps 146
theorem dr184 : runV Tryz.prog glob tab (cfgF [dq13, dq178, dq87]) 1000000 68 dx184 = some dz184 := by kernel_rfl
theorem dt184 : Pure env.toCx 68 dx184 (.ret dz184) := run_fact (fok1 dt13 (fok1 dt178 (fok1 dt87 fok0))) dr184

abbrev dx187 : List AV := [(.agg [(.v (.int .i64 (.ofNat 4))), (.v (.int .i64 (.ofNat 0))), (.v (.int .i64 (.ofNat 0))), (.v (.slice none 0 0)), (.v (.slice none 0 0)), (.v (.slice none 0 0))]), (.agg [(.v (.int .i64 (.ofNat 0))), (.sl 1 [[(.v (.string ⟨⟨[97]⟩⟩))], [(.v (.string ⟨⟨[98]⟩⟩))]]), (.v (.slice none 0 0)), (.v (.slice none 0 0))]), (.agg [(.v (.int .i64 (.ofNat 0))), (.sl 1 [[(.v (.string ⟨⟨[98]⟩⟩))]]), (.v (.slice none 0 0)), (.v (.slice none 0 0))])]
abbrev dz187 : AV := (.agg [(.v (.int .i64 (.ofNat 0))), (.sl 1 [[(.v (.string ⟨⟨[97]⟩⟩))]]), (.v (.slice none 0 0)), (.v (.slice none 0 0))])
abbrev dq187 : Nat × List AV × AV := (128, dx187, dz187)
-- own steps 130
theorem dr187 : runV Tryz.prog glob tab (cfgF [dq184]) 1000000 128 dx187 = some dz187 := by kernel_rfl
theorem dt187 : Pure env.toCx 128 dx187 (.ret dz187) := run_fact (fok1 dt184 fok0) dr187

abbrev dx188 : List AV := [(.agg [(.v (.int .i64 (.ofNat 4))), (.v (.int .i64 (.ofNat 0))), (.v (.int .i64 (.ofNat 0))), (.v (.slice none 0 0)), (.v (.slice none 0 0)), (.v (.slice none 0 0))]), (.agg [(.v (.int .i64 (.ofNat 0))), (.sl 1 [[(.v (.string ⟨⟨[97]⟩⟩))]]), (.v (.slice none 0 0)), (.v (.slice none 0 0))])]
abbrev dz188 : AV := (.tup [(.sl 1 [[(.v (.int .u8 (.ofNat 1)))], [(.v (.int .u8 (.ofNat 1)))], [(.v (.int .u8 (.ofNat 97)))]]), (.v (.int .i64 (.ofNat 0)))])
abbrev dq188 : Nat × List AV × AV := (127, dx188, dz188)
-- own steps 234
theorem dr188 : runV Tryz.prog glob tab (cfgF [dq13, dq105]) 1000000 127 dx188 = some dz188 := by kernel_rfl
theorem dt188 : Pure env.toCx 127 dx188 (.ret dz188) := run_fact (fok1 dt13 (fok1 dt105 fok0)) dr188

abbrev dx190 : List AV := [(.agg [(.v (.int .i64 (.ofNat 4))), (.v (.int .i64 (.ofNat 0))), (.v (.int .i64 (.ofNat 0))), (.v (.slice none 0 0)), (.v (.slice none 0 0)), (.v (.slice none 0 0))]), (.sl 1 [[(.v (.int .u8 (.ofNat 1)))], [(.v (.int .u8 (.ofNat 1)))], [(.v (.int .u8 (.ofNat 97)))]])]
abbrev dz190 : AV := (.tup [(.agg [(.v (.int .i64 (.ofNat 0))), (.sl 1 [[(.v (.string ⟨⟨[97]⟩⟩))]]), (.v (.slice none 0 0)), (.v (.slice none 0 0))]), (.v (.int .i64 (.ofNat 0)))])
abbrev dq190 : Nat × List AV × AV := (129, dx190, dz190)
-- own steps 722
theorem dr190 : runV Tryz.prog glob tab (cfgF [dq13, dq105]) 1000000 129 dx190 = some dz190 := by kernel_rfl
theorem dt190 : Pure env.toCx 129 dx190 (.ret dz190) := run_fact (fok1 dt13 (fok1 dt105 fok0)) dr190
end Go.Proofs.YtcngmkedekmkhaaGreat
