/-
  Own work, printed by the runner. Closed calls, run in the kernel.
-/
import Derived.Test.YtcngmkedekmkhaaGreatFad1
namespace Go.Proofs.YtcngmkedekmkhaaGreat
open Go Go.Bw
set_option maxRecDepth 1000000

abbrev dx100 : List AV := [(.agg [(.v (.int .i64 (.ofNat 23))), (.v (.int .i64 (.ofNat 0))), (.v (.int .i64 (.ofNat 4))), (.v (.int .i64 (.ofNat 0))), (.v (.int .i64 (.ofNat 0))), (.v (.slice none 0 0)), (.v (.slice none 0 0)), (.v (.slice none 0 0)), (.v (.int .i64 (.ofNat 0))), (.v (.string ⟨⟨[]⟩⟩)), (.v (.int .i64 (.ofNat 7))), (.sl 12 [[(.v (.int .i64 (.ofNat 3))), (.v (.int .i64 (.ofNat 3))), (.v (.int .i64 (.ofNat 0))), (.v (.int .i64 (.ofNat 0))), (.v (.int .i64 (.ofNat 0))), (.v (.slice none 0 0)), (.v (.slice none 0 0)), (.v (.slice none 0 0)), (.v (.int .i64 (.ofNat 0))), (.v (.string ⟨⟨[97]⟩⟩)), (.v (.int .i64 (.ofNat 11))), (.v (.slice none 0 0))]])]), (.agg [(.v (.int .i64 (.ofNat 0))), (.sl 1 [[(.v (.string ⟨⟨[98]⟩⟩))]]), (.v (.slice none 0 0)), (.v (.slice none 0 0))]), (.v (.slice none 0 0))]
abbrev dz100 : AV := (.tup [(.agg [(.v (.int .i64 (.ofNat 0))), (.sl 1 [[(.v (.string ⟨⟨[97]⟩⟩))]]), (.v (.slice none 0 0)), (.v (.slice none 0 0))]), (.v (.int .i64 (.ofNat 0)))])
abbrev dq100 : Nat × List AV × AV := (27, dx100, dz100)
-- own steps 584
theorem dr100 : runV Tryz.prog glob tab (cfgF []) 1000000 27 dx100 = some dz100 := by kernel_rfl
theorem dt100 : Pure env.toCx 27 dx100 (.ret dz100) := run_fact fok0 dr100

abbrev dx101 : List AV := [(.agg [(.v (.int .i64 (.ofNat 4))), (.v (.int .i64 (.ofNat 0))), (.v (.int .i64 (.ofNat 0))), (.v (.slice none 0 0)), (.v (.slice none 0 0)), (.v (.slice none 0 0))]), (.agg [(.v (.string ⟨⟨[102]⟩⟩)), (.v (.string ⟨⟨[111]⟩⟩)), (.v (.slice none 0 0)), (.v (.int .i64 (.ofNat 0))), (.v (.int .i64 (.ofNat 16))), (.v (.int .i64 (.ofNat 0))), (.v (.int .i64 (.ofNat 4))), (.v (.int .i64 (.ofNat 0))), (.v (.int .i64 (.ofNat 0))), (.v (.slice none 0 0)), (.v (.slice none 0 0)), (.v (.slice none 0 0)), (.v (.int .i64 (.ofNat 0))), (.v (.string ⟨⟨[]⟩⟩)), (.v (.int .i64 (.ofNat 2))), (.sl 12 [[(.v (.int .i64 (.ofNat 5))), (.v (.int .i64 (.ofNat 0))), (.v (.int .i64 (.ofNat 4))), (.v (.int .i64 (.ofNat 0))), (.v (.int .i64 (.ofNat 0))), (.v (.slice none 0 0)), (.v (.slice none 0 0)), (.v (.slice none 0 0)), (.v (.int .i64 (.ofNat 0))), (.v (.string ⟨⟨[]⟩⟩)), (.v (.int .i64 (.ofNat 0))), (.v (.slice none 0 0))], [(.v (.int .i64 (.ofNat 23))), (.v (.int .i64 (.ofNat 0))), (.v (.int .i64 (.ofNat 4))), (.v (.int .i64 (.ofNat 0))), (.v (.int .i64 (.ofNat 0))), (.v (.slice none 0 0)), (.v (.slice none 0 0)), (.v (.slice none 0 0)), (.v (.int .i64 (.ofNat 0))), (.v (.string ⟨⟨[]⟩⟩)), (.v (.int .i64 (.ofNat 7))), (.sl 12 [[(.v (.int .i64 (.ofNat 3))), (.v (.int .i64 (.ofNat 3))), (.v (.int .i64 (.ofNat 0))), (.v (.int .i64 (.ofNat 0))), (.v (.int .i64 (.ofNat 0))), (.v (.slice none 0 0)), (.v (.slice none 0 0)), (.v (.slice none 0 0)), (.v (.int .i64 (.ofNat 0))), (.v (.string ⟨⟨[97]⟩⟩)), (.v (.int .i64 (.ofNat 11))), (.v (.slice none 0 0))]])]])]), (.agg [(.v (.int .i64 (.ofNat 0))), (.sl 1 [[(.v (.string ⟨⟨[98]⟩⟩))]]), (.v (.slice none 0 0)), (.v (.slice none 0 0))]), (.v (.slice none 0 0))]
abbrev dz101 : AV := (.tup [(.agg [(.v (.int .i64 (.ofNat 0))), (.sl 1 [[(.v (.string ⟨⟨[97]⟩⟩))]]), (.v (.slice none 0 0)), (.v (.slice none 0 0))]), (.v (.int .i64 (.ofNat 0)))])
abbrev dq101 : Nat × List AV × AV := (46, dx101, dz101)
-- own steps 828
theorem dr101 : runV Tryz.prog glob tab (cfgF [dq89, dq63, dq70]) 1000000 46 dx101 = some dz101 := by kernel_rfl
theorem dt101 : Pure env.toCx 46 dx101 (.ret dz101) := run_fact (fok1 dt89 (fok1 dt63 (fok1 dt70 fok0))) dr101

abbrev dx104 : List AV := [(.v (.slice none 0 0)), (.sl 1 [[(.v (.string ⟨⟨[97]⟩⟩))]])]
abbrev dz104 : AV := (.v (.bool true))
abbrev dq104 : Nat × List AV × AV := (203, dx104, dz104)
-- own steps 78
theorem dr104 : runV Tryz.prog glob tab (cfgF []) 1000000 203 dx104 = some dz104 := by kernel_rfl
theorem dt104 : Pure env.toCx 203 dx104 (.ret dz104) := run_fact fok0 dr104

abbrev dx105 : List AV := [(.agg [(.v (.int .i64 (.ofNat 4))), (.v (.int .i64 (.ofNat 0))), (.v (.int .i64 (.ofNat 0))), (.v (.slice none 0 0)), (.v (.slice none 0 0)), (.v (.slice none 0 0))]), (.agg [(.v (.int .i64 (.ofNat 0))), (.sl 1 [[(.v (.string ⟨⟨[97]⟩⟩))]]), (.v (.slice none 0 0)), (.v (.slice none 0 0))])]
abbrev dz105 : AV := (.v (.bool true))
abbrev dq105 : Nat × List AV × AV := (130, dx105, dz105)
-- own steps 55
theorem dr105 : runV Tryz.prog glob tab (cfgF [dq104]) 1000000 130 dx105 = some dz105 := by kernel_rfl
theorem dt105 : Pure env.toCx 130 dx105 (.ret dz105) := run_fact (fok1 dt104 fok0) dr105

abbrev dx106 : List AV := [(.agg [(.v (.int .i64 (.ofNat 4))), (.v (.int .i64 (.ofNat 0))), (.v (.int .i64 (.ofNat 0))), (.v (.slice none 0 0)), (.v (.slice none 0 0)), (.v (.slice none 0 0))]), (.agg [(.v (.int .i64 (.ofNat 0))), (.sl 1 [[(.v (.string ⟨⟨[97]⟩⟩))]]), (.v (.slice none 0 0)), (.v (.slice none 0 0))])]
abbrev dz106 : AV := (.v (.bool true))
abbrev dq106 : Nat × List AV × AV := (88, dx106, dz106)
-- own steps 21
theorem dr106 : runV Tryz.prog glob tab (cfgF [dq13, dq105]) 1000000 88 dx106 = some dz106 := by kernel_rfl
theorem dt106 : Pure env.toCx 88 dx106 (.ret dz106) := run_fact (fok1 dt13 (fok1 dt105 fok0)) dr106

abbrev dx107 : List AV := [(.agg [(.v (.int .i64 (.ofNat 4))), (.v (.int .i64 (.ofNat 0))), (.v (.int .i64 (.ofNat 0))), (.v (.slice none 0 0)), (.v (.slice none 0 0)), (.v (.slice none 0 0))]), (.agg [(.v (.string ⟨⟨[102]⟩⟩)), (.v (.string ⟨⟨[111]⟩⟩)), (.v (.slice none 0 0)), (.v (.int .i64 (.ofNat 0))), (.v (.int .i64 (.ofNat 16))), (.v (.int .i64 (.ofNat 0))), (.v (.int .i64 (.ofNat 4))), (.v (.int .i64 (.ofNat 0))), (.v (.int .i64 (.ofNat 0))), (.v (.slice none 0 0)), (.v (.slice none 0 0)), (.v (.slice none 0 0)), (.v (.int .i64 (.ofNat 0))), (.v (.string ⟨⟨[]⟩⟩)), (.v (.int .i64 (.ofNat 2))), (.sl 12 [[(.v (.int .i64 (.ofNat 5))), (.v (.int .i64 (.ofNat 0))), (.v (.int .i64 (.ofNat 4))), (.v (.int .i64 (.ofNat 0))), (.v (.int .i64 (.ofNat 0))), (.v (.slice none 0 0)), (.v (.slice none 0 0)), (.v (.slice none 0 0)), (.v (.int .i64 (.ofNat 0))), (.v (.string ⟨⟨[]⟩⟩)), (.v (.int .i64 (.ofNat 0))), (.v (.slice none 0 0))], [(.v (.int .i64 (.ofNat 23))), (.v (.int .i64 (.ofNat 0))), (.v (.int .i64 (.ofNat 4))), (.v (.int .i64 (.ofNat 0))), (.v (.int .i64 (.ofNat 0))), (.v (.slice none 0 0)), (.v (.slice none 0 0)), (.v (.slice none 0 0)), (.v (.int .i64 (.ofNat 0))), (.v (.string ⟨⟨[]⟩⟩)), (.v (.int .i64 (.ofNat 7))), (.sl 12 [[(.v (.int .i64 (.ofNat 3))), (.v (.int .i64 (.ofNat 3))), (.v (.int .i64 (.ofNat 0))), (.v (.int .i64 (.ofNat 0))), (.v (.int .i64 (.ofNat 0))), (.v (.slice none 0 0)), (.v (.slice none 0 0)), (.v (.slice none 0 0)), (.v (.int .i64 (.ofNat 0))), (.v (.string ⟨⟨[97]⟩⟩)), (.v (.int .i64 (.ofNat 11))), (.v (.slice none 0 0))]])]])]), (.agg [(.v (.int .i64 (.ofNat 0))), (.sl 1 [[(.v (.string ⟨⟨[97]⟩⟩))]]), (.v (.slice none 0 0)), (.v (.slice none 0 0))]), (.v (.slice none 0 0))]
abbrev dz107 : AV := (.v (.int .i64 (.ofNat 0)))
abbrev dq107 : Nat × List AV × AV := (86, dx107, dz107)
-- own steps 45
theorem dr107 : runV Tryz.prog glob tab (cfgF [dq63, dq106]) 1000000 86 dx107 = some dz107 := by kernel_rfl
theorem dt107 : Pure env.toCx 86 dx107 (.ret dz107) := run_fact (fok1 dt63 (fok1 dt106 fok0)) dr107

abbrev dx108 : List AV := [(.agg [(.v (.int .i64 (.ofNat 4))), (.v (.int .i64 (.ofNat 0))), (.v (.int .i64 (.ofNat 0))), (.v (.slice none 0 0)), (.v (.slice none 0 0)), (.v (.slice none 0 0))]), (.agg [(.v (.string ⟨⟨[102]⟩⟩)), (.v (.string ⟨⟨[111]⟩⟩)), (.v (.slice none 0 0)), (.v (.int .i64 (.ofNat 0))), (.v (.int .i64 (.ofNat 16))), (.v (.int .i64 (.ofNat 0))), (.v (.int .i64 (.ofNat 4))), (.v (.int .i64 (.ofNat 0))), (.v (.int .i64 (.ofNat 0))), (.v (.slice none 0 0)), (.v (.slice none 0 0)), (.v (.slice none 0 0)), (.v (.int .i64 (.ofNat 0))), (.v (.string ⟨⟨[]⟩⟩)), (.v (.int .i64 (.ofNat 2))), (.sl 12 [[(.v (.int .i64 (.ofNat 5))), (.v (.int .i64 (.ofNat 0))), (.v (.int .i64 (.ofNat 4))), (.v (.int .i64 (.ofNat 0))), (.v (.int .i64 (.ofNat 0))), (.v (.slice none 0 0)), (.v (.slice none 0 0)), (.v (.slice none 0 0)), (.v (.int .i64 (.ofNat 0))), (.v (.string ⟨⟨[]⟩⟩)), (.v (.int .i64 (.ofNat 0))), (.v (.slice none 0 0))], [(.v (.int .i64 (.ofNat 23))), (.v (.int .i64 (.ofNat 0))), (.v (.int .i64 (.ofNat 4))), (.v (.int .i64 (.ofNat 0))), (.v (.int .i64 (.ofNat 0))), (.v (.slice none 0 0)), (.v (.slice none 0 0)), (.v (.slice none 0 0)), (.v (.int .i64 (.ofNat 0))), (.v (.string ⟨⟨[]⟩⟩)), (.v (.int .i64 (.ofNat 7))), (.sl 12 [[(.v (.int .i64 (.ofNat 3))), (.v (.int .i64 (.ofNat 3))), (.v (.int .i64 (.ofNat 0))), (.v (.int .i64 (.ofNat 0))), (.v (.int .i64 (.ofNat 0))), (.v (.slice none 0 0)), (.v (.slice none 0 0)), (.v (.slice none 0 0)), (.v (.int .i64 (.ofNat 0))), (.v (.string ⟨⟨[97]⟩⟩)), (.v (.int .i64 (.ofNat 11))), (.v (.slice none 0 0))]])]])]), (.v (.bool true)), (.agg [(.v (.int .i64 (.ofNat 0))), (.sl 1 [[(.v (.string ⟨⟨[97]⟩⟩))]]), (.v (.slice none 0 0)), (.v (.slice none 0 0))]), (.v (.slice none 0 0))]
abbrev dz108 : AV := (.v (.int .i64 (.ofNat 0)))
abbrev dq108 : Nat × List AV × AV := (49, dx108, dz108)
-- own steps 47
theorem dr108 : runV Tryz.prog glob tab (cfgF [dq63, dq106]) 1000000 49 dx108 = some dz108 := by kernel_rfl
theorem dt108 : Pure env.toCx 49 dx108 (.ret dz108) := run_fact (fok1 dt63 (fok1 dt106 fok0)) dr108

abbrev dx113 : List AV := [(.agg [(.v (.int .i64 (.ofNat 0))), (.sl 1 [[(.v (.string ⟨⟨[97]⟩⟩))]]), (.v (.slice none 0 0)), (.v (.slice none 0 0)), (.v (.slice none 0 0))]), (.agg [(.v (.int .i64 (.ofNat 23))), (.v (.int .i64 (.ofNat 0))), (.v (.int .i64 (.ofNat 4))), (.v (.int .i64 (.ofNat 0))), (.v (.int .i64 (.ofNat 0))), (.v (.slice none 0 0)), (.v (.slice none 0 0)), (.v (.slice none 0 0)), (.v (.int .i64 (.ofNat 0))), (.v (.string ⟨⟨[]⟩⟩)), (.v (.int .i64 (.ofNat 7))), (.sl 12 [[(.v (.int .i64 (.ofNat 3))), (.v (.int .i64 (.ofNat 3))), (.v (.int .i64 (.ofNat 0))), (.v (.int .i64 (.ofNat 0))), (.v (.int .i64 (.ofNat 0))), (.v (.slice none 0 0)), (.v (.slice none 0 0)), (.v (.slice none 0 0)), (.v (.int .i64 (.ofNat 0))), (.v (.string ⟨⟨[97]⟩⟩)), (.v (.int .i64 (.ofNat 11))), (.v (.slice none 0 0))]])])]
abbrev dz113 : AV := (.sl 1 [[(.v (.string ⟨⟨[97]⟩⟩))]])
abbrev dq113 : Nat × List AV × AV := (139, dx113, dz113)
-- own steps 374
theorem dr113 : runV Tryz.prog glob tab (cfgF []) 1000000 139 dx113 = some dz113 := by kernel_rfl
theorem dt113 : Pure env.toCx 139 dx113 (.ret dz113) := run_fact fok0 dr113

abbrev dx114 : List AV := [(.agg [(.v (.int .i64 (.ofNat 0))), (.sl 1 [[(.v (.string ⟨⟨[97]⟩⟩))]]), (.v (.slice none 0 0)), (.v (.slice none 0 0)), (.v (.slice none 0 0))]), (.agg [(.v (.int .i64 (.ofNat 23))), (.v (.int .i64 (.ofNat 0))), (.v (.int .i64 (.ofNat 4))), (.v (.int .i64 (.ofNat 0))), (.v (.int .i64 (.ofNat 0))), (.v (.slice none 0 0)), (.v (.slice none 0 0)), (.v (.slice none 0 0)), (.v (.int .i64 (.ofNat 0))), (.v (.string ⟨⟨[]⟩⟩)), (.v (.int .i64 (.ofNat 7))), (.sl 12 [[(.v (.int .i64 (.ofNat 3))), (.v (.int .i64 (.ofNat 3))), (.v (.int .i64 (.ofNat 0))), (.v (.int .i64 (.ofNat 0))), (.v (.int .i64 (.ofNat 0))), (.v (.slice none 0 0)), (.v (.slice none 0 0)), (.v (.slice none 0 0)), (.v (.int .i64 (.ofNat 0))), (.v (.string ⟨⟨[97]⟩⟩)), (.v (.int .i64 (.ofNat 11))), (.v (.slice none 0 0))]])])]
abbrev dz114 : AV := (.agg [(.v (.int .i64 (.ofNat 0))), (.v (.int .i64 (.ofNat 0))), (.v (.string ⟨⟨[]⟩⟩)), (.v (.slice none 0 0)), (.v (.int .i64 (.ofNat 0))), (.sl 1 [[(.v (.string ⟨⟨[97]⟩⟩))]]), (.v (.slice none 0 0)), (.v (.slice none 0 0))])
abbrev dq114 : Nat × List AV × AV := (93, dx114, dz114)
-- own steps 430
theorem dr114 : runV Tryz.prog glob tab (cfgF []) 1000000 93 dx114 = some dz114 := by kernel_rfl
theorem dt114 : Pure env.toCx 93 dx114 (.ret dz114) := run_fact fok0 dr114

abbrev dx115 : List AV := [(.agg [(.v (.int .i64 (.ofNat 0))), (.sl 1 [[(.v (.string ⟨⟨[97]⟩⟩))]]), (.v (.slice none 0 0)), (.v (.slice none 0 0)), (.v (.slice none 0 0))]), (.agg [(.v (.int .i64 (.ofNat 23))), (.v (.int .i64 (.ofNat 0))), (.v (.int .i64 (.ofNat 4))), (.v (.int .i64 (.ofNat 0))), (.v (.int .i64 (.ofNat 0))), (.v (.slice none 0 0)), (.v (.slice none 0 0)), (.v (.slice none 0 0)), (.v (.int .i64 (.ofNat 0))), (.v (.string ⟨⟨[]⟩⟩)), (.v (.int .i64 (.ofNat 7))), (.sl 12 [[(.v (.int .i64 (.ofNat 3))), (.v (.int .i64 (.ofNat 3))), (.v (.int .i64 (.ofNat 0))), (.v (.int .i64 (.ofNat 0))), (.v (.int .i64 (.ofNat 0))), (.v (.slice none 0 0)), (.v (.slice none 0 0)), (.v (.slice none 0 0)), (.v (.int .i64 (.ofNat 0))), (.v (.string ⟨⟨[97]⟩⟩)), (.v (.int .i64 (.ofNat 11))), (.v (.slice none 0 0))]])])]
abbrev dz115 : AV := (.agg [(.v (.int .i64 (.ofNat 0))), (.v (.int .i64 (.ofNat 0))), (.v (.string ⟨⟨[]⟩⟩)), (.v (.slice none 0 0)), (.v (.int .i64 (.ofNat 0))), (.sl 1 [[(.v (.string ⟨⟨[97]⟩⟩))]]), (.v (.slice none 0 0)), (.v (.slice none 0 0))])
abbrev dq115 : Nat × List AV × AV := (51, dx115, dz115)
-- own steps 495
theorem dr115 : runV Tryz.prog glob tab (cfgF []) 1000000 51 dx115 = some dz115 := by kernel_rfl
theorem dt115 : Pure env.toCx 51 dx115 (.ret dz115) := run_fact fok0 dr115

abbrev dx117 : List AV := [(.agg [(.v (.int .i64 (.ofNat 4))), (.v (.int .i64 (.ofNat 0))), (.v (.int .i64 (.ofNat 0))), (.v (.slice none 0 0)), (.v (.slice none 0 0)), (.v (.slice none 0 0))])]
abbrev dz117 : AV := (.tup [(.agg [(.v (.int .i64 (.ofNat 0))), (.v (.slice none 0 0)), (.v (.slice none 0 0)), (.v (.slice none 0 0))]), (.v (.int .i64 (.ofNat 0)))])
abbrev dq117 : Nat × List AV × AV := (207, dx117, dz117)
-- own steps 22
theorem dr117 : runV Tryz.prog glob tab (cfgF [dq13]) 1000000 207 dx117 = some dz117 := by kernel_rfl
theorem dt117 : Pure env.toCx 207 dx117 (.ret dz117) := run_fact (fok1 dt13 fok0) dr117

abbrev dx118 : List AV := [(.agg [(.v (.int .i64 (.ofNat 4))), (.v (.int .i64 (.ofNat 0))), (.v (.int .i64 (.ofNat 0))), (.v (.slice none 0 0)), (.v (.slice none 0 0)), (.v (.slice none 0 0))])]
abbrev dz118 : AV := (.agg [(.v (.int .i64 (.ofNat 0))), (.v (.slice none 0 0)), (.v (.slice none 0 0)), (.v (.slice none 0 0))])
abbrev dq118 : Nat × List AV × AV := (177, dx118, dz118)
-- own steps 21
theorem dr118 : runV Tryz.prog glob tab (cfgF [dq117]) 1000000 177 dx118 = some dz118 := by kernel_rfl
theorem dt118 : Pure env.toCx 177 dx118 (.ret dz118) := run_fact (fok1 dt117 fok0) dr118

abbrev dx127 : List AV := [(.v (.slice none 0 0)), (.sl 1 [[(.v (.string ⟨⟨[97]⟩⟩))]]), (.v (.bool true)), (.v (.bool true)), (.v (.bool true))]
abbrev dz127 : AV := (.sl 1 [[(.v (.string ⟨⟨[97]⟩⟩))]])
abbrev dq127 : Nat × List AV × AV := (316, dx127, dz127)
-- own steps 257
theorem dr127 : runV Tryz.prog glob tab (cfgF []) 1000000 316 dx127 = some dz127 := by kernel_rfl
theorem dt127 : Pure env.toCx 316 dx127 (.ret dz127) := run_fact fok0 dr127

abbrev dx128 : List AV := [(.v (.slice none 0 0)), (.sl 1 [[(.v (.string ⟨⟨[97]⟩⟩))]])]
abbrev dz128 : AV := (.sl 1 [[(.v (.string ⟨⟨[97]⟩⟩))]])
abbrev dq128 : Nat × List AV × AV := (257, dx128, dz128)
-- own steps 270
theorem dr128 : runV Tryz.prog glob tab (cfgF []) 1000000 257 dx128 = some dz128 := by kernel_rfl
theorem dt128 : Pure env.toCx 257 dx128 (.ret dz128) := run_fact fok0 dr128

abbrev dx129 : List AV := [(.agg [(.v (.int .i64 (.ofNat 4))), (.v (.int .i64 (.ofNat 0))), (.v (.int .i64 (.ofNat 0))), (.v (.slice none 0 0)), (.v (.slice none 0 0)), (.v (.slice none 0 0))]), (.agg [(.v (.int .i64 (.ofNat 0))), (.v (.slice none 0 0)), (.v (.slice none 0 0)), (.v (.slice none 0 0))]), (.agg [(.v (.int .i64 (.ofNat 0))), (.sl 1 [[(.v (.string ⟨⟨[97]⟩⟩))]]), (.v (.slice none 0 0)), (.v (.slice none 0 0))])]
abbrev dz129 : AV := (.agg [(.v (.int .i64 (.ofNat 0))), (.sl 1 [[(.v (.string ⟨⟨[97]⟩⟩))]]), (.v (.slice none 0 0)), (.v (.slice none 0 0))])
abbrev dq129 : Nat × List AV × AV := (178, dx129, dz129)
-- own steps 303
theorem dr129 : runV Tryz.prog glob tab (cfgF []) 1000000 178 dx129 = some dz129 := by kernel_rfl
theorem dt129 : Pure env.toCx 178 dx129 (.ret dz129) := run_fact fok0 dr129

abbrev dx130 : List AV := [(.sl 1 [[(.v (.string ⟨⟨[97]⟩⟩))]]), (.sl 1 [[(.v (.string ⟨⟨[97]⟩⟩))]]), (.v (.bool true)), (.v (.bool true)), (.v (.bool true))]
abbrev dz130 : AV := (.sl 1 [[(.v (.string ⟨⟨[97]⟩⟩))]])
abbrev dq130 : Nat × List AV × AV := (316, dx130, dz130)
-- own steps 389
theorem dr130 : runV Tryz.prog glob tab (cfgF []) 1000000 316 dx130 = some dz130 := by kernel_rfl
theorem dt130 : Pure env.toCx 316 dx130 (.ret dz130) := run_fact fok0 dr130

abbrev dx131 : List AV := [(.sl 1 [[(.v (.string ⟨⟨[97]⟩⟩))]]), (.sl 1 [[(.v (.string ⟨⟨[97]⟩⟩))]])]
abbrev dz131 : AV := (.sl 1 [[(.v (.string ⟨⟨[97]⟩⟩))]])
abbrev dq131 : Nat × List AV × AV := (257, dx131, dz131)
-- own steps 402
theorem dr131 : runV Tryz.prog glob tab (cfgF []) 1000000 257 dx131 = some dz131 := by kernel_rfl
theorem dt131 : Pure env.toCx 257 dx131 (.ret dz131) := run_fact fok0 dr131
end Go.Proofs.YtcngmkedekmkhaaGreat
