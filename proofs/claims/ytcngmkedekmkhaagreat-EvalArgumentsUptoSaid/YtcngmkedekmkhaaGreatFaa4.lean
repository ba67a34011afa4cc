/-
  Own work, printed by the runner. Closed calls, run in the kernel.
-/
import Derived.Test.YtcngmkedekmkhaaGreatFaa3
namespace Go.Proofs.YtcngmkedekmkhaaGreat
open Go Go.Bw
set_option maxRecDepth 1000000

abbrev ax199 : List AV := [(.agg [(.v (.int .i64 (.ofNat 5))), (.v (.int .i64 (.ofNat 0))), (.v (.int .i64 (.ofNat 0))), (.v (.slice none 0 0)), (.sl 6 [[(.v (.int .i64 (.ofNat 4))), (.v (.int .i64 (.ofNat 0))), (.v (.int .i64 (.ofNat 0))), (.v (.slice none 0 0)), (.v (.slice none 0 0)), (.v (.slice none 0 0))]]), (.v (.slice none 0 0))]), (.agg [(.v (.int .i64 (.ofNat 0))), (.v (.slice none 0 0)), (.v (.slice none 0 0)), (.v (.slice none 0 0))])]
abbrev az199 : AV := (.v (.bool true))
abbrev aq199 : Nat × List AV × AV := (130, ax199, az199)
-- own steps 121
theorem ar199 : runV Tryz.prog glob tab (cfgF []) 1000000 130 ax199 = some az199 := by kernel_rfl
theorem at199 : Pure env.toCx 130 ax199 (.ret az199) := run_fact fok0 ar199

abbrev ax200 : List AV := [(.agg [(.v (.int .i64 (.ofNat 5))), (.v (.int .i64 (.ofNat 0))), (.v (.int .i64 (.ofNat 0))), (.v (.slice none 0 0)), (.sl 6 [[(.v (.int .i64 (.ofNat 4))), (.v (.int .i64 (.ofNat 0))), (.v (.int .i64 (.ofNat 0))), (.v (.slice none 0 0)), (.v (.slice none 0 0)), (.v (.slice none 0 0))]]), (.v (.slice none 0 0))]), (.agg [(.v (.int .i64 (.ofNat 0))), (.v (.slice none 0 0)), (.v (.slice none 0 0)), (.v (.slice none 0 0))])]
abbrev az200 : AV := (.v (.bool true))
abbrev aq200 : Nat × List AV × AV := (88, ax200, az200)
-- own steps 21
theorem ar200 : runV Tryz.prog glob tab (cfgF [aq196, aq199]) 1000000 88 ax200 = some az200 := by kernel_rfl
theorem at200 : Pure env.toCx 88 ax200 (.ret az200) := run_fact (fok1 at196 (fok1 at199 fok0)) ar200

abbrev ax203 : List AV := [(.v (.slice none 0 0)), (.sl 1 [[(.v (.string ⟨⟨[121]⟩⟩))]])]
abbrev az203 : AV := (.v (.bool true))
abbrev aq203 : Nat × List AV × AV := (203, ax203, az203)
-- own steps 78
theorem ar203 : runV Tryz.prog glob tab (cfgF []) 1000000 203 ax203 = some az203 := by kernel_rfl
theorem at203 : Pure env.toCx 203 ax203 (.ret az203) := run_fact fok0 ar203

abbrev ax206 : List AV := [(.v (.slice none 0 0)), (.sl 1 [[(.v (.string ⟨⟨[113]⟩⟩))]])]
abbrev az206 : AV := (.v (.bool true))
abbrev aq206 : Nat × List AV × AV := (203, ax206, az206)
-- own steps 78
theorem ar206 : runV Tryz.prog glob tab (cfgF []) 1000000 203 ax206 = some az206 := by kernel_rfl
theorem at206 : Pure env.toCx 203 ax206 (.ret az206) := run_fact fok0 ar206

abbrev ax207 : List AV := [(.agg [(.v (.int .i64 (.ofNat 4))), (.v (.int .i64 (.ofNat 0))), (.v (.int .i64 (.ofNat 0))), (.v (.slice none 0 0)), (.v (.slice none 0 0)), (.v (.slice none 0 0))]), (.agg [(.v (.int .i64 (.ofNat 0))), (.sl 1 [[(.v (.string ⟨⟨[113]⟩⟩))]]), (.v (.slice none 0 0)), (.v (.slice none 0 0))])]
abbrev az207 : AV := (.v (.bool true))
abbrev aq207 : Nat × List AV × AV := (130, ax207, az207)
-- own steps 55
theorem ar207 : runV Tryz.prog glob tab (cfgF [aq206]) 1000000 130 ax207 = some az207 := by kernel_rfl
theorem at207 : Pure env.toCx 130 ax207 (.ret az207) := run_fact (fok1 at206 fok0) ar207

abbrev ax208 : List AV := [(.agg [(.v (.int .i64 (.ofNat 5))), (.v (.int .i64 (.ofNat 0))), (.v (.int .i64 (.ofNat 0))), (.v (.slice none 0 0)), (.sl 6 [[(.v (.int .i64 (.ofNat 4))), (.v (.int .i64 (.ofNat 0))), (.v (.int .i64 (.ofNat 0))), (.v (.slice none 0 0)), (.v (.slice none 0 0)), (.v (.slice none 0 0))]]), (.v (.slice none 0 0))]), (.agg [(.v (.int .i64 (.ofNat 0))), (.sl 1 [[(.v (.string ⟨⟨[121]⟩⟩))]]), (.sl 4 [[(.v (.int .i64 (.ofNat 0))), (.sl 1 [[(.v (.string ⟨⟨[113]⟩⟩))]]), (.v (.slice none 0 0)), (.v (.slice none 0 0))]]), (.v (.slice none 0 0))])]
abbrev az208 : AV := (.v (.bool true))
abbrev aq208 : Nat × List AV × AV := (130, ax208, az208)
-- own steps 165
theorem ar208 : runV Tryz.prog glob tab (cfgF [aq203, aq207, aq194]) 1000000 130 ax208 = some az208 := by kernel_rfl
theorem at208 : Pure env.toCx 130 ax208 (.ret az208) := run_fact (fok1 at203 (fok1 at207 (fok1 at194 fok0))) ar208

abbrev ax209 : List AV := [(.agg [(.v (.int .i64 (.ofNat 5))), (.v (.int .i64 (.ofNat 0))), (.v (.int .i64 (.ofNat 0))), (.v (.slice none 0 0)), (.sl 6 [[(.v (.int .i64 (.ofNat 4))), (.v (.int .i64 (.ofNat 0))), (.v (.int .i64 (.ofNat 0))), (.v (.slice none 0 0)), (.v (.slice none 0 0)), (.v (.slice none 0 0))]]), (.v (.slice none 0 0))]), (.agg [(.v (.int .i64 (.ofNat 0))), (.sl 1 [[(.v (.string ⟨⟨[121]⟩⟩))]]), (.sl 4 [[(.v (.int .i64 (.ofNat 0))), (.sl 1 [[(.v (.string ⟨⟨[113]⟩⟩))]]), (.v (.slice none 0 0)), (.v (.slice none 0 0))]]), (.v (.slice none 0 0))])]
abbrev az209 : AV := (.v (.bool true))
abbrev aq209 : Nat × List AV × AV := (88, ax209, az209)
-- own steps 21
theorem ar209 : runV Tryz.prog glob tab (cfgF [aq196, aq208]) 1000000 88 ax209 = some az209 := by kernel_rfl
theorem at209 : Pure env.toCx 88 ax209 (.ret az209) := run_fact (fok1 at196 (fok1 at208 fok0)) ar209

abbrev ax211 : List AV := [(.agg [(.v (.int .i64 (.ofNat 5))), (.v (.int .i64 (.ofNat 0))), (.v (.int .i64 (.ofNat 0))), (.v (.slice none 0 0)), (.sl 6 [[(.v (.int .i64 (.ofNat 4))), (.v (.int .i64 (.ofNat 0))), (.v (.int .i64 (.ofNat 0))), (.v (.slice none 0 0)), (.v (.slice none 0 0)), (.v (.slice none 0 0))]]), (.v (.slice none 0 0))])]
abbrev az211 : AV := (.tup [(.agg [(.v (.int .i64 (.ofNat 0))), (.v (.slice none 0 0)), (.v (.slice none 0 0)), (.v (.slice none 0 0))]), (.v (.int .i64 (.ofNat 0)))])
abbrev aq211 : Nat × List AV × AV := (207, ax211, az211)
-- own steps 22
theorem ar211 : runV Tryz.prog glob tab (cfgF [aq196]) 1000000 207 ax211 = some az211 := by kernel_rfl
theorem at211 : Pure env.toCx 207 ax211 (.ret az211) := run_fact (fok1 at196 fok0) ar211

abbrev ax212 : List AV := [(.agg [(.v (.int .i64 (.ofNat 5))), (.v (.int .i64 (.ofNat 0))), (.v (.int .i64 (.ofNat 0))), (.v (.slice none 0 0)), (.sl 6 [[(.v (.int .i64 (.ofNat 4))), (.v (.int .i64 (.ofNat 0))), (.v (.int .i64 (.ofNat 0))), (.v (.slice none 0 0)), (.v (.slice none 0 0)), (.v (.slice none 0 0))]]), (.v (.slice none 0 0))])]
abbrev az212 : AV := (.agg [(.v (.int .i64 (.ofNat 0))), (.v (.slice none 0 0)), (.v (.slice none 0 0)), (.v (.slice none 0 0))])
abbrev aq212 : Nat × List AV × AV := (177, ax212, az212)
-- own steps 21
theorem ar212 : runV Tryz.prog glob tab (cfgF [aq211]) 1000000 177 ax212 = some az212 := by kernel_rfl
theorem at212 : Pure env.toCx 177 ax212 (.ret az212) := run_fact (fok1 at211 fok0) ar212

abbrev ax220 : List AV := [(.v (.slice none 0 0)), (.v (.slice none 0 0)), (.v (.bool true)), (.v (.bool true)), (.v (.bool true))]
abbrev az220 : AV := (.v (.slice none 0 0))
abbrev aq220 : Nat × List AV × AV := (316, ax220, az220)
-- own steps 42
theorem ar220 : runV Tryz.prog glob tab (cfgF []) 1000000 316 ax220 = some az220 := by kernel_rfl
theorem at220 : Pure env.toCx 316 ax220 (.ret az220) := run_fact fok0 ar220

abbrev ax221 : List AV := [(.v (.slice none 0 0)), (.v (.slice none 0 0))]
abbrev az221 : AV := (.v (.slice none 0 0))
abbrev aq221 : Nat × List AV × AV := (257, ax221, az221)
-- own steps 11
theorem ar221 : runV Tryz.prog glob tab (cfgF [aq220]) 1000000 257 ax221 = some az221 := by kernel_rfl
theorem at221 : Pure env.toCx 257 ax221 (.ret az221) := run_fact (fok1 at220 fok0) ar221

abbrev ax222 : List AV := [(.agg [(.v (.int .i64 (.ofNat 5))), (.v (.int .i64 (.ofNat 0))), (.v (.int .i64 (.ofNat 0))), (.v (.slice none 0 0)), (.sl 6 [[(.v (.int .i64 (.ofNat 4))), (.v (.int .i64 (.ofNat 0))), (.v (.int .i64 (.ofNat 0))), (.v (.slice none 0 0)), (.v (.slice none 0 0)), (.v (.slice none 0 0))]]), (.v (.slice none 0 0))]), (.agg [(.v (.int .i64 (.ofNat 0))), (.v (.slice none 0 0)), (.v (.slice none 0 0)), (.v (.slice none 0 0))]), (.agg [(.v (.int .i64 (.ofNat 0))), (.v (.slice none 0 0)), (.v (.slice none 0 0)), (.v (.slice none 0 0))])]
abbrev az222 : AV := (.agg [(.v (.int .i64 (.ofNat 0))), (.v (.slice none 0 0)), (.v (.slice none 0 0)), (.v (.slice none 0 0))])
abbrev aq222 : Nat × List AV × AV := (178, ax222, az222)
-- own steps 74
theorem ar222 : runV Tryz.prog glob tab (cfgF [aq221]) 1000000 178 ax222 = some az222 := by kernel_rfl
theorem at222 : Pure env.toCx 178 ax222 (.ret az222) := run_fact (fok1 at221 fok0) ar222

abbrev ax225 : List AV := [(.v (.slice none 0 0)), (.sl 1 [[(.v (.string ⟨⟨[121]⟩⟩))]]), (.v (.bool true)), (.v (.bool true)), (.v (.bool true))]
abbrev az225 : AV := (.sl 1 [[(.v (.string ⟨⟨[121]⟩⟩))]])
abbrev aq225 : Nat × List AV × AV := (316, ax225, az225)
-- own steps 257
theorem ar225 : runV Tryz.prog glob tab (cfgF []) 1000000 316 ax225 = some az225 := by kernel_rfl
theorem at225 : Pure env.toCx 316 ax225 (.ret az225) := run_fact fok0 ar225

abbrev ax226 : List AV := [(.v (.slice none 0 0)), (.sl 1 [[(.v (.string ⟨⟨[121]⟩⟩))]])]
abbrev az226 : AV := (.sl 1 [[(.v (.string ⟨⟨[121]⟩⟩))]])
abbrev aq226 : Nat × List AV × AV := (257, ax226, az226)
-- own steps 270
theorem ar226 : runV Tryz.prog glob tab (cfgF []) 1000000 257 ax226 = some az226 := by kernel_rfl
theorem at226 : Pure env.toCx 257 ax226 (.ret az226) := run_fact fok0 ar226

abbrev ax229 : List AV := [(.agg [(.v (.int .i64 (.ofNat 5))), (.v (.int .i64 (.ofNat 0))), (.v (.int .i64 (.ofNat 0))), (.v (.slice none 0 0)), (.sl 6 [[(.v (.int .i64 (.ofNat 4))), (.v (.int .i64 (.ofNat 0))), (.v (.int .i64 (.ofNat 0))), (.v (.slice none 0 0)), (.v (.slice none 0 0)), (.v (.slice none 0 0))]]), (.v (.slice none 0 0))]), (.agg [(.v (.int .i64 (.ofNat 0))), (.v (.slice none 0 0)), (.v (.slice none 0 0)), (.v (.slice none 0 0))]), (.agg [(.v (.int .i64 (.ofNat 0))), (.sl 1 [[(.v (.string ⟨⟨[121]⟩⟩))]]), (.sl 4 [[(.v (.int .i64 (.ofNat 0))), (.sl 1 [[(.v (.string ⟨⟨[113]⟩⟩))]]), (.v (.slice none 0 0)), (.v (.slice none 0 0))]]), (.v (.slice none 0 0))])]
abbrev az229 : AV := (.agg [(.v (.int .i64 (.ofNat 0))), (.sl 1 [[(.v (.string ⟨⟨[121]⟩⟩))]]), (.sl 4 [[(.v (.int .i64 (.ofNat 0))), (.sl 1 [[(.v (.string ⟨⟨[113]⟩⟩))]]), (.v (.slice none 0 0)), (.v (.slice none 0 0))]]), (.v (.slice none 0 0))])
abbrev aq229 : Nat × List AV × AV := (178, ax229, az229)
-- own steps 405
theorem ar229 : runV Tryz.prog glob tab (cfgF []) 1000000 178 ax229 = some az229 := by kernel_rfl
theorem at229 : Pure env.toCx 178 ax229 (.ret az229) := run_fact fok0 ar229

abbrev ax233 : List AV := [(.agg [(.v (.int .i64 (.ofNat 5))), (.v (.int .i64 (.ofNat 0))), (.v (.int .i64 (.ofNat 0))), (.v (.slice none 0 0)), (.sl 6 [[(.v (.int .i64 (.ofNat 4))), (.v (.int .i64 (.ofNat 0))), (.v (.int .i64 (.ofNat 0))), (.v (.slice none 0 0)), (.v (.slice none 0 0)), (.v (.slice none 0 0))]]), (.v (.slice none 0 0))]), (.agg [(.v (.int .i64 (.ofNat 0))), (.v (.slice none 0 0)), (.v (.slice none 0 0)), (.v (.slice none 0 0))]), (.agg [(.v (.int .i64 (.ofNat 0))), (.sl 1 [[(.v (.string ⟨⟨[121]⟩⟩))]]), (.sl 4 [[(.v (.int .i64 (.ofNat 0))), (.sl 1 [[(.v (.string ⟨⟨[113]⟩⟩))]]), (.v (.slice none 0 0)), (.v (.slice none 0 0))]]), (.v (.slice none 0 0))])]
abbrev az233 : AV := (.tup [(.agg [(.v (.int .i64 (.ofNat 0))), (.sl 1 [[(.v (.string ⟨⟨[121]⟩⟩))]]), (.sl 4 [[(.v (.int .i64 (.ofNat 0))), (.sl 1 [[(.v (.string ⟨⟨[113]⟩⟩))]]), (.v (.slice none 0 0)), (.v (.slice none 0 0))]]), (.v (.slice none 0 0))]), (.v (.int .i64 (.ofNat 0)))])
abbrev aq233 : Nat × List AV × AV := (76, ax233, az233)
-- own steps 749
theorem ar233 : runV Tryz.prog glob tab (cfgF [aq196, aq200, aq209, aq212, aq222]) 1000000 76 ax233 = some az233 := by kernel_rfl
theorem at233 : Pure env.toCx 76 ax233 (.ret az233) := run_fact (fok1 at196 (fok1 at200 (fok1 at209 (fok1 at212 (fok1 at222 fok0))))) ar233

abbrev ax234 : List AV := [(.agg [(.v (.int .i64 (.ofNat 0))), (.v (.slice none 0 0)), (.sl 4 [[(.v (.int .i64 (.ofNat 3))), (.v (.slice none 0 0)), (.v (.slice none 0 0)), (.v (.slice none 0 0))], [(.v (.int .i64 (.ofNat 0))), (.sl 1 [[(.v (.string ⟨⟨[120]⟩⟩))]]), (.sl 4 [[(.v (.int .i64 (.ofNat 0))), (.sl 1 [[(.v (.string ⟨⟨[112]⟩⟩))]]), (.v (.slice none 0 0)), (.v (.slice none 0 0))]]), (.v (.slice none 0 0))]]), (.v (.slice none 0 0)), (.sl 4 [[(.v (.int .i64 (.ofNat 3))), (.v (.int .i64 (.ofNat 0))), (.v (.string ⟨⟨[121]⟩⟩)), (.v (.slice none 0 0))], [(.v (.int .i64 (.ofNat 3))), (.v (.int .i64 (.ofNat 0))), (.v (.string ⟨⟨[113]⟩⟩)), (.v (.slice none 0 0))]])]), (.agg [(.v (.int .i64 (.ofNat 24))), (.v (.int .i64 (.ofNat 0))), (.v (.int .i64 (.ofNat 5))), (.v (.int .i64 (.ofNat 0))), (.v (.int .i64 (.ofNat 0))), (.v (.slice none 0 0)), (.sl 6 [[(.v (.int .i64 (.ofNat 4))), (.v (.int .i64 (.ofNat 0))), (.v (.int .i64 (.ofNat 0))), (.v (.slice none 0 0)), (.v (.slice none 0 0)), (.v (.slice none 0 0))]]), (.v (.slice none 0 0)), (.v (.int .i64 (.ofNat 0))), (.v (.string ⟨⟨[]⟩⟩)), (.v (.int .i64 (.ofNat 0))), (.sl 12 [[(.v (.int .i64 (.ofNat 4))), (.v (.int .i64 (.ofNat 3))), (.v (.int .i64 (.ofNat 0))), (.v (.int .i64 (.ofNat 0))), (.v (.int .i64 (.ofNat 0))), (.v (.slice none 0 0)), (.v (.slice none 0 0)), (.v (.slice none 0 0)), (.v (.int .i64 (.ofNat 0))), (.v (.string ⟨⟨[]⟩⟩)), (.v (.int .i64 (.ofNat 0))), (.v (.slice none 0 0))], [(.v (.int .i64 (.ofNat 23))), (.v (.int .i64 (.ofNat 0))), (.v (.int .i64 (.ofNat 4))), (.v (.int .i64 (.ofNat 0))), (.v (.int .i64 (.ofNat 0))), (.v (.slice none 0 0)), (.v (.slice none 0 0)), (.v (.slice none 0 0)), (.v (.int .i64 (.ofNat 0))), (.v (.string ⟨⟨[]⟩⟩)), (.v (.int .i64 (.ofNat 0))), (.sl 12 [[(.v (.int .i64 (.ofNat 4))), (.v (.int .i64 (.ofNat 3))), (.v (.int .i64 (.ofNat 0))), (.v (.int .i64 (.ofNat 0))), (.v (.int .i64 (.ofNat 0))), (.v (.slice none 0 0)), (.v (.slice none 0 0)), (.v (.slice none 0 0)), (.v (.int .i64 (.ofNat 1))), (.v (.string ⟨⟨[]⟩⟩)), (.v (.int .i64 (.ofNat 0))), (.v (.slice none 0 0))]])]])])]
abbrev az234 : AV := (.agg [(.v (.int .i64 (.ofNat 0))), (.v (.int .i64 (.ofNat 0))), (.v (.string ⟨⟨[]⟩⟩)), (.v (.slice none 0 0)), (.v (.int .i64 (.ofNat 0))), (.sl 1 [[(.v (.string ⟨⟨[121]⟩⟩))]]), (.sl 4 [[(.v (.int .i64 (.ofNat 0))), (.sl 1 [[(.v (.string ⟨⟨[113]⟩⟩))]]), (.v (.slice none 0 0)), (.v (.slice none 0 0))]]), (.v (.slice none 0 0))])
abbrev aq234 : Nat × List AV × AV := (93, ax234, az234)
-- own steps 938
theorem ar234 : runV Tryz.prog glob tab (cfgF [aq189, aq195, aq196, aq200, aq209, aq212, aq222]) 1000000 93 ax234 = some az234 := by kernel_rfl
theorem at234 : Pure env.toCx 93 ax234 (.ret az234) := run_fact (fok1 at189 (fok1 at195 (fok1 at196 (fok1 at200 (fok1 at209 (fok1 at212 (fok1 at222 fok0))))))) ar234

abbrev ax235 : List AV := [(.agg [(.v (.int .i64 (.ofNat 0))), (.v (.slice none 0 0)), (.sl 4 [[(.v (.int .i64 (.ofNat 3))), (.v (.slice none 0 0)), (.v (.slice none 0 0)), (.v (.slice none 0 0))], [(.v (.int .i64 (.ofNat 0))), (.sl 1 [[(.v (.string ⟨⟨[120]⟩⟩))]]), (.sl 4 [[(.v (.int .i64 (.ofNat 0))), (.sl 1 [[(.v (.string ⟨⟨[112]⟩⟩))]]), (.v (.slice none 0 0)), (.v (.slice none 0 0))]]), (.v (.slice none 0 0))]]), (.v (.slice none 0 0)), (.sl 4 [[(.v (.int .i64 (.ofNat 3))), (.v (.int .i64 (.ofNat 0))), (.v (.string ⟨⟨[121]⟩⟩)), (.v (.slice none 0 0))], [(.v (.int .i64 (.ofNat 3))), (.v (.int .i64 (.ofNat 0))), (.v (.string ⟨⟨[113]⟩⟩)), (.v (.slice none 0 0))]])]), (.agg [(.v (.int .i64 (.ofNat 24))), (.v (.int .i64 (.ofNat 0))), (.v (.int .i64 (.ofNat 5))), (.v (.int .i64 (.ofNat 0))), (.v (.int .i64 (.ofNat 0))), (.v (.slice none 0 0)), (.sl 6 [[(.v (.int .i64 (.ofNat 4))), (.v (.int .i64 (.ofNat 0))), (.v (.int .i64 (.ofNat 0))), (.v (.slice none 0 0)), (.v (.slice none 0 0)), (.v (.slice none 0 0))]]), (.v (.slice none 0 0)), (.v (.int .i64 (.ofNat 0))), (.v (.string ⟨⟨[]⟩⟩)), (.v (.int .i64 (.ofNat 0))), (.sl 12 [[(.v (.int .i64 (.ofNat 4))), (.v (.int .i64 (.ofNat 3))), (.v (.int .i64 (.ofNat 0))), (.v (.int .i64 (.ofNat 0))), (.v (.int .i64 (.ofNat 0))), (.v (.slice none 0 0)), (.v (.slice none 0 0)), (.v (.slice none 0 0)), (.v (.int .i64 (.ofNat 0))), (.v (.string ⟨⟨[]⟩⟩)), (.v (.int .i64 (.ofNat 0))), (.v (.slice none 0 0))], [(.v (.int .i64 (.ofNat 23))), (.v (.int .i64 (.ofNat 0))), (.v (.int .i64 (.ofNat 4))), (.v (.int .i64 (.ofNat 0))), (.v (.int .i64 (.ofNat 0))), (.v (.slice none 0 0)), (.v (.slice none 0 0)), (.v (.slice none 0 0)), (.v (.int .i64 (.ofNat 0))), (.v (.string ⟨⟨[]⟩⟩)), (.v (.int .i64 (.ofNat 0))), (.sl 12 [[(.v (.int .i64 (.ofNat 4))), (.v (.int .i64 (.ofNat 3))), (.v (.int .i64 (.ofNat 0))), (.v (.int .i64 (.ofNat 0))), (.v (.int .i64 (.ofNat 0))), (.v (.slice none 0 0)), (.v (.slice none 0 0)), (.v (.slice none 0 0)), (.v (.int .i64 (.ofNat 1))), (.v (.string ⟨⟨[]⟩⟩)), (.v (.int .i64 (.ofNat 0))), (.v (.slice none 0 0))]])]])])]
abbrev az235 : AV := (.agg [(.v (.int .i64 (.ofNat 0))), (.v (.int .i64 (.ofNat 0))), (.v (.string ⟨⟨[]⟩⟩)), (.v (.slice none 0 0)), (.v (.int .i64 (.ofNat 0))), (.sl 1 [[(.v (.string ⟨⟨[121]⟩⟩))]]), (.sl 4 [[(.v (.int .i64 (.ofNat 0))), (.sl 1 [[(.v (.string ⟨⟨[113]⟩⟩))]]), (.v (.slice none 0 0)), (.v (.slice none 0 0))]]), (.v (.slice none 0 0))])
abbrev aq235 : Nat × List AV × AV := (51, ax235, az235)
-- own steps 1003
theorem ar235 : runV Tryz.prog glob tab (cfgF [aq189, aq195, aq196, aq200, aq209, aq212, aq222]) 1000000 51 ax235 = some az235 := by kernel_rfl
theorem at235 : Pure env.toCx 51 ax235 (.ret az235) := run_fact (fok1 at189 (fok1 at195 (fok1 at196 (fok1 at200 (fok1 at209 (fok1 at212 (fok1 at222 fok0))))))) ar235
end Go.Proofs.YtcngmkedekmkhaaGreat
