/-
  Own work, printed by the runner. Closed calls, run in the kernel.
-/
import Derived.Test.YtcngmkedekmkhaaGreatFc
namespace Go.Proofs.YtcngmkedekmkhaaGreat
open Go Go.Bw
set_option maxRecDepth 1000000

abbrev dx13 : List AV := [(.agg [(.v (.int .i64 (.ofNat 4))), (.v (.int .i64 (.ofNat 0))), (.v (.int .i64 (.ofNat 0))), (.v (.slice none 0 0)), (.v (.slice none 0 0)), (.v (.slice none 0 0))])]
abbrev dz13 : AV := (.v (.int .i64 (.ofNat 0)))
abbrev dq13 : Nat × List AV × AV := (108, dx13, dz13)
-- own steps 113
theorem dr13 : runV Tryz.prog glob tab (cfgF []) 1000000 108 dx13 = some dz13 := by kernel_rfl
theorem dt13 : Pure env.toCx 108 dx13 (.ret dz13) := run_fact fok0 dr13

abbrev dx18 : List AV := [(.agg [(.v (.string ⟨⟨[102]⟩⟩)), (.v (.string ⟨⟨[111]⟩⟩)), (.v (.slice none 0 0)), (.v (.int .i64 (.ofNat 0))), (.v (.int .i64 (.ofNat 16))), (.v (.int .i64 (.ofNat 0))), (.v (.int .i64 (.ofNat 4))), (.v (.int .i64 (.ofNat 0))), (.v (.int .i64 (.ofNat 0))), (.v (.slice none 0 0)), (.v (.slice none 0 0)), (.v (.slice none 0 0)), (.v (.int .i64 (.ofNat 0))), (.v (.string ⟨⟨[]⟩⟩)), (.v (.int .i64 (.ofNat 2))), (.sl 12 [[(.v (.int .i64 (.ofNat 5))), (.v (.int .i64 (.ofNat 0))), (.v (.int .i64 (.ofNat 4))), (.v (.int .i64 (.ofNat 0))), (.v (.int .i64 (.ofNat 0))), (.v (.slice none 0 0)), (.v (.slice none 0 0)), (.v (.slice none 0 0)), (.v (.int .i64 (.ofNat 0))), (.v (.string ⟨⟨[]⟩⟩)), (.v (.int .i64 (.ofNat 0))), (.v (.slice none 0 0))], [(.v (.int .i64 (.ofNat 23))), (.v (.int .i64 (.ofNat 0))), (.v (.int .i64 (.ofNat 4))), (.v (.int .i64 (.ofNat 0))), (.v (.int .i64 (.ofNat 0))), (.v (.slice none 0 0)), (.v (.slice none 0 0)), (.v (.slice none 0 0)), (.v (.int .i64 (.ofNat 0))), (.v (.string ⟨⟨[]⟩⟩)), (.v (.int .i64 (.ofNat 7))), (.sl 12 [[(.v (.int .i64 (.ofNat 3))), (.v (.int .i64 (.ofNat 3))), (.v (.int .i64 (.ofNat 0))), (.v (.int .i64 (.ofNat 0))), (.v (.int .i64 (.ofNat 0))), (.v (.slice none 0 0)), (.v (.slice none 0 0)), (.v (.slice none 0 0)), (.v (.int .i64 (.ofNat 0))), (.v (.string ⟨⟨[97]⟩⟩)), (.v (.int .i64 (.ofNat 11))), (.v (.slice none 0 0))]])]])])]
abbrev dz18 : AV := (.v (.bool true))
abbrev dq18 : Nat × List AV × AV := (117, dx18, dz18)
-- own steps 72
theorem dr18 : runV Tryz.prog glob tab (cfgF []) 1000000 117 dx18 = some dz18 := by kernel_rfl
theorem dt18 : Pure env.toCx 117 dx18 (.ret dz18) := run_fact fok0 dr18

abbrev dx23 : List AV := [(.v (.slice none 0 0)), (.agg [(.v (.int .i64 (.ofNat 5))), (.v (.int .i64 (.ofNat 0))), (.v (.int .i64 (.ofNat 4))), (.v (.int .i64 (.ofNat 0))), (.v (.int .i64 (.ofNat 0))), (.v (.slice none 0 0)), (.v (.slice none 0 0)), (.v (.slice none 0 0)), (.v (.int .i64 (.ofNat 0))), (.v (.string ⟨⟨[]⟩⟩)), (.v (.int .i64 (.ofNat 0))), (.v (.slice none 0 0))])]
abbrev dz23 : AV := (.tup [(.agg [(.v (.int .i64 (.ofNat 49))), (.v (.string ⟨⟨[]⟩⟩)), (.v (.int .i64 (.ofNat 0))), (.v (.int .i64 (.ofNat 0))), (.v (.slice none 0 0))]), (.v (.bool true))])
abbrev dq23 : Nat × List AV × AV := (118, dx23, dz23)
-- own steps 99
theorem dr23 : runV Tryz.prog glob tab (cfgF []) 1000000 118 dx23 = some dz23 := by kernel_rfl
theorem dt23 : Pure env.toCx 118 dx23 (.ret dz23) := run_fact fok0 dr23

abbrev dx27 : List AV := [(.v (.slice none 0 0)), (.agg [(.v (.int .i64 (.ofNat 3))), (.v (.int .i64 (.ofNat 3))), (.v (.int .i64 (.ofNat 0))), (.v (.int .i64 (.ofNat 0))), (.v (.int .i64 (.ofNat 0))), (.v (.slice none 0 0)), (.v (.slice none 0 0)), (.v (.slice none 0 0)), (.v (.int .i64 (.ofNat 0))), (.v (.string ⟨⟨[97]⟩⟩)), (.v (.int .i64 (.ofNat 11))), (.v (.slice none 0 0))])]
abbrev dz27 : AV := (.tup [(.agg [(.v (.int .i64 (.ofNat 47))), (.v (.string ⟨⟨[97]⟩⟩)), (.v (.int .i64 (.ofNat 0))), (.v (.int .i64 (.ofNat 11))), (.v (.slice none 0 0))]), (.v (.bool true))])
abbrev dq27 : Nat × List AV × AV := (182, dx27, dz27)
-- own steps 101
theorem dr27 : runV Tryz.prog glob tab (cfgF []) 1000000 182 dx27 = some dz27 := by kernel_rfl
theorem dt27 : Pure env.toCx 182 dx27 (.ret dz27) := run_fact fok0 dr27

abbrev dx28 : List AV := [(.v (.slice none 0 0)), (.agg [(.v (.int .i64 (.ofNat 3))), (.v (.int .i64 (.ofNat 3))), (.v (.int .i64 (.ofNat 0))), (.v (.int .i64 (.ofNat 0))), (.v (.int .i64 (.ofNat 0))), (.v (.slice none 0 0)), (.v (.slice none 0 0)), (.v (.slice none 0 0)), (.v (.int .i64 (.ofNat 0))), (.v (.string ⟨⟨[97]⟩⟩)), (.v (.int .i64 (.ofNat 11))), (.v (.slice none 0 0))])]
abbrev dz28 : AV := (.tup [(.agg [(.v (.int .i64 (.ofNat 47))), (.v (.string ⟨⟨[97]⟩⟩)), (.v (.int .i64 (.ofNat 0))), (.v (.int .i64 (.ofNat 11))), (.v (.slice none 0 0))]), (.v (.bool true))])
abbrev dq28 : Nat × List AV × AV := (118, dx28, dz28)
-- own steps 30
theorem dr28 : runV Tryz.prog glob tab (cfgF [dq27]) 1000000 118 dx28 = some dz28 := by kernel_rfl
theorem dt28 : Pure env.toCx 118 dx28 (.ret dz28) := run_fact (fok1 dt27 fok0) dr28

abbrev dx31 : List AV := [(.v (.slice none 0 0)), (.agg [(.v (.int .i64 (.ofNat 23))), (.v (.int .i64 (.ofNat 0))), (.v (.int .i64 (.ofNat 4))), (.v (.int .i64 (.ofNat 0))), (.v (.int .i64 (.ofNat 0))), (.v (.slice none 0 0)), (.v (.slice none 0 0)), (.v (.slice none 0 0)), (.v (.int .i64 (.ofNat 0))), (.v (.string ⟨⟨[]⟩⟩)), (.v (.int .i64 (.ofNat 7))), (.sl 12 [[(.v (.int .i64 (.ofNat 3))), (.v (.int .i64 (.ofNat 3))), (.v (.int .i64 (.ofNat 0))), (.v (.int .i64 (.ofNat 0))), (.v (.int .i64 (.ofNat 0))), (.v (.slice none 0 0)), (.v (.slice none 0 0)), (.v (.slice none 0 0)), (.v (.int .i64 (.ofNat 0))), (.v (.string ⟨⟨[97]⟩⟩)), (.v (.int .i64 (.ofNat 11))), (.v (.slice none 0 0))]])])]
abbrev dz31 : AV := (.tup [(.agg [(.v (.int .i64 (.ofNat 51))), (.v (.string ⟨⟨[115, 101, 116]⟩⟩)), (.v (.int .i64 (.ofNat 0))), (.v (.int .i64 (.ofNat 7))), (.sl 5 [[(.v (.int .i64 (.ofNat 47))), (.v (.string ⟨⟨[97]⟩⟩)), (.v (.int .i64 (.ofNat 0))), (.v (.int .i64 (.ofNat 11))), (.v (.slice none 0 0))]])]), (.v (.bool true))])
abbrev dq31 : Nat × List AV × AV := (118, dx31, dz31)
-- own steps 164
theorem dr31 : runV Tryz.prog glob tab (cfgF [dq28]) 1000000 118 dx31 = some dz31 := by kernel_rfl
theorem dt31 : Pure env.toCx 118 dx31 (.ret dz31) := run_fact (fok1 dt28 fok0) dr31

abbrev dx33 : List AV := [(.v (.slice none 0 0)), (.agg [(.v (.int .i64 (.ofNat 16))), (.v (.int .i64 (.ofNat 0))), (.v (.int .i64 (.ofNat 4))), (.v (.int .i64 (.ofNat 0))), (.v (.int .i64 (.ofNat 0))), (.v (.slice none 0 0)), (.v (.slice none 0 0)), (.v (.slice none 0 0)), (.v (.int .i64 (.ofNat 0))), (.v (.string ⟨⟨[]⟩⟩)), (.v (.int .i64 (.ofNat 2))), (.sl 12 [[(.v (.int .i64 (.ofNat 5))), (.v (.int .i64 (.ofNat 0))), (.v (.int .i64 (.ofNat 4))), (.v (.int .i64 (.ofNat 0))), (.v (.int .i64 (.ofNat 0))), (.v (.slice none 0 0)), (.v (.slice none 0 0)), (.v (.slice none 0 0)), (.v (.int .i64 (.ofNat 0))), (.v (.string ⟨⟨[]⟩⟩)), (.v (.int .i64 (.ofNat 0))), (.v (.slice none 0 0))], [(.v (.int .i64 (.ofNat 23))), (.v (.int .i64 (.ofNat 0))), (.v (.int .i64 (.ofNat 4))), (.v (.int .i64 (.ofNat 0))), (.v (.int .i64 (.ofNat 0))), (.v (.slice none 0 0)), (.v (.slice none 0 0)), (.v (.slice none 0 0)), (.v (.int .i64 (.ofNat 0))), (.v (.string ⟨⟨[]⟩⟩)), (.v (.int .i64 (.ofNat 7))), (.sl 12 [[(.v (.int .i64 (.ofNat 3))), (.v (.int .i64 (.ofNat 3))), (.v (.int .i64 (.ofNat 0))), (.v (.int .i64 (.ofNat 0))), (.v (.int .i64 (.ofNat 0))), (.v (.slice none 0 0)), (.v (.slice none 0 0)), (.v (.slice none 0 0)), (.v (.int .i64 (.ofNat 0))), (.v (.string ⟨⟨[97]⟩⟩)), (.v (.int .i64 (.ofNat 11))), (.v (.slice none 0 0))]])]])])]
abbrev dz33 : AV := (.tup [(.agg [(.v (.int .i64 (.ofNat 39))), (.v (.string ⟨⟨[]⟩⟩)), (.v (.int .i64 (.ofNat 0))), (.v (.int .i64 (.ofNat 2))), (.sl 5 [[(.v (.int .i64 (.ofNat 49))), (.v (.string ⟨⟨[]⟩⟩)), (.v (.int .i64 (.ofNat 0))), (.v (.int .i64 (.ofNat 0))), (.v (.slice none 0 0))], [(.v (.int .i64 (.ofNat 51))), (.v (.string ⟨⟨[115, 101, 116]⟩⟩)), (.v (.int .i64 (.ofNat 0))), (.v (.int .i64 (.ofNat 7))), (.sl 5 [[(.v (.int .i64 (.ofNat 47))), (.v (.string ⟨⟨[97]⟩⟩)), (.v (.int .i64 (.ofNat 0))), (.v (.int .i64 (.ofNat 11))), (.v (.slice none 0 0))]])]])]), (.v (.bool true))])
abbrev dq33 : Nat × List AV × AV := (118, dx33, dz33)
-- own steps 374
theorem dr33 : runV Tryz.prog glob tab (cfgF [dq23, dq28]) 1000000 118 dx33 = some dz33 := by kernel_rfl
theorem dt33 : Pure env.toCx 118 dx33 (.ret dz33) := run_fact (fok1 dt23 (fok1 dt28 fok0)) dr33

abbrev dx48 : List AV := [(.agg [(.v (.int .i64 (.ofNat 0))), (.v (.int .i64 (.ofNat 4))), (.v (.int .i64 (.ofNat 0))), (.v (.int .i64 (.ofNat 0))), (.v (.slice none 0 0)), (.v (.slice none 0 0)), (.v (.slice none 0 0))]), (.agg [(.v (.int .i64 (.ofNat 0))), (.v (.int .i64 (.ofNat 4))), (.v (.int .i64 (.ofNat 0))), (.v (.int .i64 (.ofNat 0))), (.v (.slice none 0 0)), (.v (.slice none 0 0)), (.v (.slice none 0 0))])]
abbrev dz48 : AV := (.v (.bool true))
abbrev dq48 : Nat × List AV × AV := (192, dx48, dz48)
-- own steps 27
theorem dr48 : runV Tryz.prog glob tab (cfgF []) 1000000 192 dx48 = some dz48 := by kernel_rfl
theorem dt48 : Pure env.toCx 192 dx48 (.ret dz48) := run_fact fok0 dr48

abbrev dx53 : List AV := [(.agg [(.v (.int .i64 (.ofNat 4))), (.v (.int .i64 (.ofNat 0))), (.v (.int .i64 (.ofNat 0))), (.v (.slice none 0 0)), (.v (.slice none 0 0)), (.v (.slice none 0 0))]), (.v (.slice none 0 0)), (.agg [(.v (.int .i64 (.ofNat 0))), (.v (.int .i64 (.ofNat 4))), (.v (.int .i64 (.ofNat 0))), (.v (.int .i64 (.ofNat 0))), (.v (.slice none 0 0)), (.v (.slice none 0 0)), (.v (.slice none 0 0))]), (.agg [(.v (.int .i64 (.ofNat 39))), (.v (.string ⟨⟨[]⟩⟩)), (.v (.int .i64 (.ofNat 0))), (.v (.int .i64 (.ofNat 2))), (.sl 5 [[(.v (.int .i64 (.ofNat 49))), (.v (.string ⟨⟨[]⟩⟩)), (.v (.int .i64 (.ofNat 0))), (.v (.int .i64 (.ofNat 0))), (.v (.slice none 0 0))], [(.v (.int .i64 (.ofNat 51))), (.v (.string ⟨⟨[115, 101, 116]⟩⟩)), (.v (.int .i64 (.ofNat 0))), (.v (.int .i64 (.ofNat 7))), (.sl 5 [[(.v (.int .i64 (.ofNat 47))), (.v (.string ⟨⟨[97]⟩⟩)), (.v (.int .i64 (.ofNat 0))), (.v (.int .i64 (.ofNat 11))), (.v (.slice none 0 0))]])]])])]
abbrev dz53 : AV := (.tup [(.agg [(.v (.int .i64 (.ofNat 16))), (.v (.int .i64 (.ofNat 0))), (.v (.int .i64 (.ofNat 4))), (.v (.int .i64 (.ofNat 0))), (.v (.int .i64 (.ofNat 0))), (.v (.slice none 0 0)), (.v (.slice none 0 0)), (.v (.slice none 0 0)), (.v (.int .i64 (.ofNat 0))), (.v (.string ⟨⟨[]⟩⟩)), (.v (.int .i64 (.ofNat 2))), (.sl 12 [[(.v (.int .i64 (.ofNat 5))), (.v (.int .i64 (.ofNat 0))), (.v (.int .i64 (.ofNat 4))), (.v (.int .i64 (.ofNat 0))), (.v (.int .i64 (.ofNat 0))), (.v (.slice none 0 0)), (.v (.slice none 0 0)), (.v (.slice none 0 0)), (.v (.int .i64 (.ofNat 0))), (.v (.string ⟨⟨[]⟩⟩)), (.v (.int .i64 (.ofNat 0))), (.v (.slice none 0 0))], [(.v (.int .i64 (.ofNat 23))), (.v (.int .i64 (.ofNat 0))), (.v (.int .i64 (.ofNat 4))), (.v (.int .i64 (.ofNat 0))), (.v (.int .i64 (.ofNat 0))), (.v (.slice none 0 0)), (.v (.slice none 0 0)), (.v (.slice none 0 0)), (.v (.int .i64 (.ofNat 0))), (.v (.string ⟨⟨[]⟩⟩)), (.v (.int .i64 (.ofNat 7))), (.sl 12 [[(.v (.int .i64 (.ofNat 3))), (.v (.int .i64 (.ofNat 3))), (.v (.int .i64 (.ofNat 0))), (.v (.int .i64 (.ofNat 0))), (.v (.int .i64 (.ofNat 0))), (.v (.slice none 0 0)), (.v (.slice none 0 0)), (.v (.slice none 0 0)), (.v (.int .i64 (.ofNat 0))), (.v (.string ⟨⟨[97]⟩⟩)), (.v (.int .i64 (.ofNat 11))), (.v (.slice none 0 0))]])]])]), (.agg [(.v (.int .i64 (.ofNat 0))), (.v (.int .i64 (.ofNat 0)))])])
abbrev dq53 : Nat × List AV × AV := (119, dx53, dz53)
-- own steps 1068
theorem dr53 : runV Tryz.prog glob tab (cfgF [dq48]) 1000000 119 dx53 = some dz53 := by kernel_rfl
theorem dt53 : Pure env.toCx 119 dx53 (.ret dz53) := run_fact (fok1 dt48 fok0) dr53

abbrev dx55 : List AV := [(.agg [(.v (.int .i64 (.ofNat 5))), (.v (.int .i64 (.ofNat 0))), (.v (.int .i64 (.ofNat 4))), (.v (.int .i64 (.ofNat 0))), (.v (.int .i64 (.ofNat 0))), (.v (.slice none 0 0)), (.v (.slice none 0 0)), (.v (.slice none 0 0)), (.v (.int .i64 (.ofNat 0))), (.v (.string ⟨⟨[]⟩⟩)), (.v (.int .i64 (.ofNat 0))), (.v (.slice none 0 0))]), (.agg [(.v (.int .i64 (.ofNat 5))), (.v (.int .i64 (.ofNat 0))), (.v (.int .i64 (.ofNat 4))), (.v (.int .i64 (.ofNat 0))), (.v (.int .i64 (.ofNat 0))), (.v (.slice none 0 0)), (.v (.slice none 0 0)), (.v (.slice none 0 0)), (.v (.int .i64 (.ofNat 0))), (.v (.string ⟨⟨[]⟩⟩)), (.v (.int .i64 (.ofNat 0))), (.v (.slice none 0 0))])]
abbrev dz55 : AV := (.v (.bool true))
abbrev dq55 : Nat × List AV × AV := (121, dx55, dz55)
-- own steps 75
theorem dr55 : runV Tryz.prog glob tab (cfgF [dq48]) 1000000 121 dx55 = some dz55 := by kernel_rfl
theorem dt55 : Pure env.toCx 121 dx55 (.ret dz55) := run_fact (fok1 dt48 fok0) dr55

abbrev dx57 : List AV := [(.agg [(.v (.int .i64 (.ofNat 3))), (.v (.int .i64 (.ofNat 0))), (.v (.int .i64 (.ofNat 0))), (.v (.int .i64 (.ofNat 0))), (.v (.slice none 0 0)), (.v (.slice none 0 0)), (.v (.slice none 0 0))]), (.agg [(.v (.int .i64 (.ofNat 3))), (.v (.int .i64 (.ofNat 0))), (.v (.int .i64 (.ofNat 0))), (.v (.int .i64 (.ofNat 0))), (.v (.slice none 0 0)), (.v (.slice none 0 0)), (.v (.slice none 0 0))])]
abbrev dz57 : AV := (.v (.bool true))
abbrev dq57 : Nat × List AV × AV := (192, dx57, dz57)
-- own steps 27
theorem dr57 : runV Tryz.prog glob tab (cfgF []) 1000000 192 dx57 = some dz57 := by kernel_rfl
theorem dt57 : Pure env.toCx 192 dx57 (.ret dz57) := run_fact fok0 dr57

abbrev dx58 : List AV := [(.agg [(.v (.int .i64 (.ofNat 3))), (.v (.int .i64 (.ofNat 3))), (.v (.int .i64 (.ofNat 0))), (.v (.int .i64 (.ofNat 0))), (.v (.int .i64 (.ofNat 0))), (.v (.slice none 0 0)), (.v (.slice none 0 0)), (.v (.slice none 0 0)), (.v (.int .i64 (.ofNat 0))), (.v (.string ⟨⟨[97]⟩⟩)), (.v (.int .i64 (.ofNat 11))), (.v (.slice none 0 0))]), (.agg [(.v (.int .i64 (.ofNat 3))), (.v (.int .i64 (.ofNat 3))), (.v (.int .i64 (.ofNat 0))), (.v (.int .i64 (.ofNat 0))), (.v (.int .i64 (.ofNat 0))), (.v (.slice none 0 0)), (.v (.slice none 0 0)), (.v (.slice none 0 0)), (.v (.int .i64 (.ofNat 0))), (.v (.string ⟨⟨[97]⟩⟩)), (.v (.int .i64 (.ofNat 11))), (.v (.slice none 0 0))])]
abbrev dz58 : AV := (.v (.bool true))
abbrev dq58 : Nat × List AV × AV := (121, dx58, dz58)
-- own steps 75
theorem dr58 : runV Tryz.prog glob tab (cfgF [dq57]) 1000000 121 dx58 = some dz58 := by kernel_rfl
theorem dt58 : Pure env.toCx 121 dx58 (.ret dz58) := run_fact (fok1 dt57 fok0) dr58

abbrev dx59 : List AV := [(.sl 12 [[(.v (.int .i64 (.ofNat 3))), (.v (.int .i64 (.ofNat 3))), (.v (.int .i64 (.ofNat 0))), (.v (.int .i64 (.ofNat 0))), (.v (.int .i64 (.ofNat 0))), (.v (.slice none 0 0)), (.v (.slice none 0 0)), (.v (.slice none 0 0)), (.v (.int .i64 (.ofNat 0))), (.v (.string ⟨⟨[97]⟩⟩)), (.v (.int .i64 (.ofNat 11))), (.v (.slice none 0 0))]]), (.sl 12 [[(.v (.int .i64 (.ofNat 3))), (.v (.int .i64 (.ofNat 3))), (.v (.int .i64 (.ofNat 0))), (.v (.int .i64 (.ofNat 0))), (.v (.int .i64 (.ofNat 0))), (.v (.slice none 0 0)), (.v (.slice none 0 0)), (.v (.slice none 0 0)), (.v (.int .i64 (.ofNat 0))), (.v (.string ⟨⟨[97]⟩⟩)), (.v (.int .i64 (.ofNat 11))), (.v (.slice none 0 0))]]), (.v (.func (.func 121) #[] #[]))]
abbrev dz59 : AV := (.v (.bool true))
abbrev dq59 : Nat × List AV × AV := (193, dx59, dz59)
-- own steps 78
theorem dr59 : runV Tryz.prog glob tab (cfgF [dq58]) 1000000 193 dx59 = some dz59 := by kernel_rfl
theorem dt59 : Pure env.toCx 193 dx59 (.ret dz59) := run_fact (fok1 dt58 fok0) dr59

abbrev dx60 : List AV := [(.agg [(.v (.int .i64 (.ofNat 23))), (.v (.int .i64 (.ofNat 0))), (.v (.int .i64 (.ofNat 4))), (.v (.int .i64 (.ofNat 0))), (.v (.int .i64 (.ofNat 0))), (.v (.slice none 0 0)), (.v (.slice none 0 0)), (.v (.slice none 0 0)), (.v (.int .i64 (.ofNat 0))), (.v (.string ⟨⟨[]⟩⟩)), (.v (.int .i64 (.ofNat 7))), (.sl 12 [[(.v (.int .i64 (.ofNat 3))), (.v (.int .i64 (.ofNat 3))), (.v (.int .i64 (.ofNat 0))), (.v (.int .i64 (.ofNat 0))), (.v (.int .i64 (.ofNat 0))), (.v (.slice none 0 0)), (.v (.slice none 0 0)), (.v (.slice none 0 0)), (.v (.int .i64 (.ofNat 0))), (.v (.string ⟨⟨[97]⟩⟩)), (.v (.int .i64 (.ofNat 11))), (.v (.slice none 0 0))]])]), (.agg [(.v (.int .i64 (.ofNat 23))), (.v (.int .i64 (.ofNat 0))), (.v (.int .i64 (.ofNat 4))), (.v (.int .i64 (.ofNat 0))), (.v (.int .i64 (.ofNat 0))), (.v (.slice none 0 0)), (.v (.slice none 0 0)), (.v (.slice none 0 0)), (.v (.int .i64 (.ofNat 0))), (.v (.string ⟨⟨[]⟩⟩)), (.v (.int .i64 (.ofNat 7))), (.sl 12 [[(.v (.int .i64 (.ofNat 3))), (.v (.int .i64 (.ofNat 3))), (.v (.int .i64 (.ofNat 0))), (.v (.int .i64 (.ofNat 0))), (.v (.int .i64 (.ofNat 0))), (.v (.slice none 0 0)), (.v (.slice none 0 0)), (.v (.slice none 0 0)), (.v (.int .i64 (.ofNat 0))), (.v (.string ⟨⟨[97]⟩⟩)), (.v (.int .i64 (.ofNat 11))), (.v (.slice none 0 0))]])])]
abbrev dz60 : AV := (.v (.bool true))
abbrev dq60 : Nat × List AV × AV := (121, dx60, dz60)
-- own steps 75
theorem dr60 : runV Tryz.prog glob tab (cfgF [dq48, dq59]) 1000000 121 dx60 = some dz60 := by kernel_rfl
theorem dt60 : Pure env.toCx 121 dx60 (.ret dz60) := run_fact (fok1 dt48 (fok1 dt59 fok0)) dr60

abbrev dx61 : List AV := [(.sl 12 [[(.v (.int .i64 (.ofNat 5))), (.v (.int .i64 (.ofNat 0))), (.v (.int .i64 (.ofNat 4))), (.v (.int .i64 (.ofNat 0))), (.v (.int .i64 (.ofNat 0))), (.v (.slice none 0 0)), (.v (.slice none 0 0)), (.v (.slice none 0 0)), (.v (.int .i64 (.ofNat 0))), (.v (.string ⟨⟨[]⟩⟩)), (.v (.int .i64 (.ofNat 0))), (.v (.slice none 0 0))], [(.v (.int .i64 (.ofNat 23))), (.v (.int .i64 (.ofNat 0))), (.v (.int .i64 (.ofNat 4))), (.v (.int .i64 (.ofNat 0))), (.v (.int .i64 (.ofNat 0))), (.v (.slice none 0 0)), (.v (.slice none 0 0)), (.v (.slice none 0 0)), (.v (.int .i64 (.ofNat 0))), (.v (.string ⟨⟨[]⟩⟩)), (.v (.int .i64 (.ofNat 7))), (.sl 12 [[(.v (.int .i64 (.ofNat 3))), (.v (.int .i64 (.ofNat 3))), (.v (.int .i64 (.ofNat 0))), (.v (.int .i64 (.ofNat 0))), (.v (.int .i64 (.ofNat 0))), (.v (.slice none 0 0)), (.v (.slice none 0 0)), (.v (.slice none 0 0)), (.v (.int .i64 (.ofNat 0))), (.v (.string ⟨⟨[97]⟩⟩)), (.v (.int .i64 (.ofNat 11))), (.v (.slice none 0 0))]])]]), (.sl 12 [[(.v (.int .i64 (.ofNat 5))), (.v (.int .i64 (.ofNat 0))), (.v (.int .i64 (.ofNat 4))), (.v (.int .i64 (.ofNat 0))), (.v (.int .i64 (.ofNat 0))), (.v (.slice none 0 0)), (.v (.slice none 0 0)), (.v (.slice none 0 0)), (.v (.int .i64 (.ofNat 0))), (.v (.string ⟨⟨[]⟩⟩)), (.v (.int .i64 (.ofNat 0))), (.v (.slice none 0 0))], [(.v (.int .i64 (.ofNat 23))), (.v (.int .i64 (.ofNat 0))), (.v (.int .i64 (.ofNat 4))), (.v (.int .i64 (.ofNat 0))), (.v (.int .i64 (.ofNat 0))), (.v (.slice none 0 0)), (.v (.slice none 0 0)), (.v (.slice none 0 0)), (.v (.int .i64 (.ofNat 0))), (.v (.string ⟨⟨[]⟩⟩)), (.v (.int .i64 (.ofNat 7))), (.sl 12 [[(.v (.int .i64 (.ofNat 3))), (.v (.int .i64 (.ofNat 3))), (.v (.int .i64 (.ofNat 0))), (.v (.int .i64 (.ofNat 0))), (.v (.int .i64 (.ofNat 0))), (.v (.slice none 0 0)), (.v (.slice none 0 0)), (.v (.slice none 0 0)), (.v (.int .i64 (.ofNat 0))), (.v (.string ⟨⟨[97]⟩⟩)), (.v (.int .i64 (.ofNat 11))), (.v (.slice none 0 0))]])]]), (.v (.func (.func 121) #[] #[]))]
abbrev dz61 : AV := (.v (.bool true))
abbrev dq61 : Nat × List AV × AV := (193, dx61, dz61)
-- own steps 121
theorem dr61 : runV Tryz.prog glob tab (cfgF [dq55, dq60]) 1000000 193 dx61 = some dz61 := by kernel_rfl
theorem dt61 : Pure env.toCx 193 dx61 (.ret dz61) := run_fact (fok1 dt55 (fok1 dt60 fok0)) dr61

abbrev dx62 : List AV := [(.agg [(.v (.int .i64 (.ofNat 16))), (.v (.int .i64 (.ofNat 0))), (.v (.int .i64 (.ofNat 4))), (.v (.int .i64 (.ofNat 0))), (.v (.int .i64 (.ofNat 0))), (.v (.slice none 0 0)), (.v (.slice none 0 0)), (.v (.slice none 0 0)), (.v (.int .i64 (.ofNat 0))), (.v (.string ⟨⟨[]⟩⟩)), (.v (.int .i64 (.ofNat 2))), (.sl 12 [[(.v (.int .i64 (.ofNat 5))), (.v (.int .i64 (.ofNat 0))), (.v (.int .i64 (.ofNat 4))), (.v (.int .i64 (.ofNat 0))), (.v (.int .i64 (.ofNat 0))), (.v (.slice none 0 0)), (.v (.slice none 0 0)), (.v (.slice none 0 0)), (.v (.int .i64 (.ofNat 0))), (.v (.string ⟨⟨[]⟩⟩)), (.v (.int .i64 (.ofNat 0))), (.v (.slice none 0 0))], [(.v (.int .i64 (.ofNat 23))), (.v (.int .i64 (.ofNat 0))), (.v (.int .i64 (.ofNat 4))), (.v (.int .i64 (.ofNat 0))), (.v (.int .i64 (.ofNat 0))), (.v (.slice none 0 0)), (.v (.slice none 0 0)), (.v (.slice none 0 0)), (.v (.int .i64 (.ofNat 0))), (.v (.string ⟨⟨[]⟩⟩)), (.v (.int .i64 (.ofNat 7))), (.sl 12 [[(.v (.int .i64 (.ofNat 3))), (.v (.int .i64 (.ofNat 3))), (.v (.int .i64 (.ofNat 0))), (.v (.int .i64 (.ofNat 0))), (.v (.int .i64 (.ofNat 0))), (.v (.slice none 0 0)), (.v (.slice none 0 0)), (.v (.slice none 0 0)), (.v (.int .i64 (.ofNat 0))), (.v (.string ⟨⟨[97]⟩⟩)), (.v (.int .i64 (.ofNat 11))), (.v (.slice none 0 0))]])]])]), (.agg [(.v (.int .i64 (.ofNat 16))), (.v (.int .i64 (.ofNat 0))), (.v (.int .i64 (.ofNat 4))), (.v (.int .i64 (.ofNat 0))), (.v (.int .i64 (.ofNat 0))), (.v (.slice none 0 0)), (.v (.slice none 0 0)), (.v (.slice none 0 0)), (.v (.int .i64 (.ofNat 0))), (.v (.string ⟨⟨[]⟩⟩)), (.v (.int .i64 (.ofNat 2))), (.sl 12 [[(.v (.int .i64 (.ofNat 5))), (.v (.int .i64 (.ofNat 0))), (.v (.int .i64 (.ofNat 4))), (.v (.int .i64 (.ofNat 0))), (.v (.int .i64 (.ofNat 0))), (.v (.slice none 0 0)), (.v (.slice none 0 0)), (.v (.slice none 0 0)), (.v (.int .i64 (.ofNat 0))), (.v (.string ⟨⟨[]⟩⟩)), (.v (.int .i64 (.ofNat 0))), (.v (.slice none 0 0))], [(.v (.int .i64 (.ofNat 23))), (.v (.int .i64 (.ofNat 0))), (.v (.int .i64 (.ofNat 4))), (.v (.int .i64 (.ofNat 0))), (.v (.int .i64 (.ofNat 0))), (.v (.slice none 0 0)), (.v (.slice none 0 0)), (.v (.slice none 0 0)), (.v (.int .i64 (.ofNat 0))), (.v (.string ⟨⟨[]⟩⟩)), (.v (.int .i64 (.ofNat 7))), (.sl 12 [[(.v (.int .i64 (.ofNat 3))), (.v (.int .i64 (.ofNat 3))), (.v (.int .i64 (.ofNat 0))), (.v (.int .i64 (.ofNat 0))), (.v (.int .i64 (.ofNat 0))), (.v (.slice none 0 0)), (.v (.slice none 0 0)), (.v (.slice none 0 0)), (.v (.int .i64 (.ofNat 0))), (.v (.string ⟨⟨[97]⟩⟩)), (.v (.int .i64 (.ofNat 11))), (.v (.slice none 0 0))]])]])])]
abbrev dz62 : AV := (.v (.bool true))
abbrev dq62 : Nat × List AV × AV := (121, dx62, dz62)
-- own steps 75
theorem dr62 : runV Tryz.prog glob tab (cfgF [dq48, dq61]) 1000000 121 dx62 = some dz62 := by kernel_rfl
theorem dt62 : Pure env.toCx 121 dx62 (.ret dz62) := run_fact (fok1 dt48 (fok1 dt61 fok0)) dr62

abbrev dx63 : List AV := [(.agg [(.v (.int .i64 (.ofNat 4))), (.v (.int .i64 (.ofNat 0))), (.v (.int .i64 (.ofNat 0))), (.v (.slice none 0 0)), (.v (.slice none 0 0)), (.v (.slice none 0 0))]), (.agg [(.v (.string ⟨⟨[102]⟩⟩)), (.v (.string ⟨⟨[111]⟩⟩)), (.v (.slice none 0 0)), (.v (.int .i64 (.ofNat 0))), (.v (.int .i64 (.ofNat 16))), (.v (.int .i64 (.ofNat 0))), (.v (.int .i64 (.ofNat 4))), (.v (.int .i64 (.ofNat 0))), (.v (.int .i64 (.ofNat 0))), (.v (.slice none 0 0)), (.v (.slice none 0 0)), (.v (.slice none 0 0)), (.v (.int .i64 (.ofNat 0))), (.v (.string ⟨⟨[]⟩⟩)), (.v (.int .i64 (.ofNat 2))), (.sl 12 [[(.v (.int .i64 (.ofNat 5))), (.v (.int .i64 (.ofNat 0))), (.v (.int .i64 (.ofNat 4))), (.v (.int .i64 (.ofNat 0))), (.v (.int .i64 (.ofNat 0))), (.v (.slice none 0 0)), (.v (.slice none 0 0)), (.v (.slice none 0 0)), (.v (.int .i64 (.ofNat 0))), (.v (.string ⟨⟨[]⟩⟩)), (.v (.int .i64 (.ofNat 0))), (.v (.slice none 0 0))], [(.v (.int .i64 (.ofNat 23))), (.v (.int .i64 (.ofNat 0))), (.v (.int .i64 (.ofNat 4))), (.v (.int .i64 (.ofNat 0))), (.v (.int .i64 (.ofNat 0))), (.v (.slice none 0 0)), (.v (.slice none 0 0)), (.v (.slice none 0 0)), (.v (.int .i64 (.ofNat 0))), (.v (.string ⟨⟨[]⟩⟩)), (.v (.int .i64 (.ofNat 7))), (.sl 12 [[(.v (.int .i64 (.ofNat 3))), (.v (.int .i64 (.ofNat 3))), (.v (.int .i64 (.ofNat 0))), (.v (.int .i64 (.ofNat 0))), (.v (.int .i64 (.ofNat 0))), (.v (.slice none 0 0)), (.v (.slice none 0 0)), (.v (.slice none 0 0)), (.v (.int .i64 (.ofNat 0))), (.v (.string ⟨⟨[97]⟩⟩)), (.v (.int .i64 (.ofNat 11))), (.v (.slice none 0 0))]])]])])]
abbrev dz63 : AV := (.v (.bool true))
abbrev dq63 : Nat × List AV × AV := (82, dx63, dz63)
-- own steps 455
theorem dr63 : runV Tryz.prog glob tab (cfgF [dq13, dq18, dq23, dq28, dq53, dq62]) 1000000 82 dx63 = some dz63 := by kernel_rfl
theorem dt63 : Pure env.toCx 82 dx63 (.ret dz63) := run_fact (fok1 dt13 (fok1 dt18 (fok1 dt23 (fok1 dt28 (fok1 dt53 (fok1 dt62 fok0)))))) dr63

abbrev dx68 : List AV := [(.agg [(.v (.int .i64 (.ofNat 5))), (.v (.int .i64 (.ofNat 0))), (.v (.int .i64 (.ofNat 4))), (.v (.int .i64 (.ofNat 0))), (.v (.int .i64 (.ofNat 0))), (.v (.slice none 0 0)), (.v (.slice none 0 0)), (.v (.slice none 0 0)), (.v (.int .i64 (.ofNat 0))), (.v (.string ⟨⟨[]⟩⟩)), (.v (.int .i64 (.ofNat 0))), (.v (.slice none 0 0))]), (.agg [(.v (.int .i64 (.ofNat 5))), (.v (.int .i64 (.ofNat 0))), (.v (.int .i64 (.ofNat 4))), (.v (.int .i64 (.ofNat 0))), (.v (.int .i64 (.ofNat 0))), (.v (.slice none 0 0)), (.v (.slice none 0 0)), (.v (.slice none 0 0)), (.v (.int .i64 (.ofNat 0))), (.v (.string ⟨⟨[]⟩⟩)), (.v (.int .i64 (.ofNat 0))), (.v (.slice none 0 0))])]
abbrev dz68 : AV := (.v (.bool true))
abbrev dq68 : Nat × List AV × AV := (122, dx68, dz68)
-- own steps 63
theorem dr68 : runV Tryz.prog glob tab (cfgF [dq48]) 1000000 122 dx68 = some dz68 := by kernel_rfl
theorem dt68 : Pure env.toCx 122 dx68 (.ret dz68) := run_fact (fok1 dt48 fok0) dr68

abbrev dx70 : List AV := [(.agg [(.v (.int .i64 (.ofNat 5))), (.v (.int .i64 (.ofNat 0))), (.v (.int .i64 (.ofNat 4))), (.v (.int .i64 (.ofNat 0))), (.v (.int .i64 (.ofNat 0))), (.v (.slice none 0 0)), (.v (.slice none 0 0)), (.v (.slice none 0 0)), (.v (.int .i64 (.ofNat 0))), (.v (.string ⟨⟨[]⟩⟩)), (.v (.int .i64 (.ofNat 0))), (.v (.slice none 0 0))]), (.agg [(.v (.int .i64 (.ofNat 5))), (.v (.int .i64 (.ofNat 0))), (.v (.int .i64 (.ofNat 4))), (.v (.int .i64 (.ofNat 0))), (.v (.int .i64 (.ofNat 0))), (.v (.slice none 0 0)), (.v (.slice none 0 0)), (.v (.slice none 0 0)), (.v (.int .i64 (.ofNat 0))), (.v (.string ⟨⟨[]⟩⟩)), (.v (.int .i64 (.ofNat 0))), (.v (.slice none 0 0))])]
abbrev dz70 : AV := (.agg [(.v (.int .i64 (.ofNat 6))), (.v (.int .i64 (.ofNat 0))), (.v (.int .i64 (.ofNat 4))), (.v (.int .i64 (.ofNat 0))), (.v (.int .i64 (.ofNat 0))), (.v (.slice none 0 0)), (.v (.slice none 0 0)), (.v (.slice none 0 0)), (.v (.int .i64 (.ofNat 0))), (.v (.string ⟨⟨[]⟩⟩)), (.v (.int .i64 (.ofNat 0))), (.v (.slice none 0 0))])
abbrev dq70 : Nat × List AV × AV := (85, dx70, dz70)
-- own steps 20
theorem dr70 : runV Tryz.prog glob tab (cfgF [dq68]) 1000000 85 dx70 = some dz70 := by kernel_rfl
theorem dt70 : Pure env.toCx 85 dx70 (.ret dz70) := run_fact (fok1 dt68 fok0) dr70

abbrev dx74 : List AV := [(.agg [(.v (.int .i64 (.ofNat 5))), (.v (.int .i64 (.ofNat 0))), (.v (.int .i64 (.ofNat 4))), (.v (.int .i64 (.ofNat 0))), (.v (.int .i64 (.ofNat 0))), (.v (.slice none 0 0)), (.v (.slice none 0 0)), (.v (.slice none 0 0)), (.v (.int .i64 (.ofNat 0))), (.v (.string ⟨⟨[]⟩⟩)), (.v (.int .i64 (.ofNat 0))), (.v (.slice none 0 0))]), (.agg [(.v (.int .i64 (.ofNat 16))), (.v (.int .i64 (.ofNat 0))), (.v (.int .i64 (.ofNat 4))), (.v (.int .i64 (.ofNat 0))), (.v (.int .i64 (.ofNat 0))), (.v (.slice none 0 0)), (.v (.slice none 0 0)), (.v (.slice none 0 0)), (.v (.int .i64 (.ofNat 0))), (.v (.string ⟨⟨[]⟩⟩)), (.v (.int .i64 (.ofNat 2))), (.sl 12 [[(.v (.int .i64 (.ofNat 5))), (.v (.int .i64 (.ofNat 0))), (.v (.int .i64 (.ofNat 4))), (.v (.int .i64 (.ofNat 0))), (.v (.int .i64 (.ofNat 0))), (.v (.slice none 0 0)), (.v (.slice none 0 0)), (.v (.slice none 0 0)), (.v (.int .i64 (.ofNat 0))), (.v (.string ⟨⟨[]⟩⟩)), (.v (.int .i64 (.ofNat 0))), (.v (.slice none 0 0))], [(.v (.int .i64 (.ofNat 23))), (.v (.int .i64 (.ofNat 0))), (.v (.int .i64 (.ofNat 4))), (.v (.int .i64 (.ofNat 0))), (.v (.int .i64 (.ofNat 0))), (.v (.slice none 0 0)), (.v (.slice none 0 0)), (.v (.slice none 0 0)), (.v (.int .i64 (.ofNat 0))), (.v (.string ⟨⟨[]⟩⟩)), (.v (.int .i64 (.ofNat 7))), (.sl 12 [[(.v (.int .i64 (.ofNat 3))), (.v (.int .i64 (.ofNat 3))), (.v (.int .i64 (.ofNat 0))), (.v (.int .i64 (.ofNat 0))), (.v (.int .i64 (.ofNat 0))), (.v (.slice none 0 0)), (.v (.slice none 0 0)), (.v (.slice none 0 0)), (.v (.int .i64 (.ofNat 0))), (.v (.string ⟨⟨[97]⟩⟩)), (.v (.int .i64 (.ofNat 11))), (.v (.slice none 0 0))]])]])])]
abbrev dz74 : AV := (.agg [(.v (.int .i64 (.ofNat 23))), (.v (.int .i64 (.ofNat 0))), (.v (.int .i64 (.ofNat 4))), (.v (.int .i64 (.ofNat 0))), (.v (.int .i64 (.ofNat 0))), (.v (.slice none 0 0)), (.v (.slice none 0 0)), (.v (.slice none 0 0)), (.v (.int .i64 (.ofNat 0))), (.v (.string ⟨⟨[]⟩⟩)), (.v (.int .i64 (.ofNat 7))), (.sl 12 [[(.v (.int .i64 (.ofNat 3))), (.v (.int .i64 (.ofNat 3))), (.v (.int .i64 (.ofNat 0))), (.v (.int .i64 (.ofNat 0))), (.v (.int .i64 (.ofNat 0))), (.v (.slice none 0 0)), (.v (.slice none 0 0)), (.v (.slice none 0 0)), (.v (.int .i64 (.ofNat 0))), (.v (.string ⟨⟨[97]⟩⟩)), (.v (.int .i64 (.ofNat 11))), (.v (.slice none 0 0))]])])
abbrev dq74 : Nat × List AV × AV := (85, dx74, dz74)
-- own steps 65
theorem dr74 : runV Tryz.prog glob tab (cfgF [dq70]) 1000000 85 dx74 = some dz74 := by kernel_rfl
theorem dt74 : Pure env.toCx 85 dx74 (.ret dz74) := run_fact (fok1 dt70 fok0) dr74

abbrev dx77 : List AV := [(.agg [(.v (.int .i64 (.ofNat 4))), (.v (.int .i64 (.ofNat 0))), (.v (.int .i64 (.ofNat 0))), (.v (.slice none 0 0)), (.v (.slice none 0 0)), (.v (.slice none 0 0))]), (.agg [(.v (.string ⟨⟨[102]⟩⟩)), (.v (.string ⟨⟨[111]⟩⟩)), (.v (.slice none 0 0)), (.v (.int .i64 (.ofNat 0))), (.v (.int .i64 (.ofNat 16))), (.v (.int .i64 (.ofNat 0))), (.v (.int .i64 (.ofNat 4))), (.v (.int .i64 (.ofNat 0))), (.v (.int .i64 (.ofNat 0))), (.v (.slice none 0 0)), (.v (.slice none 0 0)), (.v (.slice none 0 0)), (.v (.int .i64 (.ofNat 0))), (.v (.string ⟨⟨[]⟩⟩)), (.v (.int .i64 (.ofNat 2))), (.sl 12 [[(.v (.int .i64 (.ofNat 5))), (.v (.int .i64 (.ofNat 0))), (.v (.int .i64 (.ofNat 4))), (.v (.int .i64 (.ofNat 0))), (.v (.int .i64 (.ofNat 0))), (.v (.slice none 0 0)), (.v (.slice none 0 0)), (.v (.slice none 0 0)), (.v (.int .i64 (.ofNat 0))), (.v (.string ⟨⟨[]⟩⟩)), (.v (.int .i64 (.ofNat 0))), (.v (.slice none 0 0))], [(.v (.int .i64 (.ofNat 23))), (.v (.int .i64 (.ofNat 0))), (.v (.int .i64 (.ofNat 4))), (.v (.int .i64 (.ofNat 0))), (.v (.int .i64 (.ofNat 0))), (.v (.slice none 0 0)), (.v (.slice none 0 0)), (.v (.slice none 0 0)), (.v (.int .i64 (.ofNat 0))), (.v (.string ⟨⟨[]⟩⟩)), (.v (.int .i64 (.ofNat 7))), (.sl 12 [[(.v (.int .i64 (.ofNat 3))), (.v (.int .i64 (.ofNat 3))), (.v (.int .i64 (.ofNat 0))), (.v (.int .i64 (.ofNat 0))), (.v (.int .i64 (.ofNat 0))), (.v (.slice none 0 0)), (.v (.slice none 0 0)), (.v (.slice none 0 0)), (.v (.int .i64 (.ofNat 0))), (.v (.string ⟨⟨[97]⟩⟩)), (.v (.int .i64 (.ofNat 11))), (.v (.slice none 0 0))]])]])])]
abbrev dz77 : AV := (.tup [(.agg [(.v (.string ⟨⟨[102]⟩⟩)), (.v (.string ⟨⟨[111]⟩⟩)), (.v (.slice none 0 0)), (.v (.int .i64 (.ofNat 0))), (.v (.int .i64 (.ofNat 23))), (.v (.int .i64 (.ofNat 0))), (.v (.int .i64 (.ofNat 4))), (.v (.int .i64 (.ofNat 0))), (.v (.int .i64 (.ofNat 0))), (.v (.slice none 0 0)), (.v (.slice none 0 0)), (.v (.slice none 0 0)), (.v (.int .i64 (.ofNat 0))), (.v (.string ⟨⟨[]⟩⟩)), (.v (.int .i64 (.ofNat 7))), (.sl 12 [[(.v (.int .i64 (.ofNat 3))), (.v (.int .i64 (.ofNat 3))), (.v (.int .i64 (.ofNat 0))), (.v (.int .i64 (.ofNat 0))), (.v (.int .i64 (.ofNat 0))), (.v (.slice none 0 0)), (.v (.slice none 0 0)), (.v (.slice none 0 0)), (.v (.int .i64 (.ofNat 0))), (.v (.string ⟨⟨[97]⟩⟩)), (.v (.int .i64 (.ofNat 11))), (.v (.slice none 0 0))]])]), (.v (.int .i64 (.ofNat 0)))])
abbrev dq77 : Nat × List AV × AV := (45, dx77, dz77)
-- own steps 191
theorem dr77 : runV Tryz.prog glob tab (cfgF [dq63, dq70]) 1000000 45 dx77 = some dz77 := by kernel_rfl
theorem dt77 : Pure env.toCx 45 dx77 (.ret dz77) := run_fact (fok1 dt63 (fok1 dt70 fok0)) dr77

abbrev dx85 : List AV := [(.v (.slice none 0 0)), (.sl 1 [[(.v (.string ⟨⟨[98]⟩⟩))]])]
abbrev dz85 : AV := (.v (.bool true))
abbrev dq85 : Nat × List AV × AV := (203, dx85, dz85)
-- own steps 78
theorem dr85 : runV Tryz.prog glob tab (cfgF []) 1000000 203 dx85 = some dz85 := by kernel_rfl
theorem dt85 : Pure env.toCx 203 dx85 (.ret dz85) := run_fact fok0 dr85

abbrev dx86 : List AV := [(.agg [(.v (.int .i64 (.ofNat 4))), (.v (.int .i64 (.ofNat 0))), (.v (.int .i64 (.ofNat 0))), (.v (.slice none 0 0)), (.v (.slice none 0 0)), (.v (.slice none 0 0))]), (.agg [(.v (.int .i64 (.ofNat 0))), (.sl 1 [[(.v (.string ⟨⟨[98]⟩⟩))]]), (.v (.slice none 0 0)), (.v (.slice none 0 0))])]
abbrev dz86 : AV := (.v (.bool true))
abbrev dq86 : Nat × List AV × AV := (130, dx86, dz86)
-- own steps 55
theorem dr86 : runV Tryz.prog glob tab (cfgF [dq85]) 1000000 130 dx86 = some dz86 := by kernel_rfl
theorem dt86 : Pure env.toCx 130 dx86 (.ret dz86) := run_fact (fok1 dt85 fok0) dr86

abbrev dx87 : List AV := [(.agg [(.v (.int .i64 (.ofNat 4))), (.v (.int .i64 (.ofNat 0))), (.v (.int .i64 (.ofNat 0))), (.v (.slice none 0 0)), (.v (.slice none 0 0)), (.v (.slice none 0 0))]), (.agg [(.v (.int .i64 (.ofNat 0))), (.sl 1 [[(.v (.string ⟨⟨[98]⟩⟩))]]), (.v (.slice none 0 0)), (.v (.slice none 0 0))])]
abbrev dz87 : AV := (.v (.bool true))
abbrev dq87 : Nat × List AV × AV := (88, dx87, dz87)
-- own steps 21
theorem dr87 : runV Tryz.prog glob tab (cfgF [dq13, dq86]) 1000000 88 dx87 = some dz87 := by kernel_rfl
theorem dt87 : Pure env.toCx 88 dx87 (.ret dz87) := run_fact (fok1 dt13 (fok1 dt86 fok0)) dr87

abbrev dx89 : List AV := [(.agg [(.v (.int .i64 (.ofNat 4))), (.v (.int .i64 (.ofNat 0))), (.v (.int .i64 (.ofNat 0))), (.v (.slice none 0 0)), (.v (.slice none 0 0)), (.v (.slice none 0 0))]), (.agg [(.v (.string ⟨⟨[102]⟩⟩)), (.v (.string ⟨⟨[111]⟩⟩)), (.v (.slice none 0 0)), (.v (.int .i64 (.ofNat 0))), (.v (.int .i64 (.ofNat 16))), (.v (.int .i64 (.ofNat 0))), (.v (.int .i64 (.ofNat 4))), (.v (.int .i64 (.ofNat 0))), (.v (.int .i64 (.ofNat 0))), (.v (.slice none 0 0)), (.v (.slice none 0 0)), (.v (.slice none 0 0)), (.v (.int .i64 (.ofNat 0))), (.v (.string ⟨⟨[]⟩⟩)), (.v (.int .i64 (.ofNat 2))), (.sl 12 [[(.v (.int .i64 (.ofNat 5))), (.v (.int .i64 (.ofNat 0))), (.v (.int .i64 (.ofNat 4))), (.v (.int .i64 (.ofNat 0))), (.v (.int .i64 (.ofNat 0))), (.v (.slice none 0 0)), (.v (.slice none 0 0)), (.v (.slice none 0 0)), (.v (.int .i64 (.ofNat 0))), (.v (.string ⟨⟨[]⟩⟩)), (.v (.int .i64 (.ofNat 0))), (.v (.slice none 0 0))], [(.v (.int .i64 (.ofNat 23))), (.v (.int .i64 (.ofNat 0))), (.v (.int .i64 (.ofNat 4))), (.v (.int .i64 (.ofNat 0))), (.v (.int .i64 (.ofNat 0))), (.v (.slice none 0 0)), (.v (.slice none 0 0)), (.v (.slice none 0 0)), (.v (.int .i64 (.ofNat 0))), (.v (.string ⟨⟨[]⟩⟩)), (.v (.int .i64 (.ofNat 7))), (.sl 12 [[(.v (.int .i64 (.ofNat 3))), (.v (.int .i64 (.ofNat 3))), (.v (.int .i64 (.ofNat 0))), (.v (.int .i64 (.ofNat 0))), (.v (.int .i64 (.ofNat 0))), (.v (.slice none 0 0)), (.v (.slice none 0 0)), (.v (.slice none 0 0)), (.v (.int .i64 (.ofNat 0))), (.v (.string ⟨⟨[97]⟩⟩)), (.v (.int .i64 (.ofNat 11))), (.v (.slice none 0 0))]])]])]), (.agg [(.v (.int .i64 (.ofNat 0))), (.sl 1 [[(.v (.string ⟨⟨[98]⟩⟩))]]), (.v (.slice none 0 0)), (.v (.slice none 0 0))]), (.v (.slice none 0 0))]
abbrev dz89 : AV := (.v (.int .i64 (.ofNat 0)))
abbrev dq89 : Nat × List AV × AV := (86, dx89, dz89)
-- own steps 45
theorem dr89 : runV Tryz.prog glob tab (cfgF [dq63, dq87]) 1000000 86 dx89 = some dz89 := by kernel_rfl
theorem dt89 : Pure env.toCx 86 dx89 (.ret dz89) := run_fact (fok1 dt63 (fok1 dt87 fok0)) dr89

abbrev dx95 : List AV := [(.agg [(.v (.int .i64 (.ofNat 0))), (.sl 1 [[(.v (.string ⟨⟨[98]⟩⟩))]]), (.v (.slice none 0 0)), (.v (.slice none 0 0)), (.v (.slice none 0 0))]), (.agg [(.v (.int .i64 (.ofNat 23))), (.v (.int .i64 (.ofNat 0))), (.v (.int .i64 (.ofNat 4))), (.v (.int .i64 (.ofNat 0))), (.v (.int .i64 (.ofNat 0))), (.v (.slice none 0 0)), (.v (.slice none 0 0)), (.v (.slice none 0 0)), (.v (.int .i64 (.ofNat 0))), (.v (.string ⟨⟨[]⟩⟩)), (.v (.int .i64 (.ofNat 7))), (.sl 12 [[(.v (.int .i64 (.ofNat 3))), (.v (.int .i64 (.ofNat 3))), (.v (.int .i64 (.ofNat 0))), (.v (.int .i64 (.ofNat 0))), (.v (.int .i64 (.ofNat 0))), (.v (.slice none 0 0)), (.v (.slice none 0 0)), (.v (.slice none 0 0)), (.v (.int .i64 (.ofNat 0))), (.v (.string ⟨⟨[97]⟩⟩)), (.v (.int .i64 (.ofNat 11))), (.v (.slice none 0 0))]])])]
abbrev dz95 : AV := (.sl 1 [[(.v (.string ⟨⟨[97]⟩⟩))]])
abbrev dq95 : Nat × List AV × AV := (139, dx95, dz95)
-- own steps 374
theorem dr95 : runV Tryz.prog glob tab (cfgF []) 1000000 139 dx95 = some dz95 := by kernel_rfl
theorem dt95 : Pure env.toCx 139 dx95 (.ret dz95) := run_fact fok0 dr95

abbrev dx96 : List AV := [(.agg [(.v (.int .i64 (.ofNat 0))), (.sl 1 [[(.v (.string ⟨⟨[98]⟩⟩))]]), (.v (.slice none 0 0)), (.v (.slice none 0 0)), (.v (.slice none 0 0))]), (.agg [(.v (.int .i64 (.ofNat 23))), (.v (.int .i64 (.ofNat 0))), (.v (.int .i64 (.ofNat 4))), (.v (.int .i64 (.ofNat 0))), (.v (.int .i64 (.ofNat 0))), (.v (.slice none 0 0)), (.v (.slice none 0 0)), (.v (.slice none 0 0)), (.v (.int .i64 (.ofNat 0))), (.v (.string ⟨⟨[]⟩⟩)), (.v (.int .i64 (.ofNat 7))), (.sl 12 [[(.v (.int .i64 (.ofNat 3))), (.v (.int .i64 (.ofNat 3))), (.v (.int .i64 (.ofNat 0))), (.v (.int .i64 (.ofNat 0))), (.v (.int .i64 (.ofNat 0))), (.v (.slice none 0 0)), (.v (.slice none 0 0)), (.v (.slice none 0 0)), (.v (.int .i64 (.ofNat 0))), (.v (.string ⟨⟨[97]⟩⟩)), (.v (.int .i64 (.ofNat 11))), (.v (.slice none 0 0))]])])]
abbrev dz96 : AV := (.agg [(.v (.int .i64 (.ofNat 0))), (.v (.int .i64 (.ofNat 0))), (.v (.string ⟨⟨[]⟩⟩)), (.v (.slice none 0 0)), (.v (.int .i64 (.ofNat 0))), (.sl 1 [[(.v (.string ⟨⟨[97]⟩⟩))]]), (.v (.slice none 0 0)), (.v (.slice none 0 0))])
abbrev dq96 : Nat × List AV × AV := (93, dx96, dz96)
-- own steps 430
theorem dr96 : runV Tryz.prog glob tab (cfgF []) 1000000 93 dx96 = some dz96 := by kernel_rfl
theorem dt96 : Pure env.toCx 93 dx96 (.ret dz96) := run_fact fok0 dr96

abbrev dx97 : List AV := [(.agg [(.v (.int .i64 (.ofNat 0))), (.sl 1 [[(.v (.string ⟨⟨[98]⟩⟩))]]), (.v (.slice none 0 0)), (.v (.slice none 0 0)), (.v (.slice none 0 0))]), (.agg [(.v (.int .i64 (.ofNat 23))), (.v (.int .i64 (.ofNat 0))), (.v (.int .i64 (.ofNat 4))), (.v (.int .i64 (.ofNat 0))), (.v (.int .i64 (.ofNat 0))), (.v (.slice none 0 0)), (.v (.slice none 0 0)), (.v (.slice none 0 0)), (.v (.int .i64 (.ofNat 0))), (.v (.string ⟨⟨[]⟩⟩)), (.v (.int .i64 (.ofNat 7))), (.sl 12 [[(.v (.int .i64 (.ofNat 3))), (.v (.int .i64 (.ofNat 3))), (.v (.int .i64 (.ofNat 0))), (.v (.int .i64 (.ofNat 0))), (.v (.int .i64 (.ofNat 0))), (.v (.slice none 0 0)), (.v (.slice none 0 0)), (.v (.slice none 0 0)), (.v (.int .i64 (.ofNat 0))), (.v (.string ⟨⟨[97]⟩⟩)), (.v (.int .i64 (.ofNat 11))), (.v (.slice none 0 0))]])])]
abbrev dz97 : AV := (.agg [(.v (.int .i64 (.ofNat 0))), (.v (.int .i64 (.ofNat 0))), (.v (.string ⟨⟨[]⟩⟩)), (.v (.slice none 0 0)), (.v (.int .i64 (.ofNat 0))), (.sl 1 [[(.v (.string ⟨⟨[97]⟩⟩))]]), (.v (.slice none 0 0)), (.v (.slice none 0 0))])
abbrev dq97 : Nat × List AV × AV := (51, dx97, dz97)
-- own steps 495
theorem dr97 : runV Tryz.prog glob tab (cfgF []) 1000000 51 dx97 = some dz97 := by kernel_rfl
theorem dt97 : Pure env.toCx 51 dx97 (.ret dz97) := run_fact fok0 dr97
end Go.Proofs.YtcngmkedekmkhaaGreat
