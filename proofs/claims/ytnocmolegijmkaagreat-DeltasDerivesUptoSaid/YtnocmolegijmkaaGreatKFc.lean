/- Own work, printed by mkfc.py. How closed runs are made: which functions may write what they are handed, which one catches. -/
import Derived.Test.YtnocmolegijmkaaGreatKCt
import Derived.Test.YtnocmolegijmkaaGreatKGA8
set_option linter.all false
namespace Go.Proofs.YtnocmolegijmkaaGreat
open Go Go.Bw
abbrev ak (n:Nat):AV:= .v (.int .i64 (.ofNat n))
abbrev br (l:List UInt8):AV:= .v (.string ⟨⟨l⟩⟩)
abbrev ax:AV:= .v (.slice none 0 0)
def aai:Tr Bool:=(.nd none (.nd none (.nd none (.nd none (.nd none (.nd none .lf (.nd none .lf (.nd (some true) .lf .lf))) (.nd none (.nd none .lf (.nd (some true) .lf .lf)) (.nd none .lf (.nd (some true) .lf .lf)))) (.nd none .lf (.nd none (.nd none (.nd none (.nd (some true) .lf .lf) .lf) .lf) (.nd none (.nd none (.nd (some true) .lf .lf) .lf) .lf)))) (.nd none (.nd none (.nd none (.nd (some true) .lf .lf) (.nd none (.nd (some true) .lf .lf) .lf)) (.nd none (.nd none .lf (.nd (some true) .lf .lf)) (.nd none (.nd none (.nd (some true) .lf .lf) .lf) .lf))) (.nd none (.nd none (.nd (some true) .lf (.nd (some true) .lf .lf)) .lf) (.nd none .lf (.nd none .lf (.nd (some true) .lf .lf)))))) (.nd none (.nd none (.nd none (.nd none .lf (.nd none .lf (.nd (some true) .lf .lf))) (.nd none (.nd none (.nd (some true) .lf .lf) (.nd (some true) .lf .lf)) (.nd none .lf (.nd (some true) .lf .lf)))) (.nd none (.nd none (.nd none .lf (.nd (some true) .lf .lf)) .lf) (.nd none (.nd none (.nd (some true) .lf .lf) .lf) (.nd none (.nd none (.nd (some true) .lf .lf) .lf) (.nd (some true) .lf .lf))))) (.nd none (.nd none (.nd none .lf (.nd none (.nd (some true) .lf .lf) .lf)) (.nd none (.nd none (.nd none (.nd (some true) .lf .lf) .lf) .lf) .lf)) .lf))) (.nd none (.nd none (.nd none (.nd none (.nd none .lf (.nd none .lf (.nd (some true) .lf .lf))) (.nd none (.nd none .lf (.nd (some true) .lf .lf)) (.nd none .lf (.nd (some true) .lf .lf)))) (.nd none (.nd none (.nd none .lf (.nd (some true) .lf .lf)) .lf) (.nd none .lf (.nd none (.nd none (.nd (some true) .lf .lf) .lf) (.nd (some true) .lf .lf))))) (.nd none (.nd none (.nd none .lf (.nd none (.nd (some true) .lf .lf) .lf)) (.nd none (.nd none .lf (.nd (some true) .lf .lf)) (.nd (some true) (.nd none (.nd (some true) .lf .lf) .lf) .lf))) (.nd none .lf (.nd none .lf (.nd none .lf (.nd (some true) .lf .lf)))))) (.nd none (.nd none (.nd none (.nd none .lf (.nd none .lf (.nd (some true) .lf .lf))) (.nd none (.nd none (.nd (some true) .lf .lf) (.nd (some true) .lf .lf)) (.nd none (.nd none (.nd (some true) .lf .lf) .lf) .lf))) (.nd none (.nd none (.nd (some true) .lf (.nd (some true) .lf .lf)) .lf) (.nd none (.nd none (.nd (some true) .lf .lf) .lf) (.nd none .lf (.nd (some true) .lf .lf))))) (.nd none (.nd none .lf (.nd none (.nd none (.nd none (.nd (some true) .lf .lf) .lf) .lf) (.nd none (.nd none (.nd (some true) .lf .lf) .lf) .lf))) (.nd none (.nd none (.nd (some true) .lf (.nd (some true) .lf .lf)) .lf) .lf)))))
noncomputable def cU (fs:List (Nat×List AV×AV)):fD:=⟨true,λ_=>true,λg=>match aai.get g with
 |some _=>true
 |none=>false,λ_=>false,fns,λg=>match Nat.beq g 76 with
 |true=>some (75,.agg [.v (.int .i64 0),.v (.int .i64 0)])
 |false=>none,fs⟩
theorem dn:ki env []:=λf hf=>by cases hf
theorem b5 {g:Nat} {xs:List AV} {z:AV} {fs:List (Nat×List AV×AV)} (h:Pure env.toCx g xs (.ret z)) (hf:ki env fs):ki env ((g,xs,z)::fs):=λf hm=>by
 rcases cu.1 hm with rfl|hm
 ·exact h
 ·exact hf f hm
theorem dj {fs:List (Nat×List AV×AV)} (hf:ki env fs) {g:Nat} {xs:List AV} {z:AV} (h:cY Tryz.prog cm cW (cU fs) 1000000 g xs=some z):Pure env.toCx g xs (.ret z):=by
 refine Wv (E:=env) (c:=cU fs) mixed hf (λf ty z h=>?_) (λg x h=>Xw g x h) h;simp only[cU]at h;split at h
 ·rename_i hb;cases h;rw[bC hb];exact K0
 ·cases h
set_option maxRecDepth 1000000
abbrev GQ:List AV:=[(.agg [(ak 4),(ak 0),(ak 0),ax,ax,ax])]
abbrev GR:AV:=(ak 0)
abbrev kS:Nat×List AV×AV:=(31,GQ,GR)
theorem ZW:cY Tryz.prog cm cW (cU []) 1000000 31 GQ=some GR:=by kernel_rfl
theorem kT:Pure env.toCx 31 GQ (.ret GR):=dj dn ZW
abbrev GS:List AV:=[(.agg [(ak 0),(ak 4),(ak 0),(ak 0),ax,ax,ax]),(.agg [(ak 0),(ak 4),(ak 0),(ak 0),ax,ax,ax])]
abbrev GU:AV:=(.v (.bool true))
abbrev ZX:Nat×List AV×AV:=(81,GS,GU)
theorem ZY:cY Tryz.prog cm cW (cU []) 1000000 81 GS=some GU:=by kernel_rfl
theorem ZZ:Pure env.toCx 81 GS (.ret GU):=dj dn ZY
abbrev PN:List AV:=[(.agg [(ak 4),(ak 0),(ak 0),ax,ax,ax]),(.agg [(br [102]),(br [111]),ax,(ak 0),(ak 16),(ak 0),(ak 4),(ak 0),(ak 0),ax,ax,ax,(ak 0),(br []),(ak 2),(.sl 12 [[(ak 5),(ak 0),(ak 4),(ak 0),(ak 0),ax,ax,ax,(ak 0),(br []),(ak 0),ax],[(ak 23),(ak 0),(ak 4),(ak 0),(ak 0),ax,ax,ax,(ak 0),(br []),(ak 7),(.sl 12 [[(ak 3),(ak 3),(ak 0),(ak 0),(ak 0),ax,ax,ax,(ak 0),(br [97]),(ak 11),ax]])]])])]
abbrev PO:AV:=(.v (.bool true))
abbrev xB:Nat×List AV×AV:=(12,PN,PO)
theorem xC:Pure env.toCx 12 PN (.ret PO):=Pure.args (by(try simp only[iB]);repeat(first|exact bX.refl _|exact bX.nil _|exact b7.nil|exact dp.nil|exact b7.refl _|exact dp.refl _|exact bX.of (by simp only[iB];rfl)|(dsimp only;try simp only[iB])|apply bX.agg|apply bX.bZ|apply bX.ip|apply bX.fn|apply b7.cons|apply bX.sl|apply dp.cons|apply dp.append)) ((hu 1000).Rt ⟨4,0,0,[],[],[]⟩ ⟨[102],[111],[],0,⟨16,⟨0,⟨4,0,0,[],[],[]⟩⟩,0,[],2,[⟨5,⟨0,⟨4,0,0,[],[],[]⟩⟩,0,[],0,[]⟩,⟨23,⟨0,⟨4,0,0,[],[],[]⟩⟩,0,[],7,[⟨3,⟨3,⟨0,0,0,[],[],[]⟩⟩,0,[97],11,[]⟩]⟩]⟩⟩ (true) (show so (Gu 1000) ⟨4,0,0,[],[],[]⟩ ⟨[102],[111],[],0,⟨16,⟨0,⟨4,0,0,[],[],[]⟩⟩,0,[],2,[⟨5,⟨0,⟨4,0,0,[],[],[]⟩⟩,0,[],0,[]⟩,⟨23,⟨0,⟨4,0,0,[],[],[]⟩⟩,0,[],7,[⟨3,⟨3,⟨0,0,0,[],[],[]⟩⟩,0,[97],11,[]⟩]⟩]⟩⟩=some (true)by kernel_rfl))
abbrev GV:List AV:=[(.agg [(ak 5),(ak 0),(ak 4),(ak 0),(ak 0),ax,ax,ax,(ak 0),(br []),(ak 0),ax]),(.agg [(ak 5),(ak 0),(ak 4),(ak 0),(ak 0),ax,ax,ax,(ak 0),(br []),(ak 0),ax])]
abbrev GW:AV:=(.v (.bool true))
abbrev Z0:Nat×List AV×AV:=(50,GV,GW)
theorem Z1:cY Tryz.prog cm cW (cU [ZX]) 1000000 50 GV=some GW:=by kernel_rfl
theorem Z2:Pure env.toCx 50 GV (.ret GW):=dj (b5 ZZ dn) Z1
abbrev GX:List AV:=[(.agg [(ak 5),(ak 0),(ak 4),(ak 0),(ak 0),ax,ax,ax,(ak 0),(br []),(ak 0),ax]),(.agg [(ak 5),(ak 0),(ak 4),(ak 0),(ak 0),ax,ax,ax,(ak 0),(br []),(ak 0),ax])]
abbrev GY:AV:=(.agg [(ak 6),(ak 0),(ak 4),(ak 0),(ak 0),ax,ax,ax,(ak 0),(br []),(ak 0),ax])
abbrev Z3:Nat×List AV×AV:=(27,GX,GY)
theorem Z4:cY Tryz.prog cm cW (cU [Z0]) 1000000 27 GX=some GY:=by kernel_rfl
theorem Z5:Pure env.toCx 27 GX (.ret GY):=dj (b5 Z2 dn) Z4
abbrev GZ:List AV:=[ax,(.sl 1 [[(br [98])]])]
abbrev G0:AV:=(.v (.bool true))
abbrev Z6:Nat×List AV×AV:=(122,GZ,G0)
theorem Z7:cY Tryz.prog cm cW (cU []) 1000000 122 GZ=some G0:=by kernel_rfl
theorem Z8:Pure env.toCx 122 GZ (.ret G0):=dj dn Z7
abbrev G1:List AV:=[(.agg [(ak 4),(ak 0),(ak 0),ax,ax,ax]),(.agg [(ak 0),(.sl 1 [[(br [98])]]),ax,ax])]
abbrev G3:AV:=(.v (.bool true))
abbrev Z9:Nat×List AV×AV:=(83,G1,G3)
theorem Z':cY Tryz.prog cm cW (cU [Z6]) 1000000 83 G1=some G3:=by kernel_rfl
theorem aaa:Pure env.toCx 83 G1 (.ret G3):=dj (b5 Z8 dn) Z'
abbrev G4:List AV:=[(.agg [(ak 4),(ak 0),(ak 0),ax,ax,ax]),(.agg [(ak 0),(.sl 1 [[(br [98])]]),ax,ax])]
abbrev G5:AV:=(.v (.bool true))
abbrev xD:Nat×List AV×AV:=(37,G4,G5)
theorem aab:cY Tryz.prog cm cW (cU [kS,Z9]) 1000000 37 G4=some G5:=by kernel_rfl
theorem xE:Pure env.toCx 37 G4 (.ret G5):=dj (b5 kT (b5 aaa dn)) aab
abbrev G6:List AV:=[(.agg [(ak 4),(ak 0),(ak 0),ax,ax,ax]),(.agg [(br [102]),(br [111]),ax,(ak 0),(ak 16),(ak 0),(ak 4),(ak 0),(ak 0),ax,ax,ax,(ak 0),(br []),(ak 2),(.sl 12 [[(ak 5),(ak 0),(ak 4),(ak 0),(ak 0),ax,ax,ax,(ak 0),(br []),(ak 0),ax],[(ak 23),(ak 0),(ak 4),(ak 0),(ak 0),ax,ax,ax,(ak 0),(br []),(ak 7),(.sl 12 [[(ak 3),(ak 3),(ak 0),(ak 0),(ak 0),ax,ax,ax,(ak 0),(br [97]),(ak 11),ax]])]])]),(.agg [(ak 0),(.sl 1 [[(br [98])]]),ax,ax]),ax]
abbrev G7:AV:=(ak 0)
abbrev aac:Nat×List AV×AV:=(39,G6,G7)
theorem aad:cY Tryz.prog cm cW (cU [xB,xD]) 1000000 39 G6=some G7:=by kernel_rfl
theorem aae:Pure env.toCx 39 G6 (.ret G7):=dj (b5 xC (b5 xE dn)) aad
abbrev G8:List AV:=[(.agg [(ak 0),(.sl 1 [[(br [98])]]),ax,ax,ax]),(.agg [(ak 23),(ak 0),(ak 4),(ak 0),(ak 0),ax,ax,ax,(ak 0),(br []),(ak 7),(.sl 12 [[(ak 3),(ak 3),(ak 0),(ak 0),(ak 0),ax,ax,ax,(ak 0),(br [97]),(ak 11),ax]])])]
abbrev G9:AV:=(.agg [(ak 0),(ak 0),(br []),ax,(ak 0),(.sl 1 [[(br [97])]]),ax,ax])
abbrev aaf:Nat×List AV×AV:=(86,G8,G9)
theorem aag:cY Tryz.prog cm cW (cU []) 1000000 86 G8=some G9:=by kernel_rfl
theorem aah:Pure env.toCx 86 G8 (.ret G9):=dj dn aag
abbrev FB:List AV:=[ax,(.sl 1 [[(br [97])]])]
abbrev FC:AV:=(.v (.bool true))
abbrev Yl:Nat×List AV×AV:=(122,FB,FC)
theorem Ym:cY Tryz.prog cm cW (cU []) 1000000 122 FB=some FC:=by kernel_rfl
theorem Yn:Pure env.toCx 122 FB (.ret FC):=dj dn Ym
abbrev FD:List AV:=[(.agg [(ak 4),(ak 0),(ak 0),ax,ax,ax]),(.agg [(ak 0),(.sl 1 [[(br [97])]]),ax,ax])]
abbrev FE:AV:=(.v (.bool true))
abbrev FG:Nat×List AV×AV:=(83,FD,FE)
theorem Yo:cY Tryz.prog cm cW (cU [Yl]) 1000000 83 FD=some FE:=by kernel_rfl
theorem FH:Pure env.toCx 83 FD (.ret FE):=dj (b5 Yn dn) Yo
abbrev FI:List AV:=[(.agg [(ak 4),(ak 0),(ak 0),ax,ax,ax]),(.agg [(ak 0),(.sl 1 [[(br [97])]]),ax,ax])]
abbrev FJ:AV:=(.v (.bool true))
abbrev uv:Nat×List AV×AV:=(37,FI,FJ)
theorem Yp:cY Tryz.prog cm cW (cU [kS,FG]) 1000000 37 FI=some FJ:=by kernel_rfl
theorem uw:Pure env.toCx 37 FI (.ret FJ):=dj (b5 kT (b5 FH dn)) Yp
abbrev FK:List AV:=[(.agg [(ak 4),(ak 0),(ak 0),ax,ax,ax]),(.agg [(br [102]),(br [111]),ax,(ak 0),(ak 16),(ak 0),(ak 4),(ak 0),(ak 0),ax,ax,ax,(ak 0),(br []),(ak 2),(.sl 12 [[(ak 5),(ak 0),(ak 4),(ak 0),(ak 0),ax,ax,ax,(ak 0),(br []),(ak 0),ax],[(ak 23),(ak 0),(ak 4),(ak 0),(ak 0),ax,ax,ax,(ak 0),(br []),(ak 7),(.sl 12 [[(ak 3),(ak 3),(ak 0),(ak 0),(ak 0),ax,ax,ax,(ak 0),(br [97]),(ak 11),ax]])]])]),(.agg [(ak 0),(.sl 1 [[(br [97])]]),ax,ax]),ax]
abbrev FL:AV:=(ak 0)
abbrev Yq:Nat×List AV×AV:=(39,FK,FL)
theorem Yr:cY Tryz.prog cm cW (cU [xB,uv]) 1000000 39 FK=some FL:=by kernel_rfl
theorem Ys:Pure env.toCx 39 FK (.ret FL):=dj (b5 xC (b5 uw dn)) Yr
abbrev FM:List AV:=[(.agg [(ak 4),(ak 0),(ak 0),ax,ax,ax]),(.agg [(br [102]),(br [111]),ax,(ak 0),(ak 16),(ak 0),(ak 4),(ak 0),(ak 0),ax,ax,ax,(ak 0),(br []),(ak 2),(.sl 12 [[(ak 5),(ak 0),(ak 4),(ak 0),(ak 0),ax,ax,ax,(ak 0),(br []),(ak 0),ax],[(ak 23),(ak 0),(ak 4),(ak 0),(ak 0),ax,ax,ax,(ak 0),(br []),(ak 7),(.sl 12 [[(ak 3),(ak 3),(ak 0),(ak 0),(ak 0),ax,ax,ax,(ak 0),(br [97]),(ak 11),ax]])]])]),(.v (.bool true)),(.agg [(ak 0),(.sl 1 [[(br [97])]]),ax,ax]),ax]
abbrev FN:AV:=(ak 0)
abbrev Yt:Nat×List AV×AV:=(41,FM,FN)
theorem Yu:cY Tryz.prog cm cW (cU [xB,uv]) 1000000 41 FM=some FN:=by kernel_rfl
theorem Yv:Pure env.toCx 41 FM (.ret FN):=dj (b5 xC (b5 uw dn)) Yu
abbrev FO:List AV:=[(.agg [(ak 0),(.sl 1 [[(br [97])]]),ax,ax,ax]),(.agg [(ak 23),(ak 0),(ak 4),(ak 0),(ak 0),ax,ax,ax,(ak 0),(br []),(ak 7),(.sl 12 [[(ak 3),(ak 3),(ak 0),(ak 0),(ak 0),ax,ax,ax,(ak 0),(br [97]),(ak 11),ax]])])]
abbrev FP:AV:=(.agg [(ak 0),(ak 0),(br []),ax,(ak 0),(.sl 1 [[(br [97])]]),ax,ax])
abbrev Yw:Nat×List AV×AV:=(86,FO,FP)
theorem Yx:cY Tryz.prog cm cW (cU []) 1000000 86 FO=some FP:=by kernel_rfl
theorem Yy:Pure env.toCx 86 FO (.ret FP):=dj dn Yx
abbrev FQ:List AV:=[(.agg [(ak 4),(ak 0),(ak 0),ax,ax,ax])]
abbrev FR:AV:=(.bZ [(.agg [(ak 0),ax,ax,ax]),(ak 0)])
abbrev Pb:Nat×List AV×AV:=(190,FQ,FR)
theorem Yz:cY Tryz.prog cm cW (cU [kS]) 1000000 190 FQ=some FR:=by kernel_rfl
theorem Pc:Pure env.toCx 190 FQ (.ret FR):=dj (b5 kT dn) Yz
abbrev FT:List AV:=[(.agg [(ak 4),(ak 0),(ak 0),ax,ax,ax])]
abbrev FU:AV:=(.agg [(ak 0),ax,ax,ax])
abbrev Pd:Nat×List AV×AV:=(137,FT,FU)
theorem YA:cY Tryz.prog cm cW (cU [Pb]) 1000000 137 FT=some FU:=by kernel_rfl
theorem Pe:Pure env.toCx 137 FT (.ret FU):=dj (b5 Pc dn) YA
abbrev FV:List AV:=[(.agg [(ak 4),(ak 0),(ak 0),ax,ax,ax]),(.agg [(ak 0),(.sl 1 [[(br [97])]]),ax,ax]),(.agg [(ak 0),(.sl 1 [[(br [97])]]),ax,ax])]
abbrev FW:AV:=(.bZ [(.agg [(ak 0),(.sl 1 [[(br [97])]]),ax,ax]),(ak 0)])
abbrev YB:Nat×List AV×AV:=(43,FV,FW)
theorem YC:cY Tryz.prog cm cW (cU [kS,uv,Pd]) 1000000 43 FV=some FW:=by kernel_rfl
theorem YD:Pure env.toCx 43 FV (.ret FW):=dj (b5 kT (b5 uw (b5 Pe dn))) YC
abbrev FX:List AV:=[(.agg [(ak 4),(ak 0),(ak 0),ax,ax,ax]),(.agg [(ak 0),(.sl 1 [[(br [97])]]),ax,ax]),(.agg [(ak 0),(.sl 1 [[(br [97])]]),ax,ax])]
abbrev FY:AV:=(.v (.bool true))
abbrev YE:Nat×List AV×AV:=(19,FX,FY)
theorem YF:cY Tryz.prog cm cW (cU [kS,uv]) 1000000 19 FX=some FY:=by kernel_rfl
theorem YG:Pure env.toCx 19 FX (.ret FY):=dj (b5 kT (b5 uw dn)) YF
abbrev FZ:List AV:=[(.agg [(ak 4),(ak 0),(ak 0),ax,ax,ax])]
abbrev F1:AV:=(.agg [(ak 0),ax,ax,ax])
abbrev YH:Nat×List AV×AV:=(147,FZ,F1)
theorem YI:cY Tryz.prog cm cW (cU [Pb]) 1000000 147 FZ=some F1:=by kernel_rfl
theorem YJ:Pure env.toCx 147 FZ (.ret F1):=dj (b5 Pc dn) YI
abbrev F2:List AV:=[(.agg [(ak 4),(ak 0),(ak 0),ax,ax,ax]),(.agg [(ak 0),(.sl 1 [[(br [97])]]),ax,ax]),(.agg [(ak 0),(.sl 1 [[(br [97])]]),ax,ax])]
abbrev F5:AV:=(.agg [(ak 0),ax,ax,ax])
abbrev YK:Nat×List AV×AV:=(99,F2,F5)
theorem YL:cY Tryz.prog cm cW (cU [YE,YH]) 1000000 99 F2=some F5:=by kernel_rfl
theorem YM:Pure env.toCx 99 F2 (.ret F5):=dj (b5 YG (b5 YJ dn)) YL
abbrev F6:List AV:=[(.agg [(ak 4),(ak 0),(ak 0),ax,ax,ax]),(.agg [(ak 0),ax,ax,ax])]
abbrev F7:AV:=(.bZ [(.sl 1 [[(.v (.int .u8 0))]]),(ak 0)])
abbrev YN:Nat×List AV×AV:=(98,F6,F7)
theorem YO:cY Tryz.prog cm cW (cU [kS]) 1000000 98 F6=some F7:=by kernel_rfl
theorem YP:Pure env.toCx 98 F6 (.ret F7):=dj (b5 kT dn) YO
abbrev F8:List AV:=[(.agg [(ak 4),(ak 0),(ak 0),ax,ax,ax]),(.sl 1 [[(.v (.int .u8 0))]])]
abbrev F9:AV:=(.bZ [(.agg [(ak 0),ax,ax,ax]),(ak 0)])
abbrev YQ:Nat×List AV×AV:=(100,F8,F9)
theorem YR:cY Tryz.prog cm cW (cU [kS]) 1000000 100 F8=some F9:=by kernel_rfl
theorem YS:Pure env.toCx 100 F8 (.ret F9):=dj (b5 kT dn) YR
abbrev F':List AV:=[(.agg [(ak 4),(ak 0),(ak 0),ax,ax,ax]),(.agg [(ak 0),(.sl 1 [[(br [97])]]),ax,ax]),(.agg [(ak 0),(.sl 1 [[(br [97])]]),ax,ax])]
abbrev Ga:AV:=(.bZ [(.agg [(ak 0),ax,ax,ax]),(ak 0)])
abbrev YT:Nat×List AV×AV:=(47,F',Ga)
theorem YU:cY Tryz.prog cm cW (cU [kS,uv,YK,YN,YQ]) 1000000 47 F'=some Ga:=by kernel_rfl
theorem YV:Pure env.toCx 47 F' (.ret Ga):=dj (b5 kT (b5 uw (b5 YM (b5 YP (b5 YS dn))))) YU
abbrev Gb:List AV:=[(.agg [(ak 4),(ak 0),(ak 0),ax,ax,ax]),(.agg [(br [102]),(br [111]),ax,(ak 0),(ak 16),(ak 0),(ak 4),(ak 0),(ak 0),ax,ax,ax,(ak 0),(br []),(ak 2),(.sl 12 [[(ak 5),(ak 0),(ak 4),(ak 0),(ak 0),ax,ax,ax,(ak 0),(br []),(ak 0),ax],[(ak 23),(ak 0),(ak 4),(ak 0),(ak 0),ax,ax,ax,(ak 0),(br []),(ak 7),(.sl 12 [[(ak 3),(ak 3),(ak 0),(ak 0),(ak 0),ax,ax,ax,(ak 0),(br [97]),(ak 11),ax]])]])]),(.agg [(ak 0),(.sl 1 [[(br [97])]]),ax,ax]),ax]
abbrev Gc:AV:=(.bZ [(.agg [(ak 0),ax,ax,ax]),(ak 0)])
abbrev YW:Nat×List AV×AV:=(22,Gb,Gc)
theorem YX:cY Tryz.prog cm cW (cU [Yq,Yt,Yw,YB,YT]) 1000000 22 Gb=some Gc:=by kernel_rfl
theorem YY:Pure env.toCx 22 Gb (.ret Gc):=dj (b5 Ys (b5 Yv (b5 Yy (b5 YD (b5 YV dn))))) YX
abbrev Gd:List AV:=[(.agg [(ak 4),(ak 0),(ak 0),ax,ax,ax]),(.agg [(br [102]),(br [111]),ax,(ak 0),(ak 16),(ak 0),(ak 4),(ak 0),(ak 0),ax,ax,ax,(ak 0),(br []),(ak 2),(.sl 12 [[(ak 5),(ak 0),(ak 4),(ak 0),(ak 0),ax,ax,ax,(ak 0),(br []),(ak 0),ax],[(ak 23),(ak 0),(ak 4),(ak 0),(ak 0),ax,ax,ax,(ak 0),(br []),(ak 7),(.sl 12 [[(ak 3),(ak 3),(ak 0),(ak 0),(ak 0),ax,ax,ax,(ak 0),(br [97]),(ak 11),ax]])]])]),(.v (.bool true)),(.agg [(ak 0),(.sl 1 [[(br [98])]]),ax,ax]),ax]
abbrev Ge:AV:=(ak 0)
abbrev YZ:Nat×List AV×AV:=(41,Gd,Ge)
theorem Y0:cY Tryz.prog cm cW (cU [xB,xD]) 1000000 41 Gd=some Ge:=by kernel_rfl
theorem Y1:Pure env.toCx 41 Gd (.ret Ge):=dj (b5 xC (b5 xE dn)) Y0
abbrev Gg:List AV:=[(.agg [(ak 4),(ak 0),(ak 0),ax,ax,ax]),(.agg [(ak 0),(.sl 1 [[(br [98])]]),ax,ax]),(.agg [(ak 0),(.sl 1 [[(br [97])]]),ax,ax])]
abbrev Gh:AV:=(.bZ [(.agg [(ak 0),(.sl 1 [[(br [97])],[(br [98])]]),ax,ax]),(ak 0)])
abbrev Y2:Nat×List AV×AV:=(43,Gg,Gh)
theorem Y3:cY Tryz.prog cm cW (cU [kS,xD,uv,Pd]) 1000000 43 Gg=some Gh:=by kernel_rfl
theorem Y4:Pure env.toCx 43 Gg (.ret Gh):=dj (b5 kT (b5 xE (b5 uw (b5 Pe dn)))) Y3
abbrev Gi:List AV:=[ax,(.sl 1 [[(br [97])],[(br [98])]])]
abbrev Gj:AV:=(.v (.bool true))
abbrev Y5:Nat×List AV×AV:=(122,Gi,Gj)
theorem Y6:cY Tryz.prog cm cW (cU []) 1000000 122 Gi=some Gj:=by kernel_rfl
theorem Y7:Pure env.toCx 122 Gi (.ret Gj):=dj dn Y6
abbrev Gk:List AV:=[(.agg [(ak 4),(ak 0),(ak 0),ax,ax,ax]),(.agg [(ak 0),(.sl 1 [[(br [97])],[(br [98])]]),ax,ax])]
abbrev Gm:AV:=(.v (.bool true))
abbrev Y8:Nat×List AV×AV:=(83,Gk,Gm)
theorem Y9:cY Tryz.prog cm cW (cU [Y5]) 1000000 83 Gk=some Gm:=by kernel_rfl
theorem Y':Pure env.toCx 83 Gk (.ret Gm):=dj (b5 Y7 dn) Y9
abbrev Gn:List AV:=[(.agg [(ak 4),(ak 0),(ak 0),ax,ax,ax]),(.agg [(ak 0),(.sl 1 [[(br [97])],[(br [98])]]),ax,ax])]
abbrev Gp:AV:=(.v (.bool true))
abbrev Pg:Nat×List AV×AV:=(37,Gn,Gp)
theorem Za:cY Tryz.prog cm cW (cU [kS,Y8]) 1000000 37 Gn=some Gp:=by kernel_rfl
theorem Ph:Pure env.toCx 37 Gn (.ret Gp):=dj (b5 kT (b5 Y' dn)) Za
abbrev Gq:List AV:=[(.agg [(ak 4),(ak 0),(ak 0),ax,ax,ax]),(.agg [(ak 0),(.sl 1 [[(br [97])],[(br [98])]]),ax,ax]),(.agg [(ak 0),(.sl 1 [[(br [98])]]),ax,ax])]
abbrev Gr:AV:=(.v (.bool false))
abbrev Zb:Nat×List AV×AV:=(19,Gq,Gr)
theorem Zc:cY Tryz.prog cm cW (cU [kS,Pg,xD]) 1000000 19 Gq=some Gr:=by kernel_rfl
theorem Zd:Pure env.toCx 19 Gq (.ret Gr):=dj (b5 kT (b5 Ph (b5 xE dn))) Zc
abbrev Gs:List AV:=[(.agg [(ak 4),(ak 0),(ak 0),ax,ax,ax]),(.agg [(ak 0),(.sl 1 [[(br [97])],[(br [98])]]),ax,ax]),(.agg [(ak 0),(.sl 1 [[(br [98])]]),ax,ax])]
abbrev Gt:AV:=(.agg [(ak 0),(.sl 1 [[(br [97])]]),ax,ax])
abbrev Ze:Nat×List AV×AV:=(99,Gs,Gt)
theorem Zf:cY Tryz.prog cm cW (cU [Zb]) 1000000 99 Gs=some Gt:=by kernel_rfl
theorem Zg:Pure env.toCx 99 Gs (.ret Gt):=dj (b5 Zd dn) Zf
abbrev Gv:List AV:=[(.agg [(ak 4),(ak 0),(ak 0),ax,ax,ax]),(.agg [(ak 0),(.sl 1 [[(br [97])]]),ax,ax])]
abbrev Gw:AV:=(.bZ [(.sl 1 [[(.v (.int .u8 1))],[(.v (.int .u8 1))],[(.v (.int .u8 97))]]),(ak 0)])
abbrev Zh:Nat×List AV×AV:=(98,Gv,Gw)
theorem Zi:cY Tryz.prog cm cW (cU [kS,FG]) 1000000 98 Gv=some Gw:=by kernel_rfl
theorem Zj:Pure env.toCx 98 Gv (.ret Gw):=dj (b5 kT (b5 FH dn)) Zi
abbrev Gx:List AV:=[(.agg [(ak 16),(ak 0),(ak 4),(ak 0),(ak 0),ax,ax,ax,(ak 0),(br []),(ak 2),(.sl 12 [[(ak 5),(ak 0),(ak 4),(ak 0),(ak 0),ax,ax,ax,(ak 0),(br []),(ak 0),ax],[(ak 23),(ak 0),(ak 4),(ak 0),(ak 0),ax,ax,ax,(ak 0),(br []),(ak 7),(.sl 12 [[(ak 3),(ak 3),(ak 0),(ak 0),(ak 0),ax,ax,ax,(ak 0),(br [97]),(ak 11),ax]])]])])]
abbrev Gy:AV:=(ak 4)
abbrev Zk:Nat×List AV×AV:=(13,Gx,Gy)
theorem Zl:cY Tryz.prog cm cW (cU []) 1000000 13 Gx=some Gy:=by kernel_rfl
theorem Zm:Pure env.toCx 13 Gx (.ret Gy):=dj dn Zl
abbrev Pj:List AV:=[]
abbrev Pk:AV:=(.v (.bool true))
theorem Zn:cY Tryz.prog cm cW (cU [xB,Z3,aac,YW,YZ,aaf,Y2,kS,Pg,xD,Ze,Zh,FG,Zk]) 1000000 7 Pj=some Pk:=by kernel_rfl
theorem Yj:Pure env.toCx 7 Pj (.ret Pk):=dj (b5 xC (b5 Z5 (b5 aae (b5 YY (b5 Y1 (b5 aah (b5 Y4 (b5 kT (b5 Ph (b5 xE (b5 Zg (b5 Zj (b5 FH (b5 Zm dn)))))))))))))) Zn
