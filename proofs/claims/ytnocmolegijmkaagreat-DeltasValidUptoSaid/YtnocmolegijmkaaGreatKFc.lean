/- Own work, printed by mkfc.py. How closed runs are made: which functions may write what they are handed, which one catches. -/
import Derived.Test.YtnocmolegijmkaaGreatKCt
import Derived.Test.YtnocmolegijmkaaGreatKGA7
set_option linter.all false
namespace Go.Proofs.YtnocmolegijmkaaGreat
open Go Go.Bw
abbrev ag (n:Nat):AV:= .v (.int .i64 (.ofNat n))
abbrev ba (l:List UInt8):AV:= .v (.string ⟨⟨l⟩⟩)
abbrev ak:AV:= .v (.slice none 0 0)
def Uw:Tr Bool:=(.nd none (.nd none (.nd none (.nd none (.nd none (.nd none .lf (.nd none .lf (.nd (some true) .lf .lf))) (.nd none (.nd none .lf (.nd (some true) .lf .lf)) (.nd none .lf (.nd (some true) .lf .lf)))) (.nd none .lf (.nd none (.nd none (.nd none (.nd (some true) .lf .lf) .lf) .lf) (.nd none (.nd none (.nd (some true) .lf .lf) .lf) .lf)))) (.nd none (.nd none (.nd none (.nd (some true) .lf .lf) (.nd none (.nd (some true) .lf .lf) .lf)) (.nd none (.nd none .lf (.nd (some true) .lf .lf)) (.nd none (.nd none (.nd (some true) .lf .lf) .lf) .lf))) (.nd none (.nd none (.nd (some true) .lf (.nd (some true) .lf .lf)) .lf) (.nd none .lf (.nd none .lf (.nd (some true) .lf .lf)))))) (.nd none (.nd none (.nd none (.nd none .lf (.nd none .lf (.nd (some true) .lf .lf))) (.nd none (.nd none (.nd (some true) .lf .lf) (.nd (some true) .lf .lf)) (.nd none .lf (.nd (some true) .lf .lf)))) (.nd none (.nd none (.nd none .lf (.nd (some true) .lf .lf)) .lf) (.nd none (.nd none (.nd (some true) .lf .lf) .lf) (.nd none (.nd none (.nd (some true) .lf .lf) .lf) (.nd (some true) .lf .lf))))) (.nd none (.nd none (.nd none .lf (.nd none (.nd (some true) .lf .lf) .lf)) (.nd none (.nd none (.nd none (.nd (some true) .lf .lf) .lf) .lf) .lf)) .lf))) (.nd none (.nd none (.nd none (.nd none (.nd none .lf (.nd none .lf (.nd (some true) .lf .lf))) (.nd none (.nd none .lf (.nd (some true) .lf .lf)) (.nd none .lf (.nd (some true) .lf .lf)))) (.nd none (.nd none (.nd none .lf (.nd (some true) .lf .lf)) .lf) (.nd none .lf (.nd none (.nd none (.nd (some true) .lf .lf) .lf) (.nd (some true) .lf .lf))))) (.nd none (.nd none (.nd none .lf (.nd none (.nd (some true) .lf .lf) .lf)) (.nd none (.nd none .lf (.nd (some true) .lf .lf)) (.nd (some true) (.nd none (.nd (some true) .lf .lf) .lf) .lf))) (.nd none .lf (.nd none .lf (.nd none .lf (.nd (some true) .lf .lf)))))) (.nd none (.nd none (.nd none (.nd none .lf (.nd none .lf (.nd (some true) .lf .lf))) (.nd none (.nd none (.nd (some true) .lf .lf) (.nd (some true) .lf .lf)) (.nd none (.nd none (.nd (some true) .lf .lf) .lf) .lf))) (.nd none (.nd none (.nd (some true) .lf (.nd (some true) .lf .lf)) .lf) (.nd none (.nd none (.nd (some true) .lf .lf) .lf) (.nd none .lf (.nd (some true) .lf .lf))))) (.nd none (.nd none .lf (.nd none (.nd none (.nd none (.nd (some true) .lf .lf) .lf) .lf) (.nd none (.nd none (.nd (some true) .lf .lf) .lf) .lf))) (.nd none (.nd none (.nd (some true) .lf (.nd (some true) .lf .lf)) .lf) .lf)))))
noncomputable def cG (fs:List (Nat×List AV×AV)):eP:=⟨true,λ_=>true,λg=>match Uw.get g with
 |some _=>true
 |none=>false,λ_=>false,fns,λg=>match Nat.beq g 76 with
 |true=>some (75,.agg [.v (.int .i64 0),.v (.int .i64 0)])
 |false=>none,fs⟩
theorem cT:jj env []:=λf hf=>by cases hf
theorem bN {g:Nat} {xs:List AV} {z:AV} {fs:List (Nat×List AV×AV)} (h:Pure env.toCx g xs (.ret z)) (hf:jj env fs):jj env ((g,xs,z)::fs):=λf hm=>by
 rcases cu.1 hm with rfl|hm
 ·exact h
 ·exact hf f hm
theorem cO {fs:List (Nat×List AV×AV)} (hf:jj env fs) {g:Nat} {xs:List AV} {z:AV} (h:cK Tryz.prog b0 cI (cG fs) 1000000 g xs=some z):Pure env.toCx g xs (.ret z):=by
 refine Qh (E:=env) (c:=cG fs) mixed hf (λf ty z h=>?_) (λg x h=>Rh g x h) h;simp only[cG]at h;split at h
 ·rename_i hb;cases h;rw[bg hb];exact GD
 ·cases h
set_option maxRecDepth 1000000
abbrev Dd:List AV:=[(.agg [(ag 4),(ag 0),(ag 0),ak,ak,ak])]
abbrev De:AV:=(ag 0)
abbrev jJ:Nat×List AV×AV:=(31,Dd,De)
theorem T5:cK Tryz.prog b0 cI (cG []) 1000000 31 Dd=some De:=by kernel_rfl
theorem jK:Pure env.toCx 31 Dd (.ret De):=cO cT T5
abbrev Dg:List AV:=[(.agg [(ag 0),(ag 4),(ag 0),(ag 0),ak,ak,ak]),(.agg [(ag 0),(ag 4),(ag 0),(ag 0),ak,ak,ak])]
abbrev Dh:AV:=(.v (.bool true))
abbrev T6:Nat×List AV×AV:=(81,Dg,Dh)
theorem T':cK Tryz.prog b0 cI (cG []) 1000000 81 Dg=some Dh:=by kernel_rfl
theorem Ua:Pure env.toCx 81 Dg (.ret Dh):=cO cT T'
abbrev KH:List AV:=[(.agg [(ag 4),(ag 0),(ag 0),ak,ak,ak]),(.agg [(ba [102]),(ba [111]),ak,(ag 0),(ag 16),(ag 0),(ag 4),(ag 0),(ag 0),ak,ak,ak,(ag 0),(ba []),(ag 2),(.sl 12 [[(ag 5),(ag 0),(ag 4),(ag 0),(ag 0),ak,ak,ak,(ag 0),(ba []),(ag 0),ak],[(ag 23),(ag 0),(ag 4),(ag 0),(ag 0),ak,ak,ak,(ag 0),(ba []),(ag 7),(.sl 12 [[(ag 3),(ag 3),(ag 0),(ag 0),(ag 0),ak,ak,ak,(ag 0),(ba [97]),(ag 11),ak]])]])])]
abbrev KI:AV:=(.v (.bool true))
abbrev uh:Nat×List AV×AV:=(12,KH,KI)
theorem ui:Pure env.toCx 12 KH (.ret KI):=Pure.args (by(try simp only[gz]);repeat(first|exact bO.refl _|exact bO.nil _|exact bS.nil|exact cU.nil|exact bS.refl _|exact cU.refl _|exact bO.of (by simp only[gz];rfl)|(dsimp only;try simp only[gz])|apply bO.agg|apply bO.bX|apply bO.ip|apply bO.fn|apply bS.cons|apply bO.sl|apply cU.cons|apply cU.append)) ((hu 1000).rR ⟨4,0,0,[],[],[]⟩ ⟨[102],[111],[],0,⟨16,⟨0,⟨4,0,0,[],[],[]⟩⟩,0,[],2,[⟨5,⟨0,⟨4,0,0,[],[],[]⟩⟩,0,[],0,[]⟩,⟨23,⟨0,⟨4,0,0,[],[],[]⟩⟩,0,[],7,[⟨3,⟨3,⟨0,0,0,[],[],[]⟩⟩,0,[97],11,[]⟩]⟩]⟩⟩ (true) (show l7 (Gu 1000) ⟨4,0,0,[],[],[]⟩ ⟨[102],[111],[],0,⟨16,⟨0,⟨4,0,0,[],[],[]⟩⟩,0,[],2,[⟨5,⟨0,⟨4,0,0,[],[],[]⟩⟩,0,[],0,[]⟩,⟨23,⟨0,⟨4,0,0,[],[],[]⟩⟩,0,[],7,[⟨3,⟨3,⟨0,0,0,[],[],[]⟩⟩,0,[97],11,[]⟩]⟩]⟩⟩=some (true)by kernel_rfl))
abbrev Di:List AV:=[(.agg [(ag 5),(ag 0),(ag 4),(ag 0),(ag 0),ak,ak,ak,(ag 0),(ba []),(ag 0),ak]),(.agg [(ag 5),(ag 0),(ag 4),(ag 0),(ag 0),ak,ak,ak,(ag 0),(ba []),(ag 0),ak])]
abbrev Dj:AV:=(.v (.bool true))
abbrev Ub:Nat×List AV×AV:=(50,Di,Dj)
theorem Uc:cK Tryz.prog b0 cI (cG [T6]) 1000000 50 Di=some Dj:=by kernel_rfl
theorem Ud:Pure env.toCx 50 Di (.ret Dj):=cO (bN Ua cT) Uc
abbrev Dk:List AV:=[(.agg [(ag 5),(ag 0),(ag 4),(ag 0),(ag 0),ak,ak,ak,(ag 0),(ba []),(ag 0),ak]),(.agg [(ag 5),(ag 0),(ag 4),(ag 0),(ag 0),ak,ak,ak,(ag 0),(ba []),(ag 0),ak])]
abbrev Dl:AV:=(.agg [(ag 6),(ag 0),(ag 4),(ag 0),(ag 0),ak,ak,ak,(ag 0),(ba []),(ag 0),ak])
abbrev Ue:Nat×List AV×AV:=(27,Dk,Dl)
theorem Uf:cK Tryz.prog b0 cI (cG [Ub]) 1000000 27 Dk=some Dl:=by kernel_rfl
theorem Ug:Pure env.toCx 27 Dk (.ret Dl):=cO (bN Ud cT) Uf
abbrev Dm:List AV:=[ak,(.sl 1 [[(ba [98])]])]
abbrev Dn:AV:=(.v (.bool true))
abbrev Uh:Nat×List AV×AV:=(122,Dm,Dn)
theorem Ui:cK Tryz.prog b0 cI (cG []) 1000000 122 Dm=some Dn:=by kernel_rfl
theorem Uj:Pure env.toCx 122 Dm (.ret Dn):=cO cT Ui
abbrev Dp:List AV:=[(.agg [(ag 4),(ag 0),(ag 0),ak,ak,ak]),(.agg [(ag 0),(.sl 1 [[(ba [98])]]),ak,ak])]
abbrev Dq:AV:=(.v (.bool true))
abbrev Uk:Nat×List AV×AV:=(83,Dp,Dq)
theorem Ul:cK Tryz.prog b0 cI (cG [Uh]) 1000000 83 Dp=some Dq:=by kernel_rfl
theorem Um:Pure env.toCx 83 Dp (.ret Dq):=cO (bN Uj cT) Ul
abbrev Dr:List AV:=[(.agg [(ag 4),(ag 0),(ag 0),ak,ak,ak]),(.agg [(ag 0),(.sl 1 [[(ba [98])]]),ak,ak])]
abbrev Ds:AV:=(.v (.bool true))
abbrev uj:Nat×List AV×AV:=(37,Dr,Ds)
theorem Un:cK Tryz.prog b0 cI (cG [jJ,Uk]) 1000000 37 Dr=some Ds:=by kernel_rfl
theorem uk:Pure env.toCx 37 Dr (.ret Ds):=cO (bN jK (bN Um cT)) Un
abbrev Dt:List AV:=[(.agg [(ag 4),(ag 0),(ag 0),ak,ak,ak]),(.agg [(ba [102]),(ba [111]),ak,(ag 0),(ag 16),(ag 0),(ag 4),(ag 0),(ag 0),ak,ak,ak,(ag 0),(ba []),(ag 2),(.sl 12 [[(ag 5),(ag 0),(ag 4),(ag 0),(ag 0),ak,ak,ak,(ag 0),(ba []),(ag 0),ak],[(ag 23),(ag 0),(ag 4),(ag 0),(ag 0),ak,ak,ak,(ag 0),(ba []),(ag 7),(.sl 12 [[(ag 3),(ag 3),(ag 0),(ag 0),(ag 0),ak,ak,ak,(ag 0),(ba [97]),(ag 11),ak]])]])]),(.agg [(ag 0),(.sl 1 [[(ba [98])]]),ak,ak]),ak]
abbrev Dv:AV:=(ag 0)
abbrev Uo:Nat×List AV×AV:=(39,Dt,Dv)
theorem Uq:cK Tryz.prog b0 cI (cG [uh,uj]) 1000000 39 Dt=some Dv:=by kernel_rfl
theorem Ur:Pure env.toCx 39 Dt (.ret Dv):=cO (bN ui (bN uk cT)) Uq
abbrev Dw:List AV:=[(.agg [(ag 0),(.sl 1 [[(ba [98])]]),ak,ak,ak]),(.agg [(ag 23),(ag 0),(ag 4),(ag 0),(ag 0),ak,ak,ak,(ag 0),(ba []),(ag 7),(.sl 12 [[(ag 3),(ag 3),(ag 0),(ag 0),(ag 0),ak,ak,ak,(ag 0),(ba [97]),(ag 11),ak]])])]
abbrev Dx:AV:=(.agg [(ag 0),(ag 0),(ba []),ak,(ag 0),(.sl 1 [[(ba [97])]]),ak,ak])
abbrev Ut:Nat×List AV×AV:=(86,Dw,Dx)
theorem Uu:cK Tryz.prog b0 cI (cG []) 1000000 86 Dw=some Dx:=by kernel_rfl
theorem Uv:Pure env.toCx 86 Dw (.ret Dx):=cO cT Uu
abbrev BY:List AV:=[ak,(.sl 1 [[(ba [97])]])]
abbrev BZ:AV:=(.v (.bool true))
abbrev Si:Nat×List AV×AV:=(122,BY,BZ)
theorem Sj:cK Tryz.prog b0 cI (cG []) 1000000 122 BY=some BZ:=by kernel_rfl
theorem Sk:Pure env.toCx 122 BY (.ret BZ):=cO cT Sj
abbrev B0:List AV:=[(.agg [(ag 4),(ag 0),(ag 0),ak,ak,ak]),(.agg [(ag 0),(.sl 1 [[(ba [97])]]),ak,ak])]
abbrev B1:AV:=(.v (.bool true))
abbrev B2:Nat×List AV×AV:=(83,B0,B1)
theorem Sm:cK Tryz.prog b0 cI (cG [Si]) 1000000 83 B0=some B1:=by kernel_rfl
theorem B3:Pure env.toCx 83 B0 (.ret B1):=cO (bN Sk cT) Sm
abbrev B5:List AV:=[(.agg [(ag 4),(ag 0),(ag 0),ak,ak,ak]),(.agg [(ag 0),(.sl 1 [[(ba [97])]]),ak,ak])]
abbrev B6:AV:=(.v (.bool true))
abbrev q8:Nat×List AV×AV:=(37,B5,B6)
theorem Sn:cK Tryz.prog b0 cI (cG [jJ,B2]) 1000000 37 B5=some B6:=by kernel_rfl
theorem q9:Pure env.toCx 37 B5 (.ret B6):=cO (bN jK (bN B3 cT)) Sn
abbrev B7:List AV:=[(.agg [(ag 4),(ag 0),(ag 0),ak,ak,ak]),(.agg [(ba [102]),(ba [111]),ak,(ag 0),(ag 16),(ag 0),(ag 4),(ag 0),(ag 0),ak,ak,ak,(ag 0),(ba []),(ag 2),(.sl 12 [[(ag 5),(ag 0),(ag 4),(ag 0),(ag 0),ak,ak,ak,(ag 0),(ba []),(ag 0),ak],[(ag 23),(ag 0),(ag 4),(ag 0),(ag 0),ak,ak,ak,(ag 0),(ba []),(ag 7),(.sl 12 [[(ag 3),(ag 3),(ag 0),(ag 0),(ag 0),ak,ak,ak,(ag 0),(ba [97]),(ag 11),ak]])]])]),(.agg [(ag 0),(.sl 1 [[(ba [97])]]),ak,ak]),ak]
abbrev B':AV:=(ag 0)
abbrev Sp:Nat×List AV×AV:=(39,B7,B')
theorem Sq:cK Tryz.prog b0 cI (cG [uh,q8]) 1000000 39 B7=some B':=by kernel_rfl
theorem Sr:Pure env.toCx 39 B7 (.ret B'):=cO (bN ui (bN q9 cT)) Sq
abbrev Ca:List AV:=[(.agg [(ag 4),(ag 0),(ag 0),ak,ak,ak]),(.agg [(ba [102]),(ba [111]),ak,(ag 0),(ag 16),(ag 0),(ag 4),(ag 0),(ag 0),ak,ak,ak,(ag 0),(ba []),(ag 2),(.sl 12 [[(ag 5),(ag 0),(ag 4),(ag 0),(ag 0),ak,ak,ak,(ag 0),(ba []),(ag 0),ak],[(ag 23),(ag 0),(ag 4),(ag 0),(ag 0),ak,ak,ak,(ag 0),(ba []),(ag 7),(.sl 12 [[(ag 3),(ag 3),(ag 0),(ag 0),(ag 0),ak,ak,ak,(ag 0),(ba [97]),(ag 11),ak]])]])]),(.v (.bool true)),(.agg [(ag 0),(.sl 1 [[(ba [97])]]),ak,ak]),ak]
abbrev Cb:AV:=(ag 0)
abbrev Ss:Nat×List AV×AV:=(41,Ca,Cb)
theorem Su:cK Tryz.prog b0 cI (cG [uh,q8]) 1000000 41 Ca=some Cb:=by kernel_rfl
theorem Sv:Pure env.toCx 41 Ca (.ret Cb):=cO (bN ui (bN q9 cT)) Su
abbrev Cc:List AV:=[(.agg [(ag 0),(.sl 1 [[(ba [97])]]),ak,ak,ak]),(.agg [(ag 23),(ag 0),(ag 4),(ag 0),(ag 0),ak,ak,ak,(ag 0),(ba []),(ag 7),(.sl 12 [[(ag 3),(ag 3),(ag 0),(ag 0),(ag 0),ak,ak,ak,(ag 0),(ba [97]),(ag 11),ak]])])]
abbrev Cd:AV:=(.agg [(ag 0),(ag 0),(ba []),ak,(ag 0),(.sl 1 [[(ba [97])]]),ak,ak])
abbrev Sw:Nat×List AV×AV:=(86,Cc,Cd)
theorem Sx:cK Tryz.prog b0 cI (cG []) 1000000 86 Cc=some Cd:=by kernel_rfl
theorem Sy:Pure env.toCx 86 Cc (.ret Cd):=cO cT Sx
abbrev Ce:List AV:=[(.agg [(ag 4),(ag 0),(ag 0),ak,ak,ak])]
abbrev Cf:AV:=(.bX [(.agg [(ag 0),ak,ak,ak]),(ag 0)])
abbrev J6:Nat×List AV×AV:=(190,Ce,Cf)
theorem Sz:cK Tryz.prog b0 cI (cG [jJ]) 1000000 190 Ce=some Cf:=by kernel_rfl
theorem J7:Pure env.toCx 190 Ce (.ret Cf):=cO (bN jK cT) Sz
abbrev Cg:List AV:=[(.agg [(ag 4),(ag 0),(ag 0),ak,ak,ak])]
abbrev Ch:AV:=(.agg [(ag 0),ak,ak,ak])
abbrev J8:Nat×List AV×AV:=(137,Cg,Ch)
theorem SA:cK Tryz.prog b0 cI (cG [J6]) 1000000 137 Cg=some Ch:=by kernel_rfl
theorem J9:Pure env.toCx 137 Cg (.ret Ch):=cO (bN J7 cT) SA
abbrev Ci:List AV:=[(.agg [(ag 4),(ag 0),(ag 0),ak,ak,ak]),(.agg [(ag 0),(.sl 1 [[(ba [97])]]),ak,ak]),(.agg [(ag 0),(.sl 1 [[(ba [97])]]),ak,ak])]
abbrev Cj:AV:=(.bX [(.agg [(ag 0),(.sl 1 [[(ba [97])]]),ak,ak]),(ag 0)])
abbrev SB:Nat×List AV×AV:=(43,Ci,Cj)
theorem SC:cK Tryz.prog b0 cI (cG [jJ,q8,J8]) 1000000 43 Ci=some Cj:=by kernel_rfl
theorem SD:Pure env.toCx 43 Ci (.ret Cj):=cO (bN jK (bN q9 (bN J9 cT))) SC
abbrev Ck:List AV:=[(.agg [(ag 4),(ag 0),(ag 0),ak,ak,ak]),(.agg [(ag 0),(.sl 1 [[(ba [97])]]),ak,ak]),(.agg [(ag 0),(.sl 1 [[(ba [97])]]),ak,ak])]
abbrev Cl:AV:=(.v (.bool true))
abbrev SE:Nat×List AV×AV:=(19,Ck,Cl)
theorem SF:cK Tryz.prog b0 cI (cG [jJ,q8]) 1000000 19 Ck=some Cl:=by kernel_rfl
theorem SG:Pure env.toCx 19 Ck (.ret Cl):=cO (bN jK (bN q9 cT)) SF
abbrev Cm:List AV:=[(.agg [(ag 4),(ag 0),(ag 0),ak,ak,ak])]
abbrev Cn:AV:=(.agg [(ag 0),ak,ak,ak])
abbrev SH:Nat×List AV×AV:=(147,Cm,Cn)
theorem SI:cK Tryz.prog b0 cI (cG [J6]) 1000000 147 Cm=some Cn:=by kernel_rfl
theorem SJ:Pure env.toCx 147 Cm (.ret Cn):=cO (bN J7 cT) SI
abbrev Co:List AV:=[(.agg [(ag 4),(ag 0),(ag 0),ak,ak,ak]),(.agg [(ag 0),(.sl 1 [[(ba [97])]]),ak,ak]),(.agg [(ag 0),(.sl 1 [[(ba [97])]]),ak,ak])]
abbrev Cp:AV:=(.agg [(ag 0),ak,ak,ak])
abbrev SK:Nat×List AV×AV:=(99,Co,Cp)
theorem SL:cK Tryz.prog b0 cI (cG [SE,SH]) 1000000 99 Co=some Cp:=by kernel_rfl
theorem SM:Pure env.toCx 99 Co (.ret Cp):=cO (bN SG (bN SJ cT)) SL
abbrev Cq:List AV:=[(.agg [(ag 4),(ag 0),(ag 0),ak,ak,ak]),(.agg [(ag 0),ak,ak,ak])]
abbrev Cr:AV:=(.bX [(.sl 1 [[(.v (.int .u8 0))]]),(ag 0)])
abbrev SN:Nat×List AV×AV:=(98,Cq,Cr)
theorem SO:cK Tryz.prog b0 cI (cG [jJ]) 1000000 98 Cq=some Cr:=by kernel_rfl
theorem SP:Pure env.toCx 98 Cq (.ret Cr):=cO (bN jK cT) SO
abbrev Cs:List AV:=[(.agg [(ag 4),(ag 0),(ag 0),ak,ak,ak]),(.sl 1 [[(.v (.int .u8 0))]])]
abbrev Ct:AV:=(.bX [(.agg [(ag 0),ak,ak,ak]),(ag 0)])
abbrev SQ:Nat×List AV×AV:=(100,Cs,Ct)
theorem SR:cK Tryz.prog b0 cI (cG [jJ]) 1000000 100 Cs=some Ct:=by kernel_rfl
theorem SU:Pure env.toCx 100 Cs (.ret Ct):=cO (bN jK cT) SR
abbrev Cu:List AV:=[(.agg [(ag 4),(ag 0),(ag 0),ak,ak,ak]),(.agg [(ag 0),(.sl 1 [[(ba [97])]]),ak,ak]),(.agg [(ag 0),(.sl 1 [[(ba [97])]]),ak,ak])]
abbrev Cv:AV:=(.bX [(.agg [(ag 0),ak,ak,ak]),(ag 0)])
abbrev SV:Nat×List AV×AV:=(47,Cu,Cv)
theorem SX:cK Tryz.prog b0 cI (cG [jJ,q8,SK,SN,SQ]) 1000000 47 Cu=some Cv:=by kernel_rfl
theorem SY:Pure env.toCx 47 Cu (.ret Cv):=cO (bN jK (bN q9 (bN SM (bN SP (bN SU cT))))) SX
abbrev Cw:List AV:=[(.agg [(ag 4),(ag 0),(ag 0),ak,ak,ak]),(.agg [(ba [102]),(ba [111]),ak,(ag 0),(ag 16),(ag 0),(ag 4),(ag 0),(ag 0),ak,ak,ak,(ag 0),(ba []),(ag 2),(.sl 12 [[(ag 5),(ag 0),(ag 4),(ag 0),(ag 0),ak,ak,ak,(ag 0),(ba []),(ag 0),ak],[(ag 23),(ag 0),(ag 4),(ag 0),(ag 0),ak,ak,ak,(ag 0),(ba []),(ag 7),(.sl 12 [[(ag 3),(ag 3),(ag 0),(ag 0),(ag 0),ak,ak,ak,(ag 0),(ba [97]),(ag 11),ak]])]])]),(.agg [(ag 0),(.sl 1 [[(ba [97])]]),ak,ak]),ak]
abbrev Cy:AV:=(.bX [(.agg [(ag 0),ak,ak,ak]),(ag 0)])
abbrev SZ:Nat×List AV×AV:=(22,Cw,Cy)
theorem S0:cK Tryz.prog b0 cI (cG [Sp,Ss,Sw,SB,SV]) 1000000 22 Cw=some Cy:=by kernel_rfl
theorem S1:Pure env.toCx 22 Cw (.ret Cy):=cO (bN Sr (bN Sv (bN Sy (bN SD (bN SY cT))))) S0
abbrev Cz:List AV:=[(.agg [(ag 4),(ag 0),(ag 0),ak,ak,ak]),(.agg [(ba [102]),(ba [111]),ak,(ag 0),(ag 16),(ag 0),(ag 4),(ag 0),(ag 0),ak,ak,ak,(ag 0),(ba []),(ag 2),(.sl 12 [[(ag 5),(ag 0),(ag 4),(ag 0),(ag 0),ak,ak,ak,(ag 0),(ba []),(ag 0),ak],[(ag 23),(ag 0),(ag 4),(ag 0),(ag 0),ak,ak,ak,(ag 0),(ba []),(ag 7),(.sl 12 [[(ag 3),(ag 3),(ag 0),(ag 0),(ag 0),ak,ak,ak,(ag 0),(ba [97]),(ag 11),ak]])]])]),(.v (.bool true)),(.agg [(ag 0),(.sl 1 [[(ba [98])]]),ak,ak]),ak]
abbrev CA:AV:=(ag 0)
abbrev S2:Nat×List AV×AV:=(41,Cz,CA)
theorem S3:cK Tryz.prog b0 cI (cG [uh,uj]) 1000000 41 Cz=some CA:=by kernel_rfl
theorem S4:Pure env.toCx 41 Cz (.ret CA):=cO (bN ui (bN uk cT)) S3
abbrev CB:List AV:=[(.agg [(ag 4),(ag 0),(ag 0),ak,ak,ak]),(.agg [(ag 0),(.sl 1 [[(ba [98])]]),ak,ak]),(.agg [(ag 0),(.sl 1 [[(ba [97])]]),ak,ak])]
abbrev CC:AV:=(.bX [(.agg [(ag 0),(.sl 1 [[(ba [97])],[(ba [98])]]),ak,ak]),(ag 0)])
abbrev S5:Nat×List AV×AV:=(43,CB,CC)
theorem S6:cK Tryz.prog b0 cI (cG [jJ,uj,q8,J8]) 1000000 43 CB=some CC:=by kernel_rfl
theorem S7:Pure env.toCx 43 CB (.ret CC):=cO (bN jK (bN uk (bN q9 (bN J9 cT)))) S6
abbrev CD:List AV:=[ak,(.sl 1 [[(ba [97])],[(ba [98])]])]
abbrev CF:AV:=(.v (.bool true))
abbrev S8:Nat×List AV×AV:=(122,CD,CF)
theorem S9:cK Tryz.prog b0 cI (cG []) 1000000 122 CD=some CF:=by kernel_rfl
theorem S':Pure env.toCx 122 CD (.ret CF):=cO cT S9
abbrev CG:List AV:=[(.agg [(ag 4),(ag 0),(ag 0),ak,ak,ak]),(.agg [(ag 0),(.sl 1 [[(ba [97])],[(ba [98])]]),ak,ak])]
abbrev CH:AV:=(.v (.bool true))
abbrev Ta:Nat×List AV×AV:=(83,CG,CH)
theorem Tb:cK Tryz.prog b0 cI (cG [S8]) 1000000 83 CG=some CH:=by kernel_rfl
theorem Tc:Pure env.toCx 83 CG (.ret CH):=cO (bN S' cT) Tb
abbrev CI:List AV:=[(.agg [(ag 4),(ag 0),(ag 0),ak,ak,ak]),(.agg [(ag 0),(.sl 1 [[(ba [97])],[(ba [98])]]),ak,ak])]
abbrev CJ:AV:=(.v (.bool true))
abbrev J':Nat×List AV×AV:=(37,CI,CJ)
theorem Td:cK Tryz.prog b0 cI (cG [jJ,Ta]) 1000000 37 CI=some CJ:=by kernel_rfl
theorem Ka:Pure env.toCx 37 CI (.ret CJ):=cO (bN jK (bN Tc cT)) Td
abbrev CK:List AV:=[(.agg [(ag 4),(ag 0),(ag 0),ak,ak,ak]),(.agg [(ag 0),(.sl 1 [[(ba [97])],[(ba [98])]]),ak,ak]),(.agg [(ag 0),(.sl 1 [[(ba [98])]]),ak,ak])]
abbrev CL:AV:=(.v (.bool false))
abbrev Te:Nat×List AV×AV:=(19,CK,CL)
theorem Tf:cK Tryz.prog b0 cI (cG [jJ,J',uj]) 1000000 19 CK=some CL:=by kernel_rfl
theorem Tg:Pure env.toCx 19 CK (.ret CL):=cO (bN jK (bN Ka (bN uk cT))) Tf
abbrev CM:List AV:=[(.agg [(ag 4),(ag 0),(ag 0),ak,ak,ak]),(.agg [(ag 0),(.sl 1 [[(ba [97])],[(ba [98])]]),ak,ak]),(.agg [(ag 0),(.sl 1 [[(ba [98])]]),ak,ak])]
abbrev CO:AV:=(.agg [(ag 0),(.sl 1 [[(ba [97])]]),ak,ak])
abbrev Th:Nat×List AV×AV:=(99,CM,CO)
theorem Ti:cK Tryz.prog b0 cI (cG [Te]) 1000000 99 CM=some CO:=by kernel_rfl
theorem Tj:Pure env.toCx 99 CM (.ret CO):=cO (bN Tg cT) Ti
abbrev CP:List AV:=[(.agg [(ag 4),(ag 0),(ag 0),ak,ak,ak]),(.agg [(ag 0),(.sl 1 [[(ba [97])]]),ak,ak])]
abbrev CR:AV:=(.bX [(.sl 1 [[(.v (.int .u8 1))],[(.v (.int .u8 1))],[(.v (.int .u8 97))]]),(ag 0)])
abbrev Tk:Nat×List AV×AV:=(98,CP,CR)
theorem Tl:cK Tryz.prog b0 cI (cG [jJ,B2]) 1000000 98 CP=some CR:=by kernel_rfl
theorem Tm:Pure env.toCx 98 CP (.ret CR):=cO (bN jK (bN B3 cT)) Tl
abbrev CS:List AV:=[(.agg [(ag 16),(ag 0),(ag 4),(ag 0),(ag 0),ak,ak,ak,(ag 0),(ba []),(ag 2),(.sl 12 [[(ag 5),(ag 0),(ag 4),(ag 0),(ag 0),ak,ak,ak,(ag 0),(ba []),(ag 0),ak],[(ag 23),(ag 0),(ag 4),(ag 0),(ag 0),ak,ak,ak,(ag 0),(ba []),(ag 7),(.sl 12 [[(ag 3),(ag 3),(ag 0),(ag 0),(ag 0),ak,ak,ak,(ag 0),(ba [97]),(ag 11),ak]])]])])]
abbrev CT:AV:=(ag 4)
abbrev Tn:Nat×List AV×AV:=(13,CS,CT)
theorem To:cK Tryz.prog b0 cI (cG []) 1000000 13 CS=some CT:=by kernel_rfl
theorem Tp:Pure env.toCx 13 CS (.ret CT):=cO cT To
abbrev Kb:List AV:=[]
abbrev Kc:AV:=(.v (.bool true))
theorem Tq:cK Tryz.prog b0 cI (cG [uh,Ue,Uo,SZ,S2,Ut,S5,jJ,J',uj,Th,Tk,B2,Tn]) 1000000 7 Kb=some Kc:=by kernel_rfl
theorem Se:Pure env.toCx 7 Kb (.ret Kc):=cO (bN ui (bN Ug (bN Ur (bN S1 (bN S4 (bN Uv (bN S7 (bN jK (bN Ka (bN uk (bN Tj (bN Tm (bN B3 (bN Tp cT)))))))))))))) Tq
