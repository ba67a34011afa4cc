/- Own work, printed by mkfc.py. How closed runs are made: which functions may write what they are handed, which one catches. -/
import Derived.Test.YtnocmolegijmkaaGreatKCt
set_option linter.all false
namespace Go.Proofs.YtnocmolegijmkaaGreat
open Go Go.Bw
abbrev af (n:Nat):AV:= .v (.int .i64 (.ofNat n))
abbrev bd (l:List UInt8):AV:= .v (.string ⟨⟨l⟩⟩)
abbrev ao:AV:= .v (.slice none 0 0)
def ak':Tr Bool:=(.nd none (.nd none (.nd none (.nd none (.nd none (.nd none .lf (.nd none .lf (.nd (some true) .lf .lf))) (.nd none (.nd none .lf (.nd (some true) .lf .lf)) (.nd none .lf (.nd (some true) .lf .lf)))) (.nd none .lf (.nd none (.nd none (.nd none (.nd (some true) .lf .lf) .lf) .lf) (.nd none (.nd none (.nd (some true) .lf .lf) .lf) .lf)))) (.nd none (.nd none (.nd none (.nd (some true) .lf .lf) (.nd none (.nd (some true) .lf .lf) .lf)) (.nd none (.nd none .lf (.nd (some true) .lf .lf)) (.nd none (.nd none (.nd (some true) .lf .lf) .lf) .lf))) (.nd none (.nd none (.nd (some true) .lf (.nd (some true) .lf .lf)) .lf) (.nd none .lf (.nd none .lf (.nd (some true) .lf .lf)))))) (.nd none (.nd none (.nd none (.nd none .lf (.nd none .lf (.nd (some true) .lf .lf))) (.nd none (.nd none (.nd (some true) .lf .lf) (.nd (some true) .lf .lf)) (.nd none .lf (.nd (some true) .lf .lf)))) (.nd none (.nd none (.nd none .lf (.nd (some true) .lf .lf)) .lf) (.nd none (.nd none (.nd (some true) .lf .lf) .lf) (.nd none (.nd none (.nd (some true) .lf .lf) .lf) (.nd (some true) .lf .lf))))) (.nd none (.nd none (.nd none .lf (.nd none (.nd (some true) .lf .lf) .lf)) (.nd none (.nd none (.nd none (.nd (some true) .lf .lf) .lf) .lf) .lf)) .lf))) (.nd none (.nd none (.nd none (.nd none (.nd none .lf (.nd none .lf (.nd (some true) .lf .lf))) (.nd none (.nd none .lf (.nd (some true) .lf .lf)) (.nd none .lf (.nd (some true) .lf .lf)))) (.nd none (.nd none (.nd none .lf (.nd (some true) .lf .lf)) .lf) (.nd none .lf (.nd none (.nd none (.nd (some true) .lf .lf) .lf) (.nd (some true) .lf .lf))))) (.nd none (.nd none (.nd none .lf (.nd none (.nd (some true) .lf .lf) .lf)) (.nd none (.nd none .lf (.nd (some true) .lf .lf)) (.nd (some true) (.nd none (.nd (some true) .lf .lf) .lf) .lf))) (.nd none .lf (.nd none .lf (.nd none .lf (.nd (some true) .lf .lf)))))) (.nd none (.nd none (.nd none (.nd none .lf (.nd none .lf (.nd (some true) .lf .lf))) (.nd none (.nd none (.nd (some true) .lf .lf) (.nd (some true) .lf .lf)) (.nd none (.nd none (.nd (some true) .lf .lf) .lf) .lf))) (.nd none (.nd none (.nd (some true) .lf (.nd (some true) .lf .lf)) .lf) (.nd none (.nd none (.nd (some true) .lf .lf) .lf) (.nd none .lf (.nd (some true) .lf .lf))))) (.nd none (.nd none .lf (.nd none (.nd none (.nd none (.nd (some true) .lf .lf) .lf) .lf) (.nd none (.nd none (.nd (some true) .lf .lf) .lf) .lf))) (.nd none (.nd none (.nd (some true) .lf (.nd (some true) .lf .lf)) .lf) .lf)))))
noncomputable def cP (fs:List (Nat×List AV×AV)):gk:=⟨true,λ_=>true,λg=>match ak'.get g with
 |some _=>true
 |none=>false,λ_=>false,fns,λg=>match Nat.beq g 76 with
 |true=>some (75,.agg [.v (.int .i64 0),.v (.int .i64 0)])
 |false=>none,fs⟩
theorem cZ:kK env []:=λf hf=>by cases hf
theorem bD {g:Nat} {xs:List AV} {z:AV} {fs:List (Nat×List AV×AV)} (h:Pure env.toCx g xs (.ret z)) (hf:kK env fs):kK env ((g,xs,z)::fs):=λf hm=>by
 rcases ck.1 hm with rfl|hm
 ·exact h
 ·exact hf f hm
theorem cW {fs:List (Nat×List AV×AV)} (hf:kK env fs) {g:Nat} {xs:List AV} {z:AV} (h:cS Tryz.prog cm cQ (cP fs) 1000000 g xs=some z):Pure env.toCx g xs (.ret z):=by
 refine ae2 (E:=env) (c:=cP fs) mixed hf (λf ty z h=>?_) (λg x h=>af0 g x h) h;simp only[cP]at h;split at h
 ·rename_i hb;cases h;rw[bK hb];exact Rk
 ·cases h
set_option maxRecDepth 1000000
abbrev wa5:AV:= .sl 12 [[(af 3),(af 3),(af 0),(af 0),(af 0),ao,ao,ao,(af 0),(bd [97]),(af 11),ao]]
abbrev wa1:AV:= .sl 12 [[(af 5),(af 0),(af 4),(af 0),(af 0),ao,ao,ao,(af 0),(bd []),(af 0),ao],[(af 23),(af 0),(af 4),(af 0),(af 0),ao,ao,ao,(af 0),(bd []),(af 7),wa5]]
abbrev wa2:AV:= .agg [(af 4),(af 0),(af 0),ao,ao,ao]
abbrev wa3:AV:= .agg [(af 0),(.sl 1 [[(bd [97])]]),ao,ao]
abbrev wa4:AV:= .agg [(bd [102]),(bd [111]),ao,(af 0),(af 16),(af 0),(af 4),(af 0),(af 0),ao,ao,ao,(af 0),(bd []),(af 2),wa1]
abbrev wa6:AV:= .agg [(af 5),(af 0),(af 4),(af 0),(af 0),ao,ao,ao,(af 0),(bd []),(af 0),ao]
abbrev wa7:AV:= .agg [(af 3),(af 3),(af 0),(af 0),(af 0),ao,ao,ao,(af 0),(bd [97]),(af 11),ao]
abbrev wa8:AV:= .agg [(af 16),(af 0),(af 4),(af 0),(af 0),ao,ao,ao,(af 0),(bd []),(af 2),wa1]
abbrev wa9:AV:= .agg [(af 23),(af 0),(af 4),(af 0),(af 0),ao,ao,ao,(af 0),(bd []),(af 7),wa5]
abbrev wa10:AV:= .agg [(af 0),(.sl 1 [[(bd [98])]]),ao,ao]
abbrev wa11:AV:= .agg [(af 0),(.sl 1 [[(bd [97])],[(bd [98])]]),ao,ao]
abbrev wa12:AV:= .agg [(af 0),ao,ao,ao]
abbrev wa13:AV:= .agg [(af 0),(af 4),(af 0),(af 0),ao,ao,ao]
abbrev wa14:AV:= .agg [(af 0),(af 0),(bd []),ao,(af 0),(.sl 1 [[(bd [97])]]),ao,ao]
abbrev wa15:AV:= .bQ [(.agg [(af 47),(bd [97]),(af 0),(af 11),ao]),(.v (.bool true))]
abbrev wa16:AV:= .agg [(af 3),(af 0),(af 0),(af 0),ao,ao,ao]
abbrev Nt:List AV:=[wa2]
abbrev Nv:AV:=(af 0)
abbrev jl:Nat×List AV×AV:=(31,Nt,Nv)
theorem akp:cS Tryz.prog cm cQ (cP []) 1000000 31 Nt=some Nv:=by kernel_rfl
theorem jm:Pure env.toCx 31 Nt (.ret Nv):=cW cZ akp
abbrev Nw:List AV:=[wa4]
abbrev Ny:AV:=(.v (.bool true))
abbrev B1:Nat×List AV×AV:=(32,Nw,Ny)
theorem akq:cS Tryz.prog cm cQ (cP []) 1000000 32 Nw=some Ny:=by kernel_rfl
theorem B2:Pure env.toCx 32 Nw (.ret Ny):=cW cZ akq
abbrev Nz:List AV:=[ao,wa6]
abbrev NA:AV:=(.bQ [(.agg [(af 49),(bd []),(af 0),(af 0),ao]),(.v (.bool true))])
abbrev B3:Nat×List AV×AV:=(33,Nz,NA)
theorem akr:cS Tryz.prog cm cQ (cP []) 1000000 33 Nz=some NA:=by kernel_rfl
theorem B4:Pure env.toCx 33 Nz (.ret NA):=cW cZ akr
abbrev NB:List AV:=[ao,wa7]
abbrev NC:AV:=wa15
abbrev aks:Nat×List AV×AV:=(71,NB,NC)
theorem akt:cS Tryz.prog cm cQ (cP []) 1000000 71 NB=some NC:=by kernel_rfl
theorem aku:Pure env.toCx 71 NB (.ret NC):=cW cZ akt
abbrev ND:List AV:=[ao,wa7]
abbrev NF:AV:=wa15
abbrev B5:Nat×List AV×AV:=(33,ND,NF)
theorem akv:cS Tryz.prog cm cQ (cP [aks]) 1000000 33 ND=some NF:=by kernel_rfl
theorem B7:Pure env.toCx 33 ND (.ret NF):=cW (bD aku cZ) akv
abbrev NG:List AV:=[wa13,wa13]
abbrev NH:AV:=(.v (.bool true))
abbrev B':Nat×List AV×AV:=(81,NG,NH)
theorem akw:cS Tryz.prog cm cQ (cP []) 1000000 81 NG=some NH:=by kernel_rfl
theorem Ca:Pure env.toCx 81 NG (.ret NH):=cW cZ akw
abbrev NI:List AV:=[wa2,ao,wa13,(.agg [(af 39),(bd []),(af 0),(af 2),(.sl 5 [[(af 49),(bd []),(af 0),(af 0),ao],[(af 51),(bd [115,101,116]),(af 0),(af 7),(.sl 5 [[(af 47),(bd [97]),(af 0),(af 11),ao]])]])])]
abbrev NJ:AV:=(.bQ [wa8,(.agg [(af 0),(af 0)])])
abbrev Cb:Nat×List AV×AV:=(34,NI,NJ)
theorem akx:cS Tryz.prog cm cQ (cP [B']) 1000000 34 NI=some NJ:=by kernel_rfl
theorem Cc:Pure env.toCx 34 NI (.ret NJ):=cW (bD Ca cZ) akx
abbrev NK:List AV:=[wa6,wa6]
abbrev NL:AV:=(.v (.bool true))
abbrev aky:Nat×List AV×AV:=(36,NK,NL)
theorem akz:cS Tryz.prog cm cQ (cP [B']) 1000000 36 NK=some NL:=by kernel_rfl
theorem akA:Pure env.toCx 36 NK (.ret NL):=cW (bD Ca cZ) akz
abbrev NM:List AV:=[wa16,wa16]
abbrev NN:AV:=(.v (.bool true))
abbrev akB:Nat×List AV×AV:=(81,NM,NN)
theorem akC:cS Tryz.prog cm cQ (cP []) 1000000 81 NM=some NN:=by kernel_rfl
theorem akD:Pure env.toCx 81 NM (.ret NN):=cW cZ akC
abbrev NO:List AV:=[wa7,wa7]
abbrev NP:AV:=(.v (.bool true))
abbrev akE:Nat×List AV×AV:=(36,NO,NP)
theorem akF:cS Tryz.prog cm cQ (cP [akB]) 1000000 36 NO=some NP:=by kernel_rfl
theorem akG:Pure env.toCx 36 NO (.ret NP):=cW (bD akD cZ) akF
abbrev NQ:List AV:=[wa5,wa5,(.v (.func (.func 36) #[] #[]))]
abbrev NR:AV:=(.v (.bool true))
abbrev akH:Nat×List AV×AV:=(82,NQ,NR)
theorem akI:cS Tryz.prog cm cQ (cP [akE]) 1000000 82 NQ=some NR:=by kernel_rfl
theorem akJ:Pure env.toCx 82 NQ (.ret NR):=cW (bD akG cZ) akI
abbrev NS:List AV:=[wa9,wa9]
abbrev NT:AV:=(.v (.bool true))
abbrev akK:Nat×List AV×AV:=(36,NS,NT)
theorem akL:cS Tryz.prog cm cQ (cP [B',akH]) 1000000 36 NS=some NT:=by kernel_rfl
theorem akM:Pure env.toCx 36 NS (.ret NT):=cW (bD Ca (bD akJ cZ)) akL
abbrev NU:List AV:=[wa1,wa1,(.v (.func (.func 36) #[] #[]))]
abbrev NW:AV:=(.v (.bool true))
abbrev akN:Nat×List AV×AV:=(82,NU,NW)
theorem akO:cS Tryz.prog cm cQ (cP [aky,akK]) 1000000 82 NU=some NW:=by kernel_rfl
theorem akP:Pure env.toCx 82 NU (.ret NW):=cW (bD akA (bD akM cZ)) akO
abbrev NX:List AV:=[wa8,wa8]
abbrev NY:AV:=(.v (.bool true))
abbrev Cd:Nat×List AV×AV:=(36,NX,NY)
theorem akQ:cS Tryz.prog cm cQ (cP [B',akN]) 1000000 36 NX=some NY:=by kernel_rfl
theorem Ce:Pure env.toCx 36 NX (.ret NY):=cW (bD Ca (bD akP cZ)) akQ
abbrev NZ:List AV:=[wa6,wa6]
abbrev N0:AV:=(.v (.bool true))
abbrev akR:Nat×List AV×AV:=(50,NZ,N0)
theorem akS:cS Tryz.prog cm cQ (cP [B']) 1000000 50 NZ=some N0:=by kernel_rfl
theorem akT:Pure env.toCx 50 NZ (.ret N0):=cW (bD Ca cZ) akS
abbrev N2:List AV:=[wa6,wa6]
abbrev N3:AV:=(.agg [(af 6),(af 0),(af 4),(af 0),(af 0),ao,ao,ao,(af 0),(bd []),(af 0),ao])
abbrev akU:Nat×List AV×AV:=(27,N2,N3)
theorem akV:cS Tryz.prog cm cQ (cP [akR]) 1000000 27 N2=some N3:=by kernel_rfl
theorem akW:Pure env.toCx 27 N2 (.ret N3):=cW (bD akT cZ) akV
abbrev N4:List AV:=[ao,(.sl 1 [[(bd [98])]])]
abbrev N5:AV:=(.v (.bool true))
abbrev akX:Nat×List AV×AV:=(122,N4,N5)
theorem akY:cS Tryz.prog cm cQ (cP []) 1000000 122 N4=some N5:=by kernel_rfl
theorem akZ:Pure env.toCx 122 N4 (.ret N5):=cW cZ akY
abbrev N6:List AV:=[wa2,wa10]
abbrev N7:AV:=(.v (.bool true))
abbrev ak0:Nat×List AV×AV:=(83,N6,N7)
theorem ak1:cS Tryz.prog cm cQ (cP [akX]) 1000000 83 N6=some N7:=by kernel_rfl
theorem ak2:Pure env.toCx 83 N6 (.ret N7):=cW (bD akZ cZ) ak1
abbrev N8:List AV:=[wa2,wa10]
abbrev N9:AV:=(.v (.bool true))
abbrev Cf:Nat×List AV×AV:=(37,N8,N9)
theorem ak3:cS Tryz.prog cm cQ (cP [jl,ak0]) 1000000 37 N8=some N9:=by kernel_rfl
theorem Cg:Pure env.toCx 37 N8 (.ret N9):=cW (bD jm (bD ak2 cZ)) ak3
abbrev Oa:List AV:=[wa2,wa4,wa10,ao]
abbrev Ob:AV:=(af 0)
abbrev ak4:Nat×List AV×AV:=(39,Oa,Ob)
theorem ak5:cS Tryz.prog cm cQ (cP [jl,B1,B3,B5,Cb,Cd,Cf]) 1000000 39 Oa=some Ob:=by kernel_rfl
theorem ak6:Pure env.toCx 39 Oa (.ret Ob):=cW (bD jm (bD B2 (bD B4 (bD B7 (bD Cc (bD Ce (bD Cg cZ))))))) ak5
abbrev Oc:List AV:=[(.agg [(af 0),(.sl 1 [[(bd [98])]]),ao,ao,ao]),wa9]
abbrev Od:AV:=wa14
abbrev ak7:Nat×List AV×AV:=(86,Oc,Od)
theorem ak8:cS Tryz.prog cm cQ (cP []) 1000000 86 Oc=some Od:=by kernel_rfl
theorem ak9:Pure env.toCx 86 Oc (.ret Od):=cW cZ ak8
abbrev Km:List AV:=[ao,(.sl 1 [[(bd [97])]])]
abbrev Kn:AV:=(.v (.bool true))
abbrev ahf:Nat×List AV×AV:=(122,Km,Kn)
theorem ahg:cS Tryz.prog cm cQ (cP []) 1000000 122 Km=some Kn:=by kernel_rfl
theorem ahh:Pure env.toCx 122 Km (.ret Kn):=cW cZ ahg
abbrev Ko:List AV:=[wa2,wa3]
abbrev Kp:AV:=(.v (.bool true))
abbrev Kq:Nat×List AV×AV:=(83,Ko,Kp)
theorem ahi:cS Tryz.prog cm cQ (cP [ahf]) 1000000 83 Ko=some Kp:=by kernel_rfl
theorem Kr:Pure env.toCx 83 Ko (.ret Kp):=cW (bD ahh cZ) ahi
abbrev Ks:List AV:=[wa2,wa3]
abbrev Kt:AV:=(.v (.bool true))
abbrev vQ:Nat×List AV×AV:=(37,Ks,Kt)
theorem ahj:cS Tryz.prog cm cQ (cP [jl,Kq]) 1000000 37 Ks=some Kt:=by kernel_rfl
theorem vR:Pure env.toCx 37 Ks (.ret Kt):=cW (bD jm (bD Kr cZ)) ahj
abbrev Kv:List AV:=[wa2,wa4,wa3,ao]
abbrev Kw:AV:=(af 0)
abbrev ahk:Nat×List AV×AV:=(39,Kv,Kw)
theorem ahl:cS Tryz.prog cm cQ (cP [jl,B1,B3,B5,Cb,Cd,vQ]) 1000000 39 Kv=some Kw:=by kernel_rfl
theorem ahm:Pure env.toCx 39 Kv (.ret Kw):=cW (bD jm (bD B2 (bD B4 (bD B7 (bD Cc (bD Ce (bD vR cZ))))))) ahl
abbrev Kx:List AV:=[wa2,wa4,(.v (.bool true)),wa3,ao]
abbrev Ky:AV:=(af 0)
abbrev ahn:Nat×List AV×AV:=(41,Kx,Ky)
theorem aho:cS Tryz.prog cm cQ (cP [jl,B1,B3,B5,Cb,Cd,vQ]) 1000000 41 Kx=some Ky:=by kernel_rfl
theorem ahp:Pure env.toCx 41 Kx (.ret Ky):=cW (bD jm (bD B2 (bD B4 (bD B7 (bD Cc (bD Ce (bD vR cZ))))))) aho
abbrev Kz:List AV:=[(.agg [(af 0),(.sl 1 [[(bd [97])]]),ao,ao,ao]),wa9]
abbrev KA:AV:=wa14
abbrev ahq:Nat×List AV×AV:=(86,Kz,KA)
theorem ahr:cS Tryz.prog cm cQ (cP []) 1000000 86 Kz=some KA:=by kernel_rfl
theorem ahs:Pure env.toCx 86 Kz (.ret KA):=cW cZ ahr
abbrev KB:List AV:=[wa2]
abbrev KC:AV:=(.bQ [wa12,(af 0)])
abbrev Xx:Nat×List AV×AV:=(190,KB,KC)
theorem aht:cS Tryz.prog cm cQ (cP [jl]) 1000000 190 KB=some KC:=by kernel_rfl
theorem Xy:Pure env.toCx 190 KB (.ret KC):=cW (bD jm cZ) aht
abbrev KD:List AV:=[wa2]
abbrev KE:AV:=wa12
abbrev Xz:Nat×List AV×AV:=(137,KD,KE)
theorem ahu:cS Tryz.prog cm cQ (cP [Xx]) 1000000 137 KD=some KE:=by kernel_rfl
theorem XA:Pure env.toCx 137 KD (.ret KE):=cW (bD Xy cZ) ahu
abbrev KF:List AV:=[wa2,wa3,wa3]
abbrev KG:AV:=(.bQ [wa3,(af 0)])
abbrev ahv:Nat×List AV×AV:=(43,KF,KG)
theorem ahw:cS Tryz.prog cm cQ (cP [jl,vQ,Xz]) 1000000 43 KF=some KG:=by kernel_rfl
theorem ahx:Pure env.toCx 43 KF (.ret KG):=cW (bD jm (bD vR (bD XA cZ))) ahw
abbrev KH:List AV:=[wa2,wa3,wa3]
abbrev KI:AV:=(.v (.bool true))
abbrev ahy:Nat×List AV×AV:=(19,KH,KI)
theorem ahz:cS Tryz.prog cm cQ (cP [jl,vQ]) 1000000 19 KH=some KI:=by kernel_rfl
theorem ahA:Pure env.toCx 19 KH (.ret KI):=cW (bD jm (bD vR cZ)) ahz
abbrev KJ:List AV:=[wa2]
abbrev KK:AV:=wa12
abbrev ahB:Nat×List AV×AV:=(147,KJ,KK)
theorem ahC:cS Tryz.prog cm cQ (cP [Xx]) 1000000 147 KJ=some KK:=by kernel_rfl
theorem ahD:Pure env.toCx 147 KJ (.ret KK):=cW (bD Xy cZ) ahC
abbrev KL:List AV:=[wa2,wa3,wa3]
abbrev KM:AV:=wa12
abbrev ahE:Nat×List AV×AV:=(99,KL,KM)
theorem ahF:cS Tryz.prog cm cQ (cP [ahy,ahB]) 1000000 99 KL=some KM:=by kernel_rfl
theorem ahG:Pure env.toCx 99 KL (.ret KM):=cW (bD ahA (bD ahD cZ)) ahF
abbrev KN:List AV:=[wa2,wa12]
abbrev KO:AV:=(.bQ [(.sl 1 [[(.v (.int .u8 0))]]),(af 0)])
abbrev ahH:Nat×List AV×AV:=(98,KN,KO)
theorem ahI:cS Tryz.prog cm cQ (cP [jl]) 1000000 98 KN=some KO:=by kernel_rfl
theorem ahJ:Pure env.toCx 98 KN (.ret KO):=cW (bD jm cZ) ahI
abbrev KP:List AV:=[wa2,(.sl 1 [[(.v (.int .u8 0))]])]
abbrev KQ:AV:=(.bQ [wa12,(af 0)])
abbrev ahK:Nat×List AV×AV:=(100,KP,KQ)
theorem ahL:cS Tryz.prog cm cQ (cP [jl]) 1000000 100 KP=some KQ:=by kernel_rfl
theorem ahM:Pure env.toCx 100 KP (.ret KQ):=cW (bD jm cZ) ahL
abbrev KR:List AV:=[wa2,wa3,wa3]
abbrev KS:AV:=(.bQ [wa12,(af 0)])
abbrev ahN:Nat×List AV×AV:=(47,KR,KS)
theorem ahO:cS Tryz.prog cm cQ (cP [jl,vQ,ahE,ahH,ahK]) 1000000 47 KR=some KS:=by kernel_rfl
theorem ahP:Pure env.toCx 47 KR (.ret KS):=cW (bD jm (bD vR (bD ahG (bD ahJ (bD ahM cZ))))) ahO
abbrev KT:List AV:=[wa2,wa4,wa3,ao]
abbrev KU:AV:=(.bQ [wa12,(af 0)])
abbrev ahQ:Nat×List AV×AV:=(22,KT,KU)
theorem ahR:cS Tryz.prog cm cQ (cP [ahk,ahn,ahq,ahv,ahN]) 1000000 22 KT=some KU:=by kernel_rfl
theorem ahS:Pure env.toCx 22 KT (.ret KU):=cW (bD ahm (bD ahp (bD ahs (bD ahx (bD ahP cZ))))) ahR
abbrev KV:List AV:=[wa2,wa4,(.v (.bool true)),wa10,ao]
abbrev KW:AV:=(af 0)
abbrev ahT:Nat×List AV×AV:=(41,KV,KW)
theorem ahU:cS Tryz.prog cm cQ (cP [jl,B1,B3,B5,Cb,Cd,Cf]) 1000000 41 KV=some KW:=by kernel_rfl
theorem ahV:Pure env.toCx 41 KV (.ret KW):=cW (bD jm (bD B2 (bD B4 (bD B7 (bD Cc (bD Ce (bD Cg cZ))))))) ahU
abbrev KX:List AV:=[wa2,wa10,wa3]
abbrev KY:AV:=(.bQ [wa11,(af 0)])
abbrev ahW:Nat×List AV×AV:=(43,KX,KY)
theorem ahX:cS Tryz.prog cm cQ (cP [jl,Cf,vQ,Xz]) 1000000 43 KX=some KY:=by kernel_rfl
theorem ahY:Pure env.toCx 43 KX (.ret KY):=cW (bD jm (bD Cg (bD vR (bD XA cZ)))) ahX
abbrev KZ:List AV:=[ao,(.sl 1 [[(bd [97])],[(bd [98])]])]
abbrev K0:AV:=(.v (.bool true))
abbrev ahZ:Nat×List AV×AV:=(122,KZ,K0)
theorem ah0:cS Tryz.prog cm cQ (cP []) 1000000 122 KZ=some K0:=by kernel_rfl
theorem ah1:Pure env.toCx 122 KZ (.ret K0):=cW cZ ah0
abbrev K2:List AV:=[wa2,wa11]
abbrev K3:AV:=(.v (.bool true))
abbrev ah2:Nat×List AV×AV:=(83,K2,K3)
theorem ah3:cS Tryz.prog cm cQ (cP [ahZ]) 1000000 83 K2=some K3:=by kernel_rfl
theorem ah4:Pure env.toCx 83 K2 (.ret K3):=cW (bD ah1 cZ) ah3
abbrev K4:List AV:=[wa2,wa11]
abbrev K5:AV:=(.v (.bool true))
abbrev XB:Nat×List AV×AV:=(37,K4,K5)
theorem ah5:cS Tryz.prog cm cQ (cP [jl,ah2]) 1000000 37 K4=some K5:=by kernel_rfl
theorem XC:Pure env.toCx 37 K4 (.ret K5):=cW (bD jm (bD ah4 cZ)) ah5
abbrev K6:List AV:=[wa2,wa11,wa10]
abbrev K7:AV:=(.v (.bool false))
abbrev ah6:Nat×List AV×AV:=(19,K6,K7)
theorem ah7:cS Tryz.prog cm cQ (cP [jl,XB,Cf]) 1000000 19 K6=some K7:=by kernel_rfl
theorem ah8:Pure env.toCx 19 K6 (.ret K7):=cW (bD jm (bD XC (bD Cg cZ))) ah7
abbrev K8:List AV:=[wa2,wa11,wa10]
abbrev K9:AV:=wa3
abbrev ah9:Nat×List AV×AV:=(99,K8,K9)
theorem ah':cS Tryz.prog cm cQ (cP [ah6]) 1000000 99 K8=some K9:=by kernel_rfl
theorem aia:Pure env.toCx 99 K8 (.ret K9):=cW (bD ah8 cZ) ah'
abbrev La:List AV:=[wa2,wa3]
abbrev Lb:AV:=(.bQ [(.sl 1 [[(.v (.int .u8 1))],[(.v (.int .u8 1))],[(.v (.int .u8 97))]]),(af 0)])
abbrev aib:Nat×List AV×AV:=(98,La,Lb)
theorem aic:cS Tryz.prog cm cQ (cP [jl,Kq]) 1000000 98 La=some Lb:=by kernel_rfl
theorem aid:Pure env.toCx 98 La (.ret Lb):=cW (bD jm (bD Kr cZ)) aic
abbrev Lc:List AV:=[wa8]
abbrev Ld:AV:=(af 4)
abbrev aie:Nat×List AV×AV:=(13,Lc,Ld)
theorem aif:cS Tryz.prog cm cQ (cP []) 1000000 13 Lc=some Ld:=by kernel_rfl
theorem aih:Pure env.toCx 13 Lc (.ret Ld):=cW cZ aif
abbrev XD:List AV:=[]
abbrev XE:AV:=(.v (.bool true))
theorem aii:cS Tryz.prog cm cQ (cP [jl,B1,B3,B5,Cb,Cd,akU,ak4,ahQ,ahT,ak7,ahW,XB,Cf,ah9,aib,Kq,aie]) 1000000 7 XD=some XE:=by kernel_rfl
theorem ahe:Pure env.toCx 7 XD (.ret XE):=cW (bD jm (bD B2 (bD B4 (bD B7 (bD Cc (bD Ce (bD akW (bD ak6 (bD ahS (bD ahV (bD ak9 (bD ahY (bD XC (bD Cg (bD aia (bD aid (bD Kr (bD aih cZ)))))))))))))))))) aii
theorem agA:Bw.Pure env.toCx 7 [] (.ret (.v (.bool true))):=ahe
abbrev T7:Type:=Option Bool
def P7:T7:=some true
def C7 (p:T7):Prop:=∀r,p=some r->Bw.Pure env.toCx 7 [] (.ret (.v (.bool r)))
theorem c7:C7 P7:=by intro r h;cases h;exact agA
theorem ag5:P7=some true:=rfl
