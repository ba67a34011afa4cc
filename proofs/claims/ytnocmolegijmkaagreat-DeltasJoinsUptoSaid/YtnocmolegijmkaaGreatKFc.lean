/- Own work, printed by mkfc.py. How closed runs are made: which functions may write what they are handed, which one catches. -/
import Derived.Test.YtnocmolegijmkaaGreatKCt
set_option linter.all false
namespace Go.Proofs.YtnocmolegijmkaaGreat
open Go Go.Bw
abbrev bp (n:Nat):AV:= .v (.int .i64 (.ofNat n))
abbrev eR (l:List UInt8):AV:= .v (.string ⟨⟨l⟩⟩)
abbrev b9:AV:= .v (.slice none 0 0)
def ale:Tr Bool:=(.nd none (.nd none (.nd none (.nd none (.nd none (.nd none .lf (.nd none .lf (.nd (some true) .lf .lf))) (.nd none (.nd none .lf (.nd (some true) .lf .lf)) (.nd none .lf (.nd (some true) .lf .lf)))) (.nd none .lf (.nd none (.nd none (.nd none (.nd (some true) .lf .lf) .lf) .lf) (.nd none (.nd none (.nd (some true) .lf .lf) .lf) .lf)))) (.nd none (.nd none (.nd none (.nd (some true) .lf .lf) (.nd none (.nd (some true) .lf .lf) .lf)) (.nd none (.nd none .lf (.nd (some true) .lf .lf)) (.nd none (.nd none (.nd (some true) .lf .lf) .lf) .lf))) (.nd none (.nd none (.nd (some true) .lf (.nd (some true) .lf .lf)) .lf) (.nd none .lf (.nd none .lf (.nd (some true) .lf .lf)))))) (.nd none (.nd none (.nd none (.nd none .lf (.nd none .lf (.nd (some true) .lf .lf))) (.nd none (.nd none (.nd (some true) .lf .lf) (.nd (some true) .lf .lf)) (.nd none .lf (.nd (some true) .lf .lf)))) (.nd none (.nd none (.nd none .lf (.nd (some true) .lf .lf)) .lf) (.nd none (.nd none (.nd (some true) .lf .lf) .lf) (.nd none (.nd none (.nd (some true) .lf .lf) .lf) (.nd (some true) .lf .lf))))) (.nd none (.nd none (.nd none .lf (.nd none (.nd (some true) .lf .lf) .lf)) (.nd none (.nd none (.nd none (.nd (some true) .lf .lf) .lf) .lf) .lf)) .lf))) (.nd none (.nd none (.nd none (.nd none (.nd none .lf (.nd none .lf (.nd (some true) .lf .lf))) (.nd none (.nd none .lf (.nd (some true) .lf .lf)) (.nd none .lf (.nd (some true) .lf .lf)))) (.nd none (.nd none (.nd none .lf (.nd (some true) .lf .lf)) .lf) (.nd none .lf (.nd none (.nd none (.nd (some true) .lf .lf) .lf) (.nd (some true) .lf .lf))))) (.nd none (.nd none (.nd none .lf (.nd none (.nd (some true) .lf .lf) .lf)) (.nd none (.nd none .lf (.nd (some true) .lf .lf)) (.nd (some true) (.nd none (.nd (some true) .lf .lf) .lf) .lf))) (.nd none .lf (.nd none .lf (.nd none .lf (.nd (some true) .lf .lf)))))) (.nd none (.nd none (.nd none (.nd none .lf (.nd none .lf (.nd (some true) .lf .lf))) (.nd none (.nd none (.nd (some true) .lf .lf) (.nd (some true) .lf .lf)) (.nd none (.nd none (.nd (some true) .lf .lf) .lf) .lf))) (.nd none (.nd none (.nd (some true) .lf (.nd (some true) .lf .lf)) .lf) (.nd none (.nd none (.nd (some true) .lf .lf) .lf) (.nd none .lf (.nd (some true) .lf .lf))))) (.nd none (.nd none .lf (.nd none (.nd none (.nd none (.nd (some true) .lf .lf) .lf) .lf) (.nd none (.nd none (.nd (some true) .lf .lf) .lf) .lf))) (.nd none (.nd none (.nd (some true) .lf (.nd (some true) .lf .lf)) .lf) .lf)))))
noncomputable def M1 (fs:List (Nat×List AV×AV)):gz:=⟨true,λ_=>true,λg=>match ale.get g with
 |some _=>true
 |none=>false,λ_=>false,fns,λg=>match Nat.beq g 76 with
 |true=>some (75,.agg [.v (.int .i64 0),.v (.int .i64 0)])
 |false=>none,fs⟩
theorem dd:lr env []:=λf hf=>by cases hf
theorem bJ {g:Nat} {xs:List AV} {z:AV} {fs:List (Nat×List AV×AV)} (h:Pure env.toCx g xs (.ret z)) (hf:lr env fs):lr env ((g,xs,z)::fs):=λf hm=>by
 rcases cq.1 hm with rfl|hm
 ·exact h
 ·exact hf f hm
theorem cY {fs:List (Nat×List AV×AV)} (hf:lr env fs) {g:Nat} {xs:List AV} {z:AV} (h:Wx Tryz.prog gK Ng (M1 fs) 1000000 g xs=some z):Pure env.toCx g xs (.ret z):=by
 refine aeU (E:=env) (c:=M1 fs) mixed hf (λf ty z h=>?_) (λg x h=>afU g x h) h;simp only[M1]at h;split at h
 ·rename_i hb;cases h;rw[bQ hb];exact P9
 ·cases h
set_option maxRecDepth 1000000
abbrev Hg:AV:= .sl 12 [[(bp 3),(bp 3),(bp 0),(bp 0),(bp 0),b9,b9,b9,(bp 0),(eR [97]),(bp 11),b9]]
abbrev Hh:AV:= .sl 12 [[(bp 5),(bp 0),(bp 4),(bp 0),(bp 0),b9,b9,b9,(bp 0),(eR []),(bp 0),b9],[(bp 23),(bp 0),(bp 4),(bp 0),(bp 0),b9,b9,b9,(bp 0),(eR []),(bp 7),Hg]]
abbrev fu:AV:= .agg [(bp 4),(bp 0),(bp 0),b9,b9,b9]
abbrev jM:AV:= .agg [(bp 0),(.sl 1 [[(eR [97])]]),b9,b9]
abbrev xH:AV:= .agg [(eR [102]),(eR [111]),b9,(bp 0),(bp 16),(bp 0),(bp 4),(bp 0),(bp 0),b9,b9,b9,(bp 0),(eR []),(bp 2),Hh]
abbrev tn:AV:= .agg [(bp 5),(bp 0),(bp 4),(bp 0),(bp 0),b9,b9,b9,(bp 0),(eR []),(bp 0),b9]
abbrev Hk:AV:= .agg [(bp 3),(bp 3),(bp 0),(bp 0),(bp 0),b9,b9,b9,(bp 0),(eR [97]),(bp 11),b9]
abbrev Hl:AV:= .agg [(bp 16),(bp 0),(bp 4),(bp 0),(bp 0),b9,b9,b9,(bp 0),(eR []),(bp 2),Hh]
abbrev Hm:AV:= .agg [(bp 23),(bp 0),(bp 4),(bp 0),(bp 0),b9,b9,b9,(bp 0),(eR []),(bp 7),Hg]
abbrev tc:AV:= .agg [(bp 0),(.sl 1 [[(eR [98])]]),b9,b9]
abbrev Ck:AV:= .agg [(bp 0),(.sl 1 [[(eR [97])],[(eR [98])]]),b9,b9]
abbrev qR:AV:= .agg [(bp 0),b9,b9,b9]
abbrev M0:AV:= .agg [(bp 0),(bp 4),(bp 0),(bp 0),b9,b9,b9]
abbrev W6:AV:= .agg [(bp 0),(bp 0),(eR []),b9,(bp 0),(.sl 1 [[(eR [97])]]),b9,b9]
abbrev W7:AV:= .bY [(.agg [(bp 47),(eR [97]),(bp 0),(bp 11),b9]),(.v (.bool true))]
abbrev W8:AV:= .agg [(bp 3),(bp 0),(bp 0),(bp 0),b9,b9,b9]
abbrev akm:List AV:=[fu]
abbrev akn:AV:=(bp 0)
theorem jF:Pure env.toCx 31 akm (.ret akn):=cY dd (by kernel_rfl)
abbrev ako:List AV:=[xH]
abbrev akp:AV:=(.v (.bool true))
theorem Cl:Pure env.toCx 32 ako (.ret akp):=cY dd (by kernel_rfl)
abbrev akq:List AV:=[b9,tn]
abbrev akr:AV:=(.bY [(.agg [(bp 49),(eR []),(bp 0),(bp 0),b9]),(.v (.bool true))])
theorem Cm:Pure env.toCx 33 akq (.ret akr):=cY dd (by kernel_rfl)
abbrev aks:List AV:=[b9,Hk]
abbrev akt:AV:=W7
theorem aku:Pure env.toCx 71 aks (.ret akt):=cY dd (by kernel_rfl)
abbrev akv:List AV:=[b9,Hk]
abbrev akw:AV:=W7
theorem Cn:Pure env.toCx 33 akv (.ret akw):=cY (bJ aku dd) (by kernel_rfl)
abbrev akx:List AV:=[M0,M0]
abbrev aky:AV:=(.v (.bool true))
theorem Co:Pure env.toCx 81 akx (.ret aky):=cY dd (by kernel_rfl)
abbrev akz:List AV:=[fu,b9,M0,(.agg [(bp 39),(eR []),(bp 0),(bp 2),(.sl 5 [[(bp 49),(eR []),(bp 0),(bp 0),b9],[(bp 51),(eR [115,101,116]),(bp 0),(bp 7),(.sl 5 [[(bp 47),(eR [97]),(bp 0),(bp 11),b9]])]])])]
abbrev akA:AV:=(.bY [Hl,(.agg [(bp 0),(bp 0)])])
theorem Cp:Pure env.toCx 34 akz (.ret akA):=cY (bJ Co dd) (by kernel_rfl)
abbrev akB:List AV:=[tn,tn]
abbrev akC:AV:=(.v (.bool true))
theorem akD:Pure env.toCx 36 akB (.ret akC):=cY (bJ Co dd) (by kernel_rfl)
abbrev akE:List AV:=[W8,W8]
abbrev akF:AV:=(.v (.bool true))
theorem akG:Pure env.toCx 81 akE (.ret akF):=cY dd (by kernel_rfl)
abbrev akH:List AV:=[Hk,Hk]
abbrev akI:AV:=(.v (.bool true))
theorem akJ:Pure env.toCx 36 akH (.ret akI):=cY (bJ akG dd) (by kernel_rfl)
abbrev akK:List AV:=[Hg,Hg,(.v (.func (.func 36) #[] #[]))]
abbrev akL:AV:=(.v (.bool true))
theorem akM:Pure env.toCx 82 akK (.ret akL):=cY (bJ akJ dd) (by kernel_rfl)
abbrev akN:List AV:=[Hm,Hm]
abbrev akO:AV:=(.v (.bool true))
theorem akP:Pure env.toCx 36 akN (.ret akO):=cY (bJ Co (bJ akM dd)) (by kernel_rfl)
abbrev akQ:List AV:=[Hh,Hh,(.v (.func (.func 36) #[] #[]))]
abbrev akR:AV:=(.v (.bool true))
theorem akS:Pure env.toCx 82 akQ (.ret akR):=cY (bJ akD (bJ akP dd)) (by kernel_rfl)
abbrev akT:List AV:=[Hl,Hl]
abbrev akU:AV:=(.v (.bool true))
theorem Cq:Pure env.toCx 36 akT (.ret akU):=cY (bJ Co (bJ akS dd)) (by kernel_rfl)
abbrev akV:List AV:=[tn,tn]
abbrev akW:AV:=(.v (.bool true))
theorem akX:Pure env.toCx 50 akV (.ret akW):=cY (bJ Co dd) (by kernel_rfl)
abbrev akY:List AV:=[tn,tn]
abbrev akZ:AV:=(.agg [(bp 6),(bp 0),(bp 4),(bp 0),(bp 0),b9,b9,b9,(bp 0),(eR []),(bp 0),b9])
theorem ak0:Pure env.toCx 27 akY (.ret akZ):=cY (bJ akX dd) (by kernel_rfl)
abbrev ak1:List AV:=[b9,(.sl 1 [[(eR [98])]])]
abbrev ak2:AV:=(.v (.bool true))
theorem ak3:Pure env.toCx 122 ak1 (.ret ak2):=cY dd (by kernel_rfl)
abbrev ak4:List AV:=[fu,tc]
abbrev ak5:AV:=(.v (.bool true))
theorem ak6:Pure env.toCx 83 ak4 (.ret ak5):=cY (bJ ak3 dd) (by kernel_rfl)
abbrev ak7:List AV:=[fu,tc]
abbrev ak8:AV:=(.v (.bool true))
theorem Cr:Pure env.toCx 37 ak7 (.ret ak8):=cY (bJ jF (bJ ak6 dd)) (by kernel_rfl)
abbrev ak9:List AV:=[fu,xH,tc,b9]
abbrev ak':AV:=(bp 0)
theorem ala:Pure env.toCx 39 ak9 (.ret ak'):=cY (bJ jF (bJ Cl (bJ Cm (bJ Cn (bJ Cp (bJ Cq (bJ Cr dd))))))) (by kernel_rfl)
abbrev alb:List AV:=[(.agg [(bp 0),(.sl 1 [[(eR [98])]]),b9,b9,b9]),Hm]
abbrev alc:AV:=W6
theorem ald:Pure env.toCx 86 alb (.ret alc):=cY dd (by kernel_rfl)
abbrev ag6:List AV:=[b9,(.sl 1 [[(eR [97])]])]
abbrev ag7:AV:=(.v (.bool true))
theorem ag8:Pure env.toCx 122 ag6 (.ret ag7):=cY dd (by kernel_rfl)
abbrev ag9:List AV:=[fu,jM]
abbrev ag':AV:=(.v (.bool true))
theorem KJ:Pure env.toCx 83 ag9 (.ret ag'):=cY (bJ ag8 dd) (by kernel_rfl)
abbrev aha:List AV:=[fu,jM]
abbrev ahb:AV:=(.v (.bool true))
theorem wD:Pure env.toCx 37 aha (.ret ahb):=cY (bJ jF (bJ KJ dd)) (by kernel_rfl)
abbrev ahc:List AV:=[fu,xH,jM,b9]
abbrev ahd:AV:=(bp 0)
theorem ahe:Pure env.toCx 39 ahc (.ret ahd):=cY (bJ jF (bJ Cl (bJ Cm (bJ Cn (bJ Cp (bJ Cq (bJ wD dd))))))) (by kernel_rfl)
abbrev ahf:List AV:=[fu,xH,(.v (.bool true)),jM,b9]
abbrev ahg:AV:=(bp 0)
theorem ahh:Pure env.toCx 41 ahf (.ret ahg):=cY (bJ jF (bJ Cl (bJ Cm (bJ Cn (bJ Cp (bJ Cq (bJ wD dd))))))) (by kernel_rfl)
abbrev ahi:List AV:=[(.agg [(bp 0),(.sl 1 [[(eR [97])]]),b9,b9,b9]),Hm]
abbrev ahj:AV:=W6
theorem ahk:Pure env.toCx 86 ahi (.ret ahj):=cY dd (by kernel_rfl)
abbrev ahl:List AV:=[fu]
abbrev ahm:AV:=(.bY [qR,(bp 0)])
theorem Wk:Pure env.toCx 190 ahl (.ret ahm):=cY (bJ jF dd) (by kernel_rfl)
abbrev ahn:List AV:=[fu]
abbrev aho:AV:=qR
theorem Wl:Pure env.toCx 137 ahn (.ret aho):=cY (bJ Wk dd) (by kernel_rfl)
abbrev ahp:List AV:=[fu,jM,jM]
abbrev ahq:AV:=(.bY [jM,(bp 0)])
theorem ahr:Pure env.toCx 43 ahp (.ret ahq):=cY (bJ jF (bJ wD (bJ Wl dd))) (by kernel_rfl)
abbrev ahs:List AV:=[fu,jM,jM]
abbrev aht:AV:=(.v (.bool true))
theorem ahu:Pure env.toCx 19 ahs (.ret aht):=cY (bJ jF (bJ wD dd)) (by kernel_rfl)
abbrev ahv:List AV:=[fu]
abbrev ahw:AV:=qR
theorem ahx:Pure env.toCx 147 ahv (.ret ahw):=cY (bJ Wk dd) (by kernel_rfl)
abbrev ahy:List AV:=[fu,jM,jM]
abbrev ahz:AV:=qR
theorem ahA:Pure env.toCx 99 ahy (.ret ahz):=cY (bJ ahu (bJ ahx dd)) (by kernel_rfl)
abbrev ahB:List AV:=[fu,qR]
abbrev ahC:AV:=(.bY [(.sl 1 [[(.v (.int .u8 0))]]),(bp 0)])
theorem ahD:Pure env.toCx 98 ahB (.ret ahC):=cY (bJ jF dd) (by kernel_rfl)
abbrev ahE:List AV:=[fu,(.sl 1 [[(.v (.int .u8 0))]])]
abbrev ahF:AV:=(.bY [qR,(bp 0)])
theorem ahG:Pure env.toCx 100 ahE (.ret ahF):=cY (bJ jF dd) (by kernel_rfl)
abbrev ahH:List AV:=[fu,jM,jM]
abbrev ahI:AV:=(.bY [qR,(bp 0)])
theorem ahJ:Pure env.toCx 47 ahH (.ret ahI):=cY (bJ jF (bJ wD (bJ ahA (bJ ahD (bJ ahG dd))))) (by kernel_rfl)
abbrev ahK:List AV:=[fu,xH,jM,b9]
abbrev ahL:AV:=(.bY [qR,(bp 0)])
theorem ahM:Pure env.toCx 22 ahK (.ret ahL):=cY (bJ ahe (bJ ahh (bJ ahk (bJ ahr (bJ ahJ dd))))) (by kernel_rfl)
abbrev ahN:List AV:=[fu,xH,(.v (.bool true)),tc,b9]
abbrev ahO:AV:=(bp 0)
theorem ahP:Pure env.toCx 41 ahN (.ret ahO):=cY (bJ jF (bJ Cl (bJ Cm (bJ Cn (bJ Cp (bJ Cq (bJ Cr dd))))))) (by kernel_rfl)
abbrev ahQ:List AV:=[fu,tc,jM]
abbrev ahR:AV:=(.bY [Ck,(bp 0)])
theorem ahS:Pure env.toCx 43 ahQ (.ret ahR):=cY (bJ jF (bJ Cr (bJ wD (bJ Wl dd)))) (by kernel_rfl)
abbrev ahT:List AV:=[b9,(.sl 1 [[(eR [97])],[(eR [98])]])]
abbrev ahU:AV:=(.v (.bool true))
theorem ahV:Pure env.toCx 122 ahT (.ret ahU):=cY dd (by kernel_rfl)
abbrev ahW:List AV:=[fu,Ck]
abbrev ahX:AV:=(.v (.bool true))
theorem ahY:Pure env.toCx 83 ahW (.ret ahX):=cY (bJ ahV dd) (by kernel_rfl)
abbrev ahZ:List AV:=[fu,Ck]
abbrev ah0:AV:=(.v (.bool true))
theorem Wm:Pure env.toCx 37 ahZ (.ret ah0):=cY (bJ jF (bJ ahY dd)) (by kernel_rfl)
abbrev ah1:List AV:=[fu,Ck,tc]
abbrev ah2:AV:=(.v (.bool false))
theorem ah3:Pure env.toCx 19 ah1 (.ret ah2):=cY (bJ jF (bJ Wm (bJ Cr dd))) (by kernel_rfl)
abbrev ah4:List AV:=[fu,Ck,tc]
abbrev ah5:AV:=jM
theorem ah6:Pure env.toCx 99 ah4 (.ret ah5):=cY (bJ ah3 dd) (by kernel_rfl)
abbrev ah7:List AV:=[fu,jM]
abbrev ah8:AV:=(.bY [(.sl 1 [[(.v (.int .u8 1))],[(.v (.int .u8 1))],[(.v (.int .u8 97))]]),(bp 0)])
theorem ah9:Pure env.toCx 98 ah7 (.ret ah8):=cY (bJ jF (bJ KJ dd)) (by kernel_rfl)
abbrev ah':List AV:=[Hl]
abbrev aia:AV:=(bp 4)
theorem aib:Pure env.toCx 13 ah' (.ret aia):=cY dd (by kernel_rfl)
abbrev aic:List AV:=[]
abbrev aid:AV:=(.v (.bool true))
theorem ag5:Pure env.toCx 7 aic (.ret aid):=cY (bJ jF (bJ Cl (bJ Cm (bJ Cn (bJ Cp (bJ Cq (bJ ak0 (bJ ala (bJ ahM (bJ ahP (bJ ald (bJ ahS (bJ Wm (bJ Cr (bJ ah6 (bJ ah9 (bJ KJ (bJ aib dd)))))))))))))))))) (by kernel_rfl)
theorem agq:Bw.Pure env.toCx 7 [] (.ret (.v (.bool true))):=ag5
abbrev T7:Type:=Option Bool
def P7:T7:=some true
def C7 (p:T7):Prop:=∀r,p=some r->Bw.Pure env.toCx 7 [] (.ret (.v (.bool r)))
theorem c7:C7 P7:=by intro r h;cases h;exact agq
theorem agS:P7=some true:=rfl
