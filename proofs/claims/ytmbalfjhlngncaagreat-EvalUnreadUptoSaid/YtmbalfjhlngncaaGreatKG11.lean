/- Printed by a program: what functions answer, and that they do. -/
import Derived.Test.YtmbalfjhlngncaaGreatKG7
import Derived.Test.YtmbalfjhlngncaaGreatKG8
import Derived.Test.YtmbalfjhlngncaaGreatKG9
import Derived.Test.YtmbalfjhlngncaaGreatKG10
set_option linter.all false
set_option maxRecDepth 100000
noncomputable section
namespace Go.Proofs.YtmbalfjhlngncaaGreat
open Go Go.Bw
theorem hf:∀n,Kf n:=by
 intro n
 induction n using Nat.strongRecOn with|_ n ih=>?_
 rcases n with _|n
 ·constructor<;>(repeat intro _)<;>contradiction
 ·have h:Of n:=λm hm=>ih m (by omega);exact⟨w70 h,w33 h,w34 h,ahD h,ahE h,ahF h,ahG h,ahH h,ahI h,ahJ h,ahK h,ahL h,ahM h,ahN h,ahO h,ahP h,ahQ h,ahR h,ahS h,w58 h,ahT h,abb h,abc h,w59 h,ahU h,ahV h,ahW h,w60 h,ahX h,ahY h,w62 h,ahZ h,abd h,ah0 h,ah1 h,ah2 h,ah3 h,ah4 h,ah5 h,w51 h,ae' h,afa h,ah6 h,ah7 h,ah8 h,ah9 h,acD h,ah' h,acE h,aia h,aib h,aic h,aid h,aie h,aif h,aih h,aii h,aij h,aik h,ail h,w61 h,w63 h,adV h,w25 h,aim h,ain h,aio h,aip h,aiq h,acF h,air h,ais h,ait h,aiu h,aiv h,w64 h,w26 h,aiw h,acG h,acH h,w65 h,w27 h,w36 h,aix h,aiy h,aiz h,aiA h,w87 h,aiB h,aiC h,aiD h,aiE h,aiF h,aiG h,abe h,abf h,aiH h,aiI h,w69 h,aiJ h,aiK h,aiL h,aiM h,aiN h,aiO h,aiP h,aiQ h,aiR h,aiS h,acI h,aiT h,aiU h,aiV h,aiW h,abg h,abh h,aiX h,aiY h,w92 h,aiZ h,ai0 h,w68 h,ai1 h,ai2 h,ai3 h,abi h,ai4 h,ai5 h,ai6 h,ai7 h,acJ h,ai8 h,ai9 h,ai' h,aja h,ajb h,ajc h,ajd h,aje h,ajf h,ajg h,ajh h,w50 h,w88 h,aji h,w89 h,w90 h,ajj h,ajk h,w91 h,w52 h,w23 h,w12 h,w22 h,w15 h,w29 h,aeI h,adW h,w10 h,w71 h,w35 h,w66 h,w28 h,w30 h,w11 h,w72 h,w73 h,ajl h,w74 h,w38 h,w14 h,w75 h,w39 h,w17 h,w7 h,w31 h,w8 h,w6 h,rD,Lf,A3,Hk,(hu n).EN,(hu n).A4,(hu n).EO,(hu n).EM,(hu n).vB,(hu n).EL⟩
theorem p7:C7 (f7 Pf):=λa0 a1 a2 a3 a4 r h=>by
 obtain⟨n,hn⟩:=PF.ex (PF.ap (PF.ap (PF.ap (PF.ap (PF.ap l7 a0) a1) a2) a3) a4) h;exact(hf n).c7 a0 a1 a2 a3 a4 _ hn
