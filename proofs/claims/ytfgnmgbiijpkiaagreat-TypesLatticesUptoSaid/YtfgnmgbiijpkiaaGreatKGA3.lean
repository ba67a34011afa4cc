/- Printed by a program: what functions answer, and that they do. -/
import Derived.Test.YtfgnmgbiijpkiaaGreatKHx
set_option linter.all false
set_option maxRecDepth 100000
noncomputable section
namespace Go.Proofs.YtfgnmgbiijpkiaaGreat
open Go Go.Bw
theorem Xu0 {f:Nat->Us} {p} (h:PF.R f p):PF.R (λn=>BZ (f n)) (BZ p):=by unfold BZ Bm Bn Bo Bp;exact zP h
theorem Xu1 {f:Nat->Us} {p} (h:PF.R f p):PF.R (λn=>B0 (f n)) (B0 p):=by unfold B0 BY;exact zP h
theorem Xu2 {f:Nat->Us} {p} (h:PF.R f p):PF.R (λn=>B1 (f n)) (B1 p):=by unfold B1 Bq;exact zP h
theorem Xu3 {f:Nat->Us} {p} (h:PF.R f p):PF.R (λn=>Jq (f n)) (Jq p):=zP h
set_option maxHeartbeats 0 in
theorem Xu:PF.Fix Gu (Qu):=PF.fix (Φ:=λn=>Qu) (λf p h=>(PF.pair (PF.pair (Xu0 h) (Xu1 h)) (PF.pair (Xu2 h) (Xu3 h)))) rfl λ_=>rfl
theorem aak:PF.R (λn=>wG (Gu n)) (wG Pu):=PF.K.k _ Xu.1
theorem Du {β:Type} [PF β] (π:PF.K Us β):π Pu=π (Qu Pu):=congrArg π.f Xu.2
theorem agT (a b):jh Pu a b=G4 Pu a b:=cw (Du _) _ _
theorem agU (a):Sq Pu a=G5 Pu a:=cK (Du _) _
theorem ae4 (a b c d e g h):DX Pu a b c d e g h=DY Pu a b c d e g h:=TQ (Du _) _ _ _ _ _ _ _
theorem aeo (a b c d e g h i):DZ Pu a b c d e g h i=D0 Pu a b c d e g h i:=ap8 (Du _) _ _ _ _ _ _ _ _
theorem ae5 (a b c):pv Pu a b c=DW Pu a b c:=dh (Du _) _ _ _
theorem agV (a b):Sr Pu a b=Bm Pu a b:=cw (Du _) _ _
theorem agW (a):HZ Pu a=G6 Pu a:=cK (Du _) _
theorem agX (a):Bs Pu a=G7 Pu a:=cK (Du _) _
theorem agY (a):Ss Pu a=G8 Pu a:=cK (Du _) _
theorem ae6 (a b):D1 Pu a b=D2 Pu a b:=cw (Du _) _ _
theorem agZ (a b):H0 Pu a b=Bn Pu a b:=cw (Du _) _ _
theorem ag0:Su Pu=G' Pu:=Du _
theorem ae7 (a b c):D3 Pu a b c=D4 Pu a b c:=dh (Du _) _ _ _
theorem ag1 (a b):Sv Pu a b=Bo Pu a b:=cw (Du _) _ _
theorem ag2 (a):Sw Pu a=Ha Pu a:=cK (Du _) _
theorem ae8 (a b c d):Aq Pu a b c d=D5 Pu a b c d:=mn (Du _) _ _ _ _
theorem ag3 (a b):Sx Pu a b=Bp Pu a b:=cw (Du _) _ _
theorem adf (a):Bt Pu a=w8 Pu a:=cK (Du _) _
theorem O9 (a b):wj Pu a b=tV Pu a b:=cw (Du _) _ _
theorem e58 (a):p7 Pu a=xB Pu a:=cK (Du _) _
theorem ag4:Sy Pu=Hb Pu:=Du _
theorem ae9 (a b c d):Ar Pu a b c d=D6 Pu a b c d:=mn (Du _) _ _ _ _
theorem ag5 (a b):Sz Pu a b=Hc Pu a b:=cw (Du _) _ _
theorem ag6 (a b):SA Pu a b=Hd Pu a b:=cw (Du _) _ _
theorem agh (a b c d):EC Pu a b c d=ED Pu a b c d:=mn (Du _) _ _ _ _
theorem e73 (a):Ue Pu a=BY Pu a:=cK (Du _) _
theorem e76 (a):cE Pu a=Jb Pu a:=cK (Du _) _
theorem ag7 (a b):b6 Pu a b=He Pu a b:=cw (Du _) _ _
theorem e78 (a b):kO Pu a b=Jc Pu a b:=cw (Du _) _ _
theorem afA (a b):de Pu a b=Hf Pu a b:=cw (Du _) _ _
theorem ag8 (a):mj Pu a=Hg Pu a:=cK (Du _) _
theorem ag9 (a):oB Pu a=Hh Pu a:=cK (Du _) _
theorem ag' (a b):bI Pu a b=Hk Pu a b:=cw (Du _) _ _
theorem af9 (a b c):Ef Pu a b c=Eg Pu a b c:=dh (Du _) _ _ _
theorem aha (a):Bu Pu a=Ht Pu a:=cK (Du _) _
theorem agi (a b c):EF Pu a b c=EG Pu a b c:=dh (Du _) _ _ _
theorem agj (a b c d e g h i j k l m n o p q r s t u v w x y z A B C):EK Pu a b c d e g h i j k l m n o p q r s t u v w x y z A B C=EL Pu a b c d e g h i j k l m n o p q r s t u v w x y z A B C:=ap8 (agS (Du _) _ _ _ _ _ _ _ _ _ _ _ _ _ _ _ _ _ _ _ _) _ _ _ _ _ _ _ _
theorem agk (a b c d e g h i j k l m n o p q r s t u v w):AN Pu a b c d e g h i j k l m n o p q r s t u v w=EJ Pu a b c d e g h i j k l m n o p q r s t u v w:=afz (Du _) _ _ _ _ _ _ _ _ _ _ _ _ _ _ _ _ _ _ _ _ _ _
theorem agl (a b c d e g h i j k l m n o p q r):EH Pu a b c d e g h i j k l m n o p q r=EI Pu a b c d e g h i j k l m n o p q r:=agR (Du _) _ _ _ _ _ _ _ _ _ _ _ _ _ _ _ _ _
theorem agm (a b c d e g h i j k l m n o p q r s t u v w):EN Pu a b c d e g h i j k l m n o p q r s t u v w=EO Pu a b c d e g h i j k l m n o p q r s t u v w:=afz (Du _) _ _ _ _ _ _ _ _ _ _ _ _ _ _ _ _ _ _ _ _ _ _
theorem agn (a b c d e g h i j k l m n o p q):AO Pu a b c d e g h i j k l m n o p q=EM Pu a b c d e g h i j k l m n o p q:=agQ (Du _) _ _ _ _ _ _ _ _ _ _ _ _ _ _ _ _
theorem e75 (a):nK Pu a=Je Pu a:=cK (Du _) _
theorem e32 (a b):u32 Pu a b=Jr Pu a b:=cw (Du _) _ _
theorem e26 (a):u26 Pu a=Ju Pu a:=cK (Du _) _
theorem ZY (a):wG Pu a=wy Pu a:=cK (Du _) _
def RL (p:Hv):Prop:=∀a0 a1 r,p a0 a1=some r->Pure env.toCx 180 [(.v (.int .i64 a0)),(.v (.int .i64 a1))] (.ret (.bN [(.agg (bG.cs r.1)),(.v (.int .i64 r.2.1)),(.agg (aM.cs r.2.2))]))
def RM (p:Hw):Prop:=∀a0 r,p a0=some r->Pure env.toCx 226 [(.v (.int .u8 a0))] (.ret (.v (.bool r)))
def RN (p:Hx):Prop:=∀a0 a1 r,p a0 a1=some r->Pure env.toCx 181 [(.v (.string ⟨⟨a0⟩⟩)),(.v (.int .i64 a1))] (.ret (.v (.int .i64 r)))
def RO (p:Hy):Prop:=∀a0 r,p a0=some r->Pure env.toCx 227 [(.v (.int .u8 a0))] (.ret (.v (.bool r)))
def RS (p:Hz):Prop:=∀a0 r,p a0=some r->Pure env.toCx 230 [(.v (.int .u8 a0))] (.ret (.v (.bool r)))
def RT (p:HA):Prop:=∀a0 r,p a0=some r->Pure env.toCx 243 [(.v (.int .u8 a0))] (.ret (.v (.bool r)))
def RV (p:HB):Prop:=∀a0 a1 r,p a0 a1=some r->Pure env.toCx 228 [(.v (.string ⟨⟨a0⟩⟩)),(.v (.int .i64 a1))] (.ret (.v (.int .i64 r)))
def RW (p:HC):Prop:=∀r,p=some r->Pure env.toCx 245 [] (.ret (.sl 1 (aN r)))
def RX (p:HD):Prop:=∀a0 a1 r,p a0 a1=some r->Pure env.toCx 244 [(.sl 1 (aN a0)),(.v (.string ⟨⟨a1⟩⟩))] (.ret (.v (.bool r)))
def RY (p:HE):Prop:=∀a0 r,p a0=some r->Pure env.toCx 229 [(.v (.string ⟨⟨a0⟩⟩))] (.ret (.v (.bool r)))
def RZ (p:HF):Prop:=∀a0 a1 r,p a0 a1=some r->Pure env.toCx 231 [(.v (.string ⟨⟨a0⟩⟩)),(.v (.int .i64 a1))] (.ret (.bN [(.agg (bG.cs r.1)),(.v (.int .i64 r.2.1)),(.agg (aM.cs r.2.2))]))
def R1 (p:HG):Prop:=∀a0 r,p a0=some r->Pure env.toCx 103 [(.v (.int .u8 a0))] (.ret (.v (.bool r)))
def IW (p:BS):Prop:=∀a0 r,p a0=some r->Pure env.toCx 58 [(.v (.string ⟨⟨a0⟩⟩))] (.ret (.v (.bool r)))
def R2 (p:HH):Prop:=∀r,p=some r->Pure env.toCx 232 [] (.ret (.sl 1 (aN r)))
def R3 (p:HI):Prop:=∀a0 a1 r,p a0 a1=some r->Pure env.toCx 182 [(.v (.string ⟨⟨a0⟩⟩)),(.v (.int .i64 a1))] (.ret (.bN [(.agg (bG.cs r.1)),(.v (.int .i64 r.2.1)),(.agg (aM.cs r.2.2))]))
def R5 (p:HJ):Prop:=∀a0 a1 r,p a0 a1=some r->Pure env.toCx 121 [(.v (.string ⟨⟨a0⟩⟩)),(.v (.int .i64 a1))] (.ret (.bN [(.agg (bG.cs r.1)),(.v (.int .i64 r.2.1)),(.agg (aM.cs r.2.2))]))
def T3 (p:Jg):Prop:=∀a0 r,p a0=some r->Pure env.toCx 73 [(.v (.string ⟨⟨a0⟩⟩))] (.ret (.bN [(.sl 4 (bG.rows r.1)),(.agg (aM.cs r.2))]))
def T4 (p:Jh):Prop:=∀a0 r,p a0=some r->Pure env.toCx 76 [(.ip (aC.cs a0))] (.ret (.agg (bG.cs r)))
def R6 (p:HK):Prop:=∀a0 a1 r,p a0 a1=some r->Pure env.toCx 122 [(.ip (aC.cs a0)),(.v (.string ⟨⟨a1⟩⟩))] (.ret (.v (.bool r)))
def T6 (p:Ji):Prop:=∀a0 a1 r,p a0 a1=some r->dk env 78 [(.own 0 0),(.d (.v (.int .i64 a1)))] (.box (aC.cs a0)) (.bN []) (.box (aC.cs r.2))
def R7 (p:HL):Prop:=∀a0 a1 r,p a0 a1=some r->dk env 126 [(.own 0 0),(.d (.v (.int .i64 a1)))] (.box (aC.cs a0)) (.v (.string ⟨⟨r.1⟩⟩)) (.box (aC.cs r.2))
def R8 (p:HM):Prop:=∀a0 r,p a0=some r->dk env 128 [(.own 0 0)] (.box (aC.cs a0)) (.agg (ab.cs r.1)) (.box (aC.cs r.2))
def R9 (p:HN):Prop:=∀a0 r,p a0=some r->dk env 124 [(.own 0 0)] (.box (aC.cs a0)) (.bN []) (.box (aC.cs r.2))
def Sa (p:HO):Prop:=∀a0 a1 r,p a0 a1=some r->dk env 125 [(.own 0 0),(.d (.v (.string ⟨⟨a1⟩⟩)))] (.box (aC.cs a0)) (.bN []) (.box (aC.cs r.2))
def Sb (p:HP):Prop:=∀r,p=some r->Pure env.toCx 249 [] (.ret (.sl 1 (aN r)))
def Sc (p:HQ):Prop:=∀a0 r,p a0=some r->Pure env.toCx 246 [(.ip (aC.cs a0))] (.ret (.v (.bool r)))
def Sd (p:HR):Prop:=∀a0 a1 r,p a0 a1=some r->Pure env.toCx 184 [(.ip (aC.cs a0)),(.v (.int .i64 a1))] (.ret (.v (.int .i64 r)))
def T7 (p:Jj):Prop:=∀a0 r,p a0=some r->dk env 74 [(.own 0 0)] (.box (aC.cs a0)) (.agg (ab.cs r.1)) (.box (aC.cs r.2))
def Se (p:HT):Prop:=∀a0 a1 r,p a0 a1=some r->dk env 123 [(.own 0 0),(.d (.v (.int .i64 a1)))] (.box (aC.cs a0)) (.agg (ab.cs r.1)) (.box (aC.cs r.2))
def Si (p:HU):Prop:=∀a0 r,p a0=some r->dk env 183 [(.own 0 0)] (.box (aC.cs a0)) (.agg (ab.cs r.1)) (.box (aC.cs r.2))
def Sj (p:HV):Prop:=∀a0 r,p a0=some r->dk env 233 [(.own 0 0)] (.box (aC.cs a0)) (.agg (ab.cs r.1)) (.box (aC.cs r.2))
def Sm (p:HW):Prop:=∀a0 a1 r,p a0 a1=some r->dk env 247 [(.own 0 0),(.d (.v (.string ⟨⟨a1⟩⟩)))] (.box (aC.cs a0)) (.agg (ab.cs r.1)) (.box (aC.cs r.2))
def Sn (p:HX):Prop:=∀a0 r,p a0=some r->qW env 127 [(.own 0 0)] (aC.cs a0) (aC.cs r.2) 25 5 (ab.rows r.1)
def T8 (p:Jk):Prop:=∀a0 r,p a0=some r->dk env 75 [(.own 0 0)] (.box (aC.cs a0)) (.agg (ab.cs r.1)) (.box (aC.cs r.2))
def Sp (p:HY):Prop:=∀a0 r,p a0=some r->dk env 130 [(.own 0 0)] (.box (aC.cs a0)) (.v (.int .i64 r.1)) (.box (aC.cs r.2))
def T' (p:Jl):Prop:=∀a0 r,p a0=some r->dk env 77 [(.own 0 0)] (.box (aC.cs a0)) (.agg (ab.cs r.1)) (.box (aC.cs r.2))
def Ua (p:Jm):Prop:=∀a0 a1 r,p a0 a1=some r->Pure env.toCx 32 [(.v (.string ⟨⟨a0⟩⟩)),(.v (.int .i64 a1))] (.ret (.bN [(.agg (ab.cs r.1)),(.agg (aM.cs r.2))]))
def Ub (p:Jn):Prop:=∀a0 r,p a0=some r->Pure env.toCx 10 [(.v (.string ⟨⟨a0⟩⟩))] (.ret (.bN [(.agg (ab.cs r.1)),(.agg (aM.cs r.2))]))
def Uc (p:Jo):Prop:=∀a0 r,p a0=some r->Pure env.toCx 17 [(.v (.string ⟨⟨a0⟩⟩))] (.ret (.bN [(.agg (ab.cs r.1)),(.agg (aM.cs r.2))]))
def Ud (p:Jp):Prop:=∀a0 r,p a0=some r->Pure env.toCx 26 [(.v (.string ⟨⟨a0⟩⟩))] (.ret (.bN [(.agg (ab.cs r.1)),(.agg (aM.cs r.2))]))
def Fl (p:Fm):Prop:=∀a0 r,p a0=some r->jE env 100 [(.sl 1 (aN a0))] 9 1 (aN r)
structure Ku (n:Nat):Prop where
 jN:RL (jh (Gu n))
 acZ:RM (Sq (Gu n))
 ac7:RN (Sr (Gu n))
 RU:RO (HZ (Gu n))
 G9:RS (Bs (Gu n))
 ac0:RT (Ss (Gu n))
 R4:RV (H0 (Gu n))
 ac1:RW (Su (Gu n))
 ac2:RX (Sv (Gu n))
 ac4:RY (Sw (Gu n))
 ac5:RZ (Sx (Gu n))
 ac3:R1 (Bt (Gu n))
 p3:IW (p7 (Gu n))
 ac6:R2 (Sy (Gu n))
 ac8:R3 (Sz (Gu n))
 ac9:R5 (SA (Gu n))
 c73:T3 (Ue (Gu n))
 cI:T4 (cE (Gu n))
 b9:R6 (b6 (Gu n))
 lz:T6 (kO (Gu n))
 dn:R7 (de (Gu n))
 nB:R8 (mj (Gu n))
 pY:R9 (oB (Gu n))
 bJ:Sa (bI (Gu n))
 ac':Sb (SB (Gu n))
 ade:Sc (SC (Gu n))
 Sf:Sd (H2 (Gu n))
 iw:T7 (gR (Gu n))
 uJ:Se (rO (Gu n))
 ada:Si (SD (Gu n))
 adb:Sj (SE (Gu n))
 Sk:Sm (H3 (Gu n))
 Hu:Sn (Bu (Gu n))
 oM:T8 (nK (Gu n))
 pZ:Sp (oC (Gu n))
 c77:T' (Uf (Gu n))
 nL:Ua (u32 (Gu n))
 c10:Ub (u10 (Gu n))
 c17:Uc (u17 (Gu n))
 c26:Ud (u26 (Gu n))
 aal:Fl (wG (Gu n))
def Ou (n:Nat):Prop:=∀m,m<=n->Ku m
theorem Ou.a {N m:Nat} (h:Ou N) (hm:m<=N:=by omega):Ku m:=h m hm
