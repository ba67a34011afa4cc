/- Printed by a program: what functions answer, and that they do. -/
import Derived.Test.YtfgnmgbiijpkiaaGreatKHx
set_option linter.all false
set_option maxRecDepth 100000
noncomputable section
namespace Go.Proofs.YtfgnmgbiijpkiaaGreat
open Go Go.Bw
theorem V1 {f:Nat->Us} {p} (h:PF.R f p):PF.R (λn=>w9 (f n)) (w9 p):=by unfold w9 qM qN qO qP;exact zP h
theorem V2 {f:Nat->Us} {p} (h:PF.R f p):PF.R (λn=>xa (f n)) (xa p):=by unfold xa rf;exact zP h
theorem V3 {f:Nat->Us} {p} (h:PF.R f p):PF.R (λn=>xb (f n)) (xb p):=by unfold xb wk;exact zP h
theorem V4 {f:Nat->Us} {p} (h:PF.R f p):PF.R (λn=>DT (f n)) (DT p):=zP h
set_option maxHeartbeats 0 in
theorem Xu:PF.Fix Gu (Qu):=PF.fix (Φ:=λn=>Qu) (λf p h=>(PF.pair (PF.pair (V1 h) (V2 h)) (PF.pair (V3 h) (V4 h)))) rfl λ_=>rfl
theorem Du {β:Type} [PF β] (π:PF.K Us β):π Pu=π (Qu Pu):=congrArg π.f Xu.2
theorem TV (a0 a1):fj Pu a0 a1=te Pu a0 a1:=cI (Du _) _ _
theorem TW (a0):wm Pu a0=tf Pu a0:=cY (Du _) _
theorem Hn (a0 a1 s1 x3 y5 x7 s10):rV Pu a0 a1 s1 x3 y5 x7 s10=pO Pu a0 a1 s1 x3 y5 x7 s10:=LY (Du _) _ _ _ _ _ _ _
theorem z6 (a0 a1 s1 x3 y5 x15 x18 s21):rW Pu a0 a1 s1 x3 y5 x15 x18 s21=nC Pu a0 a1 s1 x3 y5 x15 x18 s21:=VE (Du _) _ _ _ _ _ _ _ _
theorem Ho (a0 a1 s1):jm Pu a0 a1 s1=pN Pu a0 a1 s1:=dF (Du _) _ _ _
theorem TX (a0 a1):wo Pu a0 a1=qM Pu a0 a1:=cI (Du _) _ _
theorem TY (a0):tI Pu a0=th Pu a0:=cY (Du _) _
theorem TZ (a0):qS Pu a0=tj Pu a0:=cY (Du _) _
theorem T0 (a0):wu Pu a0=tm Pu a0:=cY (Du _) _
theorem Hq (a0 s1):nD Pu a0 s1=pP Pu a0 s1:=cI (Du _) _ _
theorem T1 (a0 a1):tJ Pu a0 a1=qN Pu a0 a1:=cI (Du _) _ _
theorem T2:CK Pu=tn Pu:=Du _
theorem Hr (a0 a1 s1):nE Pu a0 a1 s1=pQ Pu a0 a1 s1:=dF (Du _) _ _ _
theorem T3 (a0 a1):CL Pu a0 a1=qO Pu a0 a1:=cI (Du _) _ _
theorem T5 (a0):wv Pu a0=tp Pu a0:=cY (Du _) _
theorem Hs (a0 a1 s1 s2):mn Pu a0 a1 s1 s2=pR Pu a0 a1 s1 s2:=kt (Du _) _ _ _ _
theorem T6 (a0 a1):wy Pu a0 a1=qP Pu a0 a1:=cI (Du _) _ _
theorem T7 (a0):wA Pu a0=tq Pu a0:=cY (Du _) _
theorem IM (a0 s9):sv Pu a0 s9=qd Pu a0 s9:=cI (Du _) _ _
theorem V5 (a0):w7 Pu a0=ue Pu a0:=cY (Du _) _
theorem T8:CM Pu=tr Pu:=Du _
theorem Ht (a0 a1 y34 s35):mo Pu a0 a1 y34 s35=pS Pu a0 a1 y34 s35:=kt (Du _) _ _ _ _
theorem T' (a0 a1):wB Pu a0 a1=tu Pu a0 a1:=cI (Du _) _ _
theorem Ua (a0 a1):CO Pu a0 a1=tv Pu a0 a1:=cI (Du _) _ _
theorem QQ (a0 s1 s2 s3):sw Pu a0 s1 s2 s3=sx Pu a0 s1 s2 s3:=kt (Du _) _ _ _ _
theorem V6 (a0):w8 Pu a0=rf Pu a0:=cY (Du _) _
theorem Mi (a0):cx Pu a0=rh Pu a0:=cY (Du _) _
theorem Ub (a0 a1):bV Pu a0 a1=tw Pu a0 a1:=cI (Du _) _ _
theorem V7 (a0 a1):gG Pu a0 a1=uf Pu a0 a1:=cI (Du _) _ _
theorem Uc (a0 a1):cS Pu a0 a1=tx Pu a0 a1:=cI (Du _) _ _
theorem Ud (a0):iB Pu a0=tz Pu a0:=cY (Du _) _
theorem Ue (a0):kr Pu a0=tA Pu a0:=cY (Du _) _
theorem Uf (a0 a1):bx Pu a0 a1=tB Pu a0 a1:=cI (Du _) _ _
theorem Ug:CP Pu=tC Pu:=Du _
theorem Hu (a0 y1 s2):nF Pu a0 y1 s2=pT Pu a0 y1 s2:=dF (Du _) _ _ _
theorem Uh (a0):wC Pu a0=tD Pu a0:=cY (Du _) _
theorem Ui (a0 a1):tK Pu a0 a1=tE Pu a0 a1:=cI (Du _) _ _
theorem V8 (a0):eL Pu a0=ug Pu a0:=cY (Du _) _
theorem Px (a1 y10):zV Pu a1 y10=rX Pu a1 y10:=cI (Du _) _ _
theorem Py (a1 s16 s17):rY Pu a1 s16 s17=rZ Pu a1 s16 s17:=dF (Du _) _ _ _
theorem Ld (a0 a1):lg Pu a0 a1=qR Pu a0 a1:=cI (Du _) _ _
theorem Pz (s2 s3):pU Pu s2 s3=r8 Pu s2 s3:=cI (Du _) _ _
theorem Uj (a0):wD Pu a0=tF Pu a0:=cY (Du _) _
theorem PA (y1 s36 s41):r9 Pu y1 s36 s41=sa Pu y1 s36 s41:=dF (Du _) _ _ _
theorem Uk (a0):wE Pu a0=tG Pu a0:=cY (Du _) _
theorem Ul (a0 a1):tM Pu a0 a1=tH Pu a0 a1:=cI (Du _) _ _
theorem V9 (a0 a1):u32 Pu a0 a1=uh Pu a0 a1:=cI (Du _) _ _
theorem V' (a0):ua Pu a0=ui Pu a0:=cY (Du _) _
def KF (p:Cf):Prop:=∀a0 a1 r,p a0 a1=some r->Pure env.toCx 180 [(.v (.int .i64 a0)),(.v (.int .i64 a1))] (.ret (.bK [(.agg (bl.cs r.1)),(.v (.int .i64 r.2.1)),(.agg (aK.cs r.2.2))]))
def KG (p:Cg):Prop:=∀a0 r,p a0=some r->Pure env.toCx 226 [(.v (.int .u8 a0))] (.ret (.v (.bool r)))
def KH (p:Ch):Prop:=∀a0 a1 r,p a0 a1=some r->Pure env.toCx 181 [(.v (.string ⟨⟨a0⟩⟩)),(.v (.int .i64 a1))] (.ret (.v (.int .i64 r)))
def KI (p:Ci):Prop:=∀a0 r,p a0=some r->Pure env.toCx 227 [(.v (.int .u8 a0))] (.ret (.v (.bool r)))
def KJ (p:Cj):Prop:=∀a0 r,p a0=some r->Pure env.toCx 230 [(.v (.int .u8 a0))] (.ret (.v (.bool r)))
def KK (p:Ck):Prop:=∀a0 r,p a0=some r->Pure env.toCx 243 [(.v (.int .u8 a0))] (.ret (.v (.bool r)))
def KM (p:Cl):Prop:=∀a0 a1 r,p a0 a1=some r->Pure env.toCx 228 [(.v (.string ⟨⟨a0⟩⟩)),(.v (.int .i64 a1))] (.ret (.v (.int .i64 r)))
def KN (p:Cm):Prop:=∀r,p=some r->Pure env.toCx 245 [] (.ret (.sl 1 (bn r)))
def KO (p:Cn):Prop:=∀a0 a1 r,p a0 a1=some r->Pure env.toCx 244 [(.sl 1 (bn a0)),(.v (.string ⟨⟨a1⟩⟩))] (.ret (.v (.bool r)))
def KP (p:Co):Prop:=∀a0 r,p a0=some r->Pure env.toCx 229 [(.v (.string ⟨⟨a0⟩⟩))] (.ret (.v (.bool r)))
def KQ (p:Cp):Prop:=∀a0 a1 r,p a0 a1=some r->Pure env.toCx 231 [(.v (.string ⟨⟨a0⟩⟩)),(.v (.int .i64 a1))] (.ret (.bK [(.agg (bl.cs r.1)),(.v (.int .i64 r.2.1)),(.agg (aK.cs r.2.2))]))
def KR (p:Cq):Prop:=∀a0 r,p a0=some r->Pure env.toCx 103 [(.v (.int .u8 a0))] (.ret (.v (.bool r)))
def L8 (p:DG):Prop:=∀a0 r,p a0=some r->Pure env.toCx 58 [(.v (.string ⟨⟨a0⟩⟩))] (.ret (.v (.bool r)))
def KS (p:Cr):Prop:=∀r,p=some r->Pure env.toCx 232 [] (.ret (.sl 1 (bn r)))
def KT (p:Cs):Prop:=∀a0 a1 r,p a0 a1=some r->Pure env.toCx 182 [(.v (.string ⟨⟨a0⟩⟩)),(.v (.int .i64 a1))] (.ret (.bK [(.agg (bl.cs r.1)),(.v (.int .i64 r.2.1)),(.agg (aK.cs r.2.2))]))
def KV (p:Ct):Prop:=∀a0 a1 r,p a0 a1=some r->Pure env.toCx 121 [(.v (.string ⟨⟨a0⟩⟩)),(.v (.int .i64 a1))] (.ret (.bK [(.agg (bl.cs r.1)),(.v (.int .i64 r.2.1)),(.agg (aK.cs r.2.2))]))
def L9 (p:DH):Prop:=∀a0 r,p a0=some r->Pure env.toCx 73 [(.v (.string ⟨⟨a0⟩⟩))] (.ret (.bK [(.sl 4 (bl.rows r.1)),(.agg (aK.cs r.2))]))
def L' (p:DI):Prop:=∀a0 r,p a0=some r->Pure env.toCx 76 [(.ip (ay.cs a0))] (.ret (.agg (bl.cs r)))
def KW (p:Cu):Prop:=∀a0 a1 r,p a0 a1=some r->Pure env.toCx 122 [(.ip (ay.cs a0)),(.v (.string ⟨⟨a1⟩⟩))] (.ret (.v (.bool r)))
def Ma (p:DJ):Prop:=∀a0 a1 r,p a0 a1=some r->dv env 78 [(.own 0 0),(.d (.v (.int .i64 a1)))] (.box (ay.cs a0)) (.bK []) (.box (ay.cs r.2))
def KX (p:Cv):Prop:=∀a0 a1 r,p a0 a1=some r->dv env 126 [(.own 0 0),(.d (.v (.int .i64 a1)))] (.box (ay.cs a0)) (.v (.string ⟨⟨r.1⟩⟩)) (.box (ay.cs r.2))
def KY (p:Cw):Prop:=∀a0 r,p a0=some r->dv env 128 [(.own 0 0)] (.box (ay.cs a0)) (.agg (ae.cs r.1)) (.box (ay.cs r.2))
def KZ (p:Cy):Prop:=∀a0 r,p a0=some r->dv env 124 [(.own 0 0)] (.box (ay.cs a0)) (.bK []) (.box (ay.cs r.2))
def K0 (p:Cz):Prop:=∀a0 a1 r,p a0 a1=some r->dv env 125 [(.own 0 0),(.d (.v (.string ⟨⟨a1⟩⟩)))] (.box (ay.cs a0)) (.bK []) (.box (ay.cs r.2))
def K2 (p:CA):Prop:=∀r,p=some r->Pure env.toCx 249 [] (.ret (.sl 1 (bn r)))
def K3 (p:CB):Prop:=∀a0 r,p a0=some r->Pure env.toCx 246 [(.ip (ay.cs a0))] (.ret (.v (.bool r)))
def K4 (p:CC):Prop:=∀a0 a1 r,p a0 a1=some r->Pure env.toCx 184 [(.ip (ay.cs a0)),(.v (.int .i64 a1))] (.ret (.v (.int .i64 r)))
def Mb (p:DK):Prop:=∀a0 r,p a0=some r->dv env 74 [(.own 0 0)] (.box (ay.cs a0)) (.agg (ae.cs r.1)) (.box (ay.cs r.2))
def K5 (p:CD):Prop:=∀a0 a1 r,p a0 a1=some r->dv env 123 [(.own 0 0),(.d (.v (.int .i64 a1)))] (.box (ay.cs a0)) (.agg (ae.cs r.1)) (.box (ay.cs r.2))
def K7 (p:CF):Prop:=∀a0 r,p a0=some r->dv env 183 [(.own 0 0)] (.box (ay.cs a0)) (.agg (ae.cs r.1)) (.box (ay.cs r.2))
def K8 (p:CG):Prop:=∀a0 r,p a0=some r->dv env 233 [(.own 0 0)] (.box (ay.cs a0)) (.agg (ae.cs r.1)) (.box (ay.cs r.2))
def La (p:CH):Prop:=∀a0 a1 r,p a0 a1=some r->dv env 247 [(.own 0 0),(.d (.v (.string ⟨⟨a1⟩⟩)))] (.box (ay.cs a0)) (.agg (ae.cs r.1)) (.box (ay.cs r.2))
def Lb (p:CI):Prop:=∀a0 r,p a0=some r->nO env 127 [(.own 0 0)] (ay.cs a0) (ay.cs r.2) 25 5 (ae.rows r.1)
def Mc (p:DL):Prop:=∀a0 r,p a0=some r->dv env 75 [(.own 0 0)] (.box (ay.cs a0)) (.agg (ae.cs r.1)) (.box (ay.cs r.2))
def Lc (p:CJ):Prop:=∀a0 r,p a0=some r->dv env 130 [(.own 0 0)] (.box (ay.cs a0)) (.v (.int .i64 r.1)) (.box (ay.cs r.2))
def Md (p:DM):Prop:=∀a0 r,p a0=some r->dv env 77 [(.own 0 0)] (.box (ay.cs a0)) (.agg (ae.cs r.1)) (.box (ay.cs r.2))
def Me (p:DN):Prop:=∀a0 a1 r,p a0 a1=some r->Pure env.toCx 32 [(.v (.string ⟨⟨a0⟩⟩)),(.v (.int .i64 a1))] (.ret (.bK [(.agg (ae.cs r.1)),(.agg (aK.cs r.2))]))
def Mf (p:DP):Prop:=∀a0 r,p a0=some r->Pure env.toCx 10 [(.v (.string ⟨⟨a0⟩⟩))] (.ret (.bK [(.agg (ae.cs r.1)),(.agg (aK.cs r.2))]))
def Dq (p:wX):Prop:=∀a0 r,p a0=some r->Pure env.toCx 17 [(.v (.string ⟨⟨a0⟩⟩))] (.ret (.bK [(.agg (ae.cs r.1)),(.agg (aK.cs r.2))]))
def Mg (p:DS):Prop:=∀a0 r,p a0=some r->Pure env.toCx 26 [(.v (.string ⟨⟨a0⟩⟩))] (.ret (.bK [(.agg (ae.cs r.1)),(.agg (aK.cs r.2))]))
def JA (p:Bg):Prop:=∀a0 r,p a0=some r->ki env 100 [(.sl 1 (bn a0))] 9 1 (bn r)
structure Ku (n:Nat):Prop where
 iA:KF (fj (Gu n))
 TA:KG (wm (Gu n))
 TL:KH (wo (Gu n))
 KL:KI (tI (Gu n))
 Cc:KJ (qS (Gu n))
 TB:KK (wu (Gu n))
 KU:KM (tJ (Gu n))
 TC:KN (CK (Gu n))
 TE:KO (CL (Gu n))
 TG:KP (wv (Gu n))
 TH:KQ (wy (Gu n))
 TF:KR (wA (Gu n))
 VW:L8 (w7 (Gu n))
 TJ:KS (CM (Gu n))
 TM:KT (wB (Gu n))
 TN:KV (CO (Gu n))
 VX:L9 (w8 (Gu n))
 cG:L' (cx (Gu n))
 bZ:KW (bV (Gu n))
 jJ:Ma (gG (Gu n))
 dg:KX (cS (Gu n))
 lb:KY (iB (Gu n))
 mJ:KZ (kr (Gu n))
 bC:K0 (bx (Gu n))
 TO:K2 (CP (Gu n))
 TU:K3 (wC (Gu n))
 K6:K4 (tK (Gu n))
 gu:Mb (eL (Gu n))
 qQ:K5 (lg (Gu n))
 TQ:K7 (wD (Gu n))
 TR:K8 (wE (Gu n))
 K9:La (tM (Gu n))
 Ce:Lb (wF (Gu n))
 lV:Mc (lr (Gu n))
 mK:Lc (lN (Gu n))
 VY:Md (Mh (Gu n))
 lq:Me (u32 (Gu n))
 WC:Mf (VZ (Gu n))
 CW:Dq (ua (Gu n))
 WD:Mg (V0 (Gu n))
 WA:JA (RG (Gu n))
def Ou (n:Nat):Prop:=∀m,m<=n->Ku m
theorem Ou.a {N m:Nat} (h:Ou N) (hm:m<=N:=by omega):Ku m:=h m hm
