/- Printed by a program: what functions answer, and that they do. -/
import Derived.Test.YthlcjaanmbjcaaaGreatKG3
set_option linter.all false
set_option maxRecDepth 100000
noncomputable section
namespace Go.Proofs.YthlcjaanmbjcaaaGreat
open Go Go.Bw
theorem Qi {f:Nat->Fs} {p} (h:PF.R f p):PF.R (λn=>uj (f n)) (uj p):=by unfold uj oz oy oA oS;exact zP h
theorem Qj {f:Nat->Fs} {p} (h:PF.R f p):PF.R (λn=>uk (f n)) (uk p):=by unfold uk oT nk;exact zP h
theorem Qk {f:Nat->Fs} {p} (h:PF.R f p):PF.R (λn=>um (f n)) (um p):=by unfold um nc oB;exact zP h
theorem Ql {f:Nat->Fs} {p} (h:PF.R f p):PF.R (λn=>z7 (f n)) (z7 p):=zP h
theorem Qm {f:Nat->Fs} {p} (h:PF.R f p):PF.R (λn=>z8 (f n)) (z8 p):=zP h
theorem Qo {f:Nat->Fs} {p} (h:PF.R f p):PF.R (λn=>uo (f n)) (uo p):=by unfold uo nh;exact zP h
theorem Qq {f:Nat->Fs} {p} (h:PF.R f p):PF.R (λn=>uq (f n)) (uq p):=by unfold uq oP oQ oR;exact zP h
theorem Qr {f:Nat->Fs} {p} (h:PF.R f p):PF.R (λn=>uv (f n)) (uv p):=by unfold uv uw ru tq;exact zP h
set_option maxHeartbeats 0 in
theorem Xf:PF.Fix Gf (Qf):=PF.fix (Φ:=λn=>Qf) (λf p h=>(PF.pair (PF.pair (PF.pair (Qi h) (Qj h)) (PF.pair (Qk h) (Ql h))) (PF.pair (PF.pair (Qm h) (Qo h)) (PF.pair (Qq h) (Qr h))))) rfl λ_=>rfl
theorem l5:PF.R (λn=>f5 (Gf n)) (f5 Pf):=PF.K.k _ Xf.1
theorem Df {β:Type} [PF β] (π:PF.K Fs β):π Pf=π (Qf Pf):=congrArg π.f Xf.2
theorem OG (a0 a1):f115 Pf a0 a1=qq Pf a0 a1:=bS (Df _) _ _
theorem P9 (a0):f92 Pf a0=rk Pf a0:=cF (Df _) _
theorem Qa (a0):f94 Pf a0=rl Pf a0:=cF (Df _) _
theorem Qg (a0):f98 Pf a0=rp Pf a0:=cF (Df _) _
theorem FW (a0 s9):pX Pf a0 s9=nS Pf a0 s9:=bS (Df _) _ _
theorem Qh (a0):f63 Pf a0=rq Pf a0:=cF (Df _) _
theorem ER (a0 a1 s1):sV Pf a0 a1 s1=ni Pf a0 a1 s1:=dg (Df _) _ _ _
theorem OJ (a0 a1):f129 Pf a0 a1=oz Pf a0 a1:=bS (Df _) _ _
theorem OK (a0 a1):f116 Pf a0 a1=qu Pf a0 a1:=bS (Df _) _ _
theorem wP (a0 s1):pH Pf a0 s1=lQ Pf a0 s1:=bS (Df _) _ _
theorem OH (a0):f117 Pf a0=oy Pf a0:=cF (Df _) _
theorem OL (a0 a1):f119 Pf a0 a1=qv Pf a0 a1:=bS (Df _) _ _
theorem ES (a0 a1 s1):lR Pf a0 a1 s1=nj Pf a0 a1 s1:=dg (Df _) _ _ _
theorem OM (a0 a1):f118 Pf a0 a1=oA Pf a0 a1:=bS (Df _) _ _
theorem NH (a0 s16):tr Pf a0 s16=tu Pf a0 s16:=bS (Df _) _ _
theorem NI (a0 s27):tv Pf a0 s27=tw Pf a0 s27:=bS (Df _) _ _
theorem FT (a0 s1 s2):kY Pf a0 s1 s2=nP Pf a0 s1 s2:=dg (Df _) _ _ _
theorem P6 (a0):f95 Pf a0=oS Pf a0:=cF (Df _) _
theorem Qb (a0):f96 Pf a0=rm Pf a0:=cF (Df _) _
theorem OI (a0):f120 Pf a0=qt Pf a0:=cF (Df _) _
theorem Qc (a0):f97 Pf a0=rn Pf a0:=cF (Df _) _
theorem FV (a0 s1):l7 Pf a0 s1=nR Pf a0 s1:=bS (Df _) _ _
theorem Qd (a0):f93 Pf a0=oT Pf a0:=cF (Df _) _
theorem FU (a1 a2 s11 s12):l6 Pf a1 a2 s11 s12=nQ Pf a1 a2 s11 s12:=mx (Df _) _ _ _ _
theorem P7 (a0 a1 a2):f62 Pf a0 a1 a2=rh Pf a0 a1 a2:=dg (Df _) _ _ _
theorem P8 (a0):f45 Pf a0=rj Pf a0:=cF (Df _) _
theorem Qs (a0 a1):f65 Pf a0 a1=rv Pf a0 a1:=bS (Df _) _ _
theorem CU (a0 a1 s1):sf Pf a0 a1 s1=mW Pf a0 a1 s1:=dg (Df _) _ _ _
theorem MM (a0 a1):sW Pf a0 a1=nk Pf a0 a1:=bS (Df _) _ _
theorem MN (a0 a1):sX Pf a0 a1=pI Pf a0 a1:=bS (Df _) _ _
theorem nT (a0 s8):iL Pf a0 s8=jx Pf a0 s8:=bS (Df _) _ _
theorem Aa (a0):f46 Pf a0=mE Pf a0:=cF (Df _) _
theorem Im (a0 a1):f66 Pf a0 a1=oU Pf a0 a1:=bS (Df _) _ _
theorem Io (a0):f67 Pf a0=oV Pf a0:=cF (Df _) _
theorem Qt (a0):f68 Pf a0=ry Pf a0:=cF (Df _) _
theorem FX (a1 s9 y28 s31 s32):kZ Pf a1 s9 y28 s31 s32=nU Pf a1 s9 y28 s31 s32:=lr (Df _) _ _ _ _ _
theorem FY (a1 s9 y28 s41 s42):iM Pf a1 s9 y28 s41 s42=nV Pf a1 s9 y28 s41 s42:=lr (Df _) _ _ _ _ _
theorem pY (a0 a1 s3 s4 s9):iN Pf a0 a1 s3 s4 s9=jS Pf a0 a1 s3 s4 s9:=lr (Df _) _ _ _ _ _
theorem Ip (a0 a1):f47 Pf a0 a1=oW Pf a0 a1:=bS (Df _) _ _
theorem Qu (a0):f74 Pf a0=uz Pf a0:=cF (Df _) _
theorem Qv (a0):f75 Pf a0=uA Pf a0:=cF (Df _) _
theorem Qw (a0 a1):f49 Pf a0 a1=rz Pf a0 a1:=bS (Df _) _ _
theorem ON (a0 a1):f121 Pf a0 a1=qw Pf a0 a1:=bS (Df _) _ _
theorem Cs (a0 a1 s1):r8 Pf a0 a1 s1=mM Pf a0 a1 s1:=dg (Df _) _ _ _
theorem LY (a0 a1):sH Pf a0 a1=nc Pf a0 a1:=bS (Df _) _ _
theorem OO (a0 a1):f104 Pf a0 a1=qx Pf a0 a1:=bS (Df _) _ _
theorem OQ (a0):f103 Pf a0=qy Pf a0:=cF (Df _) _
theorem OR (a0):f130 Pf a0=qz Pf a0:=cF (Df _) _
theorem ET (a0 a1 s1):sY Pf a0 a1 s1=nn Pf a0 a1 s1:=dg (Df _) _ _ _
theorem OS (a0 a1):f138 Pf a0 a1=oB Pf a0 a1:=bS (Df _) _ _
theorem OT (a0 a1):f132 Pf a0 a1=qA Pf a0 a1:=bS (Df _) _ _
theorem OU (a0 a1 a2):f131 Pf a0 a1 a2=qB Pf a0 a1 a2:=dg (Df _) _ _ _
theorem OV (a0):f125 Pf a0=qC Pf a0:=cF (Df _) _
theorem Ol (a0):xP Pf a0=qe Pf a0:=cF (Df _) _
theorem Om (a0):xQ Pf a0=qf Pf a0:=cF (Df _) _
theorem EU (a0 y1 y16 s17 s22 s23):pJ Pf a0 y1 y16 s17 s22 s23=np Pf a0 y1 y16 s17 s22 s23:=qO (Df _) _ _ _ _ _ _
theorem EV (a0 y1 y2 s3 s9):pK Pf a0 y1 y2 s3 s9=nq Pf a0 y1 y2 s3 s9:=lr (Df _) _ _ _ _ _
theorem OW (a0):f102 Pf a0=qD Pf a0:=cF (Df _) _
theorem OX (a0):f140 Pf a0=qE Pf a0:=cF (Df _) _
theorem MO (a0 a1 s2):sZ Pf a0 a1 s2=s6 Pf a0 a1 s2:=dg (Df _) _ _ _
theorem OY (a0 a1):f105 Pf a0 a1=ub Pf a0 a1:=bS (Df _) _ _
theorem OZ (a0 a1):f107 Pf a0 a1=qF Pf a0 a1:=bS (Df _) _ _
theorem Ct (a0 a1 s2):mN Pf a0 a1 s2=mO Pf a0 a1 s2:=dg (Df _) _ _ _
theorem LZ (a0 a1):sI Pf a0 a1=pC Pf a0 a1:=bS (Df _) _ _
theorem Qx (a0 a1):f77 Pf a0 a1=rA Pf a0 a1:=bS (Df _) _ _
theorem CW (a0 a1 s2):mX Pf a0 a1 s2=mY Pf a0 a1 s2:=dg (Df _) _ _ _
theorem MP (a0 a1):s7 Pf a0 a1=pL Pf a0 a1:=bS (Df _) _ _
theorem Qy (a0 a1):f55 Pf a0 a1=rB Pf a0 a1:=bS (Df _) _ _
theorem Iq (a0 a1 a2):f73 Pf a0 a1 a2=oX Pf a0 a1 a2:=dg (Df _) _ _ _
theorem Hr (a0 a1 a2):f101 Pf a0 a1 a2=oC Pf a0 a1 a2:=dg (Df _) _ _ _
theorem Hs (a0 a1 a2 a3 a4 a5):f122 Pf a0 a1 a2 a3 a4 a5=oD Pf a0 a1 a2 a3 a4 a5:=qO (Df _) _ _ _ _ _ _
theorem EW (a0 a1 a2 s159 s171):ju Pf a0 a1 a2 s159 s171=nr Pf a0 a1 a2 s159 s171:=lr (Df _) _ _ _ _ _
theorem EX (a0 a1 a2 s186 s198):kP Pf a0 a1 a2 s186 s198=nw Pf a0 a1 a2 s186 s198:=lr (Df _) _ _ _ _ _
theorem O0 (a0 a1 a2):f123 Pf a0 a1 a2=qG Pf a0 a1 a2:=dg (Df _) _ _ _
theorem EY (a1 a2 s4 s26 s27):jP Pf a1 a2 s4 s26 s27=ny Pf a1 a2 s4 s26 s27:=lr (Df _) _ _ _ _ _
theorem EZ (a0 a1 a2 s3 s4 s5):lS Pf a0 a1 a2 s3 s4 s5=nz Pf a0 a1 a2 s3 s4 s5:=qO (Df _) _ _ _ _ _ _
theorem O1 (a0 a1 a2):f134 Pf a0 a1 a2=qH Pf a0 a1 a2:=dg (Df _) _ _ _
theorem O2 (a0 a1):f135 Pf a0 a1=qI Pf a0 a1:=bS (Df _) _ _
theorem O3 (a0 a1 a2 a3 a4 a5):f139 Pf a0 a1 a2 a3 a4 a5=qJ Pf a0 a1 a2 a3 a4 a5:=qO (Df _) _ _ _ _ _ _
theorem O4 (a0 a1 a2 a3):f137 Pf a0 a1 a2 a3=qK Pf a0 a1 a2 a3:=mx (Df _) _ _ _ _
theorem Ht (a0 a1 a2):f124 Pf a0 a1 a2=oE Pf a0 a1 a2:=dg (Df _) _ _ _
theorem O5 (a0 a1 a2 a3 a4):f136 Pf a0 a1 a2 a3 a4=qL Pf a0 a1 a2 a3 a4:=lr (Df _) _ _ _ _ _
theorem Ab (a0 a1 a2 a3):f48 Pf a0 a1 a2 a3=mF Pf a0 a1 a2 a3:=mx (Df _) _ _ _ _
theorem Qz (a0 a1):f50 Pf a0 a1=rC Pf a0 a1:=bS (Df _) _ _
theorem DL (a0 a1 s2):m6 Pf a0 a1 s2=m7 Pf a0 a1 s2:=dg (Df _) _ _ _
theorem NK (a0 a1):tx Pf a0 a1=pZ Pf a0 a1:=bS (Df _) _ _
theorem Ac (a0 a1):f28 Pf a0 a1=mG Pf a0 a1:=bS (Df _) _ _
theorem Ib (a0 a1):f20 Pf a0 a1=oK Pf a0 a1:=bS (Df _) _ _
theorem z6 (a0):f32 Pf a0=mD Pf a0:=cF (Df _) _
theorem PS (a0 a1):f33 Pf a0 a1=qU Pf a0 a1:=bS (Df _) _ _
theorem PQ (a0 a1):f30 Pf a0 a1=qS Pf a0 a1:=bS (Df _) _ _
theorem zZ (a0 a1):f29 Pf a0 a1=mC Pf a0 a1:=bS (Df _) _ _
theorem OF (a0):yD Pf a0=qp Pf a0:=cF (Df _) _
theorem PR (a0 a1):f31 Pf a0 a1=qT Pf a0 a1:=bS (Df _) _ _
theorem PT (a0):f52 Pf a0=qV Pf a0:=cF (Df _) _
theorem FJ (a0 a1 s16):lT Pf a0 a1 s16=nF Pf a0 a1 s16:=dg (Df _) _ _ _
theorem qR (a0 a1):f21 Pf a0 a1=ky Pf a0 a1:=bS (Df _) _ _
theorem Ie (a0 a1):f34 Pf a0 a1=oL Pf a0 a1:=bS (Df _) _ _
theorem Ih (a0 a1 a2):f35 Pf a0 a1 a2=oN Pf a0 a1 a2:=dg (Df _) _ _ _
theorem Ig (a0 a1 a2):f53 Pf a0 a1 a2=oM Pf a0 a1 a2:=dg (Df _) _ _ _
theorem Ii (a0 a1 a2):f36 Pf a0 a1 a2=oO Pf a0 a1 a2:=dg (Df _) _ _ _
theorem PU (a0 a1):f37 Pf a0 a1=qX Pf a0 a1:=bS (Df _) _ _
theorem CS (a0 a1 a2 s1):lE Pf a0 a1 a2 s1=mV Pf a0 a1 a2 s1:=mx (Df _) _ _ _ _
theorem MI (a0 a1 a2):wQ Pf a0 a1 a2=nh Pf a0 a1 a2:=dg (Df _) _ _ _
theorem PV (a0 a1 a2):f54 Pf a0 a1 a2=qY Pf a0 a1 a2:=dg (Df _) _ _ _
theorem e9 (a0 a1):f9 Pf a0 a1=B9 Pf a0 a1:=bS (Df _) _ _
theorem S3 (a0 a1 s9):xy Pf a0 a1 s9=xw Pf a0 a1 s9:=dg (Df _) _ _ _
theorem Ik (a0 a1):f22 Pf a0 a1=uB Pf a0 a1:=bS (Df _) _ _
theorem Tl (a0 a1):f13 Pf a0 a1=AF Pf a0 a1:=bS (Df _) _ _
theorem Te (a0 s3):xl Pf a0 s3=xk Pf a0 s3:=bS (Df _) _ _
theorem S4 (a1 a2 s26 s27):xn Pf a1 a2 s26 s27=xm Pf a1 a2 s26 s27:=mx (Df _) _ _ _ _
theorem Tn (a0 a1 a2):f23 Pf a0 a1 a2=Ad Pf a0 a1 a2:=dg (Df _) _ _ _
theorem To (a0 a1 a2):f38 Pf a0 a1 a2=Af Pf a0 a1 a2:=dg (Df _) _ _ _
theorem L' (a0 a1 a2 a3):f39 Pf a0 a1 a2 a3=Ah Pf a0 a1 a2 a3:=mx (Df _) _ _ _ _
theorem Tm (a0 a1):f15 Pf a0 a1=Aj Pf a0 a1:=bS (Df _) _ _
theorem e6:f6 Pf=B6 Pf:=Df _
theorem FK (a0 s1 s2):lU Pf a0 s1 s2=nG Pf a0 s1 s2:=dg (Df _) _ _ _
theorem PW (a0 a1):f19 Pf a0 a1=oP Pf a0 a1:=bS (Df _) _ _
theorem e8 (a0 a1):f8 Pf a0 a1=B8 Pf a0 a1:=bS (Df _) _ _
theorem P0 (a0):f59 Pf a0=q0 Pf a0:=cF (Df _) _
theorem FL (a0 s9):iK Pf a0 s9=nH Pf a0 s9:=bS (Df _) _ _
theorem PX (a0):f89 Pf a0=qZ Pf a0:=cF (Df _) _
theorem FM (a0 a1 s1):lV Pf a0 a1 s1=nI Pf a0 a1 s1:=dg (Df _) _ _ _
theorem PY (a0 a1):f90 Pf a0 a1=oQ Pf a0 a1:=bS (Df _) _ _
theorem FN (a0 s1):kX Pf a0 s1=nJ Pf a0 s1:=bS (Df _) _ _
theorem PZ (a0):f91 Pf a0=oR Pf a0:=cF (Df _) _
theorem FO (a0 s2):lW Pf a0 s2=nL Pf a0 s2:=bS (Df _) _ _
theorem FQ (a0 y14 s16 s17 x19 y22 y24 s26 s27):lY Pf a0 y14 s16 s17 x19 y22 y24 s26 s27=nN Pf a0 y14 s16 s17 x19 y22 y24 s26 s27:=PJ (Df _) _ _ _ _ _ _ _ _ _
theorem FP (a0 y14 s16 s17):lX Pf a0 y14 s16 s17=nM Pf a0 y14 s16 s17:=mx (Df _) _ _ _ _
theorem P2 (a0):f60 Pf a0=ra Pf a0:=cF (Df _) _
theorem P1 (a0):f61 Pf a0=q8 Pf a0:=cF (Df _) _
theorem P3 (a0 a1 a2):f44 Pf a0 a1 a2=rb Pf a0 a1 a2:=dg (Df _) _ _ _
theorem FR (a0 a1 s3 s4):lZ Pf a0 a1 s3 s4=nO Pf a0 a1 s3 s4:=mx (Df _) _ _ _ _
theorem P4 (a0 a1 a2):f27 Pf a0 a1 a2=re Pf a0 a1 a2:=dg (Df _) _ _ _
theorem P5 (a0):f18 Pf a0=rf Pf a0:=cF (Df _) _
theorem e7 (a0 a1):f7 Pf a0 a1=B7 Pf a0 a1:=bS (Df _) _ _
theorem e3 (a0 a1 a2 a3):f3 Pf a0 a1 a2 a3=B3 Pf a0 a1 a2 a3:=mx (Df _) _ _ _ _
theorem e4 (a0 a1):f4 Pf a0 a1=B4 Pf a0 a1:=bS (Df _) _ _
theorem S1 (a0 s1 s2):xp Pf a0 s1 s2=xo Pf a0 s1 s2:=dg (Df _) _ _ _
theorem Tj (a0):f12 Pf a0=uw Pf a0:=cF (Df _) _
theorem S2 (a0 a1 a2 s1):tz Pf a0 a1 a2 s1=xq Pf a0 a1 a2 s1:=mx (Df _) _ _ _ _
theorem Ij (a0 a1 a2):f14 Pf a0 a1 a2=ru Pf a0 a1 a2:=dg (Df _) _ _ _
theorem Tk (a0):f16 Pf a0=AB Pf a0:=cF (Df _) _
theorem Tc (a0):Gb Pf a0=xr Pf a0:=cF (Df _) _
theorem SY (a0 s1):vP Pf a0 s1=vO Pf a0 s1:=bS (Df _) _ _
theorem Td (a0):Gc Pf a0=tq Pf a0:=cF (Df _) _
theorem Tg (y7 y12 s17):tP Pf y7 y12 s17=xR Pf y7 y12 s17:=dg (Df _) _ _ _
theorem Th (y7 y12 s29):tQ Pf y7 y12 s29=xS Pf y7 y12 s29:=dg (Df _) _ _ _
theorem e5 (a0 a1):f5 Pf a0 a1=B5 Pf a0 a1:=bS (Df _) _ _
