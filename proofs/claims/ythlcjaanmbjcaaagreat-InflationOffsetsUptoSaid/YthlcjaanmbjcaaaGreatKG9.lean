/- Printed by a program: what functions answer, and that they do. -/
import Derived.Test.YthlcjaanmbjcaaaGreatKG6
import Derived.Test.YthlcjaanmbjcaaaGreatKG7
import Derived.Test.YthlcjaanmbjcaaaGreatKG8
set_option linter.all false
set_option maxRecDepth 100000
noncomputable section
namespace Go.Proofs.YthlcjaanmbjcaaaGreat
open Go Go.Bw
theorem hf:∀n,Kf n:=by
 intro n
 induction n using Nat.strongRecOn with|_ n ih=>?_
 rcases n with _|n
 ·constructor<;>(repeat intro _)<;>contradiction
 ·have h:Of n:=λm hm=>ih m (by omega);exact⟨QF h,QG h,O6 h,QH h,QI h,QJ h,QK h,O7 h,O8 h,O9 h,O' h,Pa h,QL h,QM h,Pb h,QN h,QO h,QP h,QQ h,QR h,MY h,MZ h,QS h,QT h,QU h,QV h,QW h,QX h,QY h,QZ h,Pc h,L9 h,Pd h,Pe h,Pg h,Ph h,Pj h,Pk h,Pl h,Oq h,Ot h,Pm h,Pn h,Po h,Pp h,Ma h,Q0 h,M0 h,Q1 h,Q2 h,Pq h,Pr h,Ps h,Pt h,Pu h,Pv h,Pw h,Px h,Py h,Q3 h,Q4 h,NO h,Q5 h,Q6 h,Q7 h,Q8 h,Q9 h,Ra h,Pz h,Rb h,Rc h,Re h,Rf h,Rg h,Rh h,Ri h,Rj h,M1 h,Rk h,w9 h,Rl h,Rm h,Rn h,Ro h,Rp h,Rq h,Rr h,w6 h,Rs h,w8 h,Rt h,Ru h,Rv h,Rw h,Rx h,Ry h,Rz h,RA h,RB h,w7 h,w3 h,w4 h,RC h,RE h,RF h,NP h,NQ h,w5 h⟩
theorem p5:C5 (f5 Pf):=λa0 a1 r h=>by
 obtain⟨n,hn⟩:=PF.ex (PF.ap (PF.ap l5 a0) a1) h;exact(hf n).c5 a0 a1 _ hn
