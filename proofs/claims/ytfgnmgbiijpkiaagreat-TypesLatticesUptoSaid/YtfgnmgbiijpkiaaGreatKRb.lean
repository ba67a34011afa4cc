/- The reference of types: equality of descriptions, sorts, open expressions; the relation of an elaboration to the reference's. -/
import Derived.Test.YtfgnmgbiijpkiaaGreatKVa9
set_option linter.all false
namespace Go.Proofs.YtfgnmgbiijpkiaaGreat
open Go Go.Bw
section
variable {B:Nat} (hB:B<=1048576)
include hB
theorem Lv {a b:List (List UInt8)} (ha:a.length<=B):(f69 Pf) a b=some (a==b):=KK hB e69 YN ha
theorem WM {a b:ah} (hl:a.ax.length<=B) (h:a.ax.length=b.ax.length) (ih:∀k∈a.ax,∀b,(f29 Pf) k b=some (iJ k b)):(qO Pf) a b 0=some (ja a.ax b.ax):=by
 rw[qt (a:=a.ax) (b:=b.ax) (L:=(qO Pf) a b) iJ true h ?_ ?_]
 ·rw[C4 h,rZ]
 ·intro i x y hx hy hi;rw[NY,tA,ah.aD,o9 (by omega)];have h1:decide ((i:Int)<(a.ax.length:Int))=true:=by simpa using hi
  rw[h1,bj hx,bj hy];show(((f29 Pf) x y).bind _)=_;rw[ih x (bw hx) y];show(bif !(iJ x y)then _ else _)=_;cases iJ x y<;>rfl
 ·rw[NY,tA,ah.aD];simp
theorem WO {a b:ah} {s:Bool} (hl:a.aZ.length<=B) (hr:∀x∈a.aZ,x.ok B) (h:a.aZ.length=b.aZ.length) {p:Bool} (hp:(qO Pf) a b 0=some p):(tB Pf) a b s 0=some ((a.aZ.zip b.aZ).all (λq=>ji q.1 q.2)&&p):=by
 rw[qt (a:=a.aZ) (b:=b.aZ) (L:=(tB Pf) a b s) ji p h ?_ ?_]
 ·intro i x y hx hy hi;rw[NZ,tC,aU.aD,o9 (by omega)];have h1:decide ((i:Int)<(a.aZ.length:Int))=true:=by simpa using hi
  rw[h1,aV,bj hx,aw,bj hy,aw];simp only[aw];rw[Lv hB (hr x (bw hx)).1.1,aw,ji];cases x.eP==y.eP<;>cases x.If==y.If<;>rfl
 ·rw[NZ,tC,aU.aD];simp[hp]
theorem WQ:∀a b:ah,a.ok B->(f29 Pf) a b=some (iJ a b):=by
 refine ah.ind ?_;intro a ih b ha;rw[ah.c8]at ha;obtain⟨_,_,_,hn,hp,hr⟩:=ha;rw[e29,xm,Lv hB hn.1];have e:iJ a b=(a.Kind==b.Kind&&(a.Lo==b.Lo&&(a.Hi==b.Hi&&(a.Names==b.Names&&((a.aZ.length==b.aZ.length&&(a.aZ.zip b.aZ).all (λq=>ji q.1 q.2))&&ja a.ax b.ax))))):=by
  cases a;cases b;rw[iJ]
 rw[e,ah.aD,ah.aD,aU.aD,aU.aD];simp only[aw,bne];by_cases h1:a.ax.length=b.ax.length
 ·by_cases h2:a.aZ.length=b.aZ.length
  ·rw[WO hB hr.1 hr.2 h2 (WM hB hp.1 h1 λk hk b=>ih k hk b (ah.iS hp.2 hk)),h1,h2];simp only[beq_self_eq_true,Bool.true_and];cases a.Kind==b.Kind<;>cases a.Lo==b.Lo<;>cases a.Hi==b.Hi<;>cases a.Names==b.Names<;>rfl
  ·have h3:((a.aZ.length:Int)==(b.aZ.length:Int))=false:=by simpa usingλh=>h2 (by omega)
   have h4:(a.aZ.length==b.aZ.length)=false:=by simpa using h2
   rw[h3,h4];simp only[Bool.false_and,UD];cases a.Kind==b.Kind<;>cases a.Lo==b.Lo<;>cases a.Hi==b.Hi<;>cases a.Names==b.Names<;>cases ((a.ax.length:Int)==(b.ax.length:Int))<;>rfl
 ·have h3:((a.ax.length:Int)==(b.ax.length:Int))=false:=by simpa usingλh=>h1 (by omega)
  rw[h3,C6 h1];simp only[UD];cases a.Kind==b.Kind<;>cases a.Lo==b.Lo<;>cases a.Hi==b.Hi<;>cases a.Names==b.Names<;>rfl
end
theorem dR (a b:Int):(f41 Pf) a b=some ⟨a,b⟩:=e41 a b
def FF (a b:Int):AV:= .bB 28 (.agg [.v (.int .i64 a),.v (.int .i64 b)])
def RR {D β:Type} (Q:D->β->Prop) (o:Option (aX D)) (q:Option (β×aM)):Prop:=
 (∃y z,Q y z/\o=some (.ret y)/\q=some (z,⟨0,0⟩))\/(∃a b z,a≠0/\o=some (.aO (FF a b))/\q=some (z,⟨a,b⟩))
section
variable {D β γ δ:Type} {Q:D->β->Prop} {Q':γ->δ->Prop}
theorem RR.ret {y:D} {z:β} (h:Q y z):RR Q (some (.ret y)) (some (z,aM.z)):= .inl ⟨y,z,h,rfl,rfl⟩
theorem RR.fail {a b:Int} {z:β} (ha:a≠0:=by decide):RR Q (Bw.aA ((f80 Pf) a b) λ_=>(none:Option (aX D))) (((f41 Pf) a b).bind λy=>some (z,y)):=by
 rw[lq,iL,dR];exact .inr ⟨a,b,z,ha,rfl,rfl⟩
theorem gN {D:Type} {a:Int} {x y:D} (h:a≠0):(bif (a !=0)then x else y)=x:=by
 have:(a !=0)=true:=by simpa using h
 rw[this];rfl
theorem gE {D:Type} {a:Int} {x y:D} (h:a≠0):(bif (a==0)then x else y)=y:=by
 have:(a==0)=false:=by simpa using h
 rw[this];rfl
theorem RR.bind {o:Option (aX D)} {q:Option (β×aM)} {f:D->Option (aX γ)} {g:β×aM->Option (δ×aM)} (h:RR Q o q) (hf:∀y z,Q y z->RR Q' (f y) (g (z,⟨0,0⟩)))
  (hg:∀a b z,a≠0->∃z',g (z,⟨a,b⟩)=some (z',⟨a,b⟩):=by intro a b z ha;first|exact⟨_,rfl⟩|exact⟨_,gN ha⟩|exact⟨_,gE ha⟩):RR Q' (Bw.aA o f) (q.bind g):=by
 rcases h with⟨y,z,h,rfl,rfl⟩|⟨a,b,z,ha,rfl,rfl⟩
 ·exact hf y z h
 ·obtain⟨z',e⟩:=hg a b z ha;exact .inr ⟨a,b,z',ha,rfl,e⟩
theorem RR.l {ε:Type} {o:Option ε} {v:ε} {f:ε->Option (aX γ)} {q:Option (δ×aM)} (e:o=some v) (h:RR Q' (f v) q):RR Q' (o.bind f) q:=by rw[e];exact h
theorem RR.r {ε:Type} {o:Option ε} {v:ε} {p:Option (aX γ)} {g:ε->Option (δ×aM)} (e:o=some v) (h:RR Q' p (g v)):RR Q' p (o.bind g):=by rw[e];exact h
theorem RR.bc {c:Bool} {a b:Option (aX γ)} {q:Option (δ×aM)} (h1:c=true->RR Q' a q) (h2:c=false->RR Q' b q):RR Q' (bif c then a else b) q:=by
 cases c with|true=>exact h1 rfl|false=>exact h2 rfl
theorem RR.t {c:Bool} {p:Option (aX γ)} {a b:Option (δ×aM)} (h:c=true) (h1:RR Q' p a):RR Q' p (bif c then a else b):=by rw[h];exact h1
theorem RR.f {c:Bool} {p:Option (aX γ)} {a b:Option (δ×aM)} (h:c=false) (h1:RR Q' p b):RR Q' p (bif c then a else b):=by rw[h];exact h1
end
section
variable {B:Nat} (hB:B<=1048576) {c:bO} (hc:CE B c) {γ δ:Type} {Q':γ->δ->Prop}
end
section
variable {B:Nat} (hB:B<=1048576) {c:bO} (hc:CE B c) {γ δ:Type} {Q':γ->δ->Prop}
end
def EQ {D:Type}:D->D->Prop:=λy z=>z=y
theorem RR.and {D:Type} {P:D->Prop} {o:Option (aX D)} {q:Option (D×aM)} (h:RR EQ o q) (hp:af o P dW):RR (λy z=>z=y/\P y) o q:=by
 rcases h with⟨y,z,h,rfl,rfl⟩|h
 ·obtain⟨r,e,hr⟩:=hp;cases e;exact .inl ⟨y,z,⟨h,hr⟩,rfl,rfl⟩
 ·obtain⟨a,b,z,ha,rfl,rfl⟩:=h;exact .inr ⟨a,b,z,ha,rfl,rfl⟩
theorem RR.same {D:Type} {y:D} {q:Option (D×aM)} (h:q=some (y,⟨0,0⟩)):RR EQ (some (.ret y)) q:= .inl ⟨y,y,rfl,rfl,h⟩
section
variable {B:Nat} (hB:B<=1048576) {c:bO} (hc:CE B c) {γ δ:Type} {Q':γ->δ->Prop}
end
section
variable {B:Nat} (hB:B<=1048576) {c:bO}
end
theorem Ek (a:List (List UInt8)) (t:List UInt8) (ha:a.length<1000000000):(f42 Pf) a t=some (a.any λy=>y==t):=by
 rw[e42,uQ];have key:∀m i:Nat,i+m=a.length->(vY Pf) a t (i:Int)=some ((a.drop i).any λy=>y==t):=by
  intro m
  induction m with
  |zero=>
   intro i hi;rw[NX,tz,cj,aY];have:decide (i<a.length)=false:=by simp;omega
   rw[this,List.drop_of_length_le (by omega)];rfl
  |succ m im=>
   intro i hi;obtain⟨y,hy⟩:=bh (l:=a) (i:=i) (by omega);rw[NX,tz,cj,aY];have hl:i<a.length:=by omega
   have:decide (i<a.length)=true:=by simpa using hl
   rw[this,aV,bj hy,aw,bP i (by omega),im (i+1) (by omega),List.drop_eq_getElem_cons hl,List.any_cons];have:a[i]=y:=by rw[adi hl]at hy;simpa using hy
   rw[this];cases y==t<;>rfl
 have:=key a.length 0 (by omega);simpa using this
section
variable {B:Nat} (hB:B<=1048576) {c:bO}
end
section
variable {B:Nat} (hB:B<=1048576) {c:bO} (hc:CE B c)
