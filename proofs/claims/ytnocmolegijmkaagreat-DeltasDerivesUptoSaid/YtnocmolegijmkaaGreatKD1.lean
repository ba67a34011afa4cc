/- An abstract machine over the program logic: its values name own blocks by tags, so that its steps can be computed. First part: values, slots, heap, what they say, the judgement. -/
import Derived.Test.YtnocmolegijmkaaGreatKB10
set_option linter.all false
noncomputable section
namespace Go.Bw
open Go
inductive CV where
 |d (x:AV)
 |agg (xs:List CV)
 |bZ (xs:List CV)
 |own (t off:Nat)
 |os (t n:Nat)
 |oe (t n off:Nat)
 |om (t:Nat)
 |fn (f:FuncId) (fs cs:List CV)
 |bA (ty:TypeId) (x:CV)
structure aH where
 b:Nat->Option Nat
 s:Nat->Nat->Option (Option Addr×Nat)
def aH.le (Z Z':aH):Prop:=(∀t x,Z.b t=some x->Z'.b t=some x)/\∀t n x,Z.s t n=some x->Z'.s t n=some x
theorem aH.le.refl (Z:aH):Z.le Z:=⟨λ_ _ h=>h,λ_ _ _ h=>h⟩
theorem aH.le.trans {Z Z' Z'':aH} (h:Z.le Z') (g:Z'.le Z''):Z.le Z'':=⟨λt x hx=>g.1 t x (h.1 t x hx),λt n x hx=>g.2 t n x (h.2 t n x hx)⟩
mutual
def aG (Z:aH):CV->AV->Prop
 | .d x,y=>y=x
 | .agg xs,y=>∃ys,y= .agg ys/\aN Z xs ys
 | .bZ xs,y=>∃ys,y= .bZ ys/\aN Z xs ys
 | .own t o,y=>∃b t',Z.b t=some b/\y= .own t' b o
 | .os t n,y=>∃a c t',Z.s t n=some (a,c)/\y= .os t' a n c
 | .oe t n o,y=>∃a c t',Z.s t n=some (a,c)/\y= .oe t' (.slice a n c) o
 | .om t,y=>∃b t',Z.b t=some b/\y= .om t' b
 | .fn f fs cs,y=>∃us vs,y= .fn f us vs/\aN Z fs us/\aN Z cs vs
 | .bA t x,y=>∃u,y= .bA t u/\aG Z x u
def aN (Z:aH):List CV->List AV->Prop
 |[],ys=>ys=[]
 |x::xs,ys=>∃y r,ys=y::r/\aG Z x y/\aN Z xs r
end
section
variable {Z Z':aH}
mutual
theorem aG.mono (h:Z.le Z'):∀{x:CV} {y:AV},aG Z x y->aG Z' x y
 | .d x,_,h1=>by simp only[aG]at h1⊢;exact h1
 | .agg xs,_,h1=>by simp only[aG]at h1⊢;obtain⟨ys,e,h2⟩:=h1;exact⟨ys,e,aN.mono h h2⟩
 | .bZ xs,_,h1=>by simp only[aG]at h1⊢;obtain⟨ys,e,h2⟩:=h1;exact⟨ys,e,aN.mono h h2⟩
 | .own t o,_,h1=>by simp only[aG]at h1⊢;obtain⟨b,t',e,h2⟩:=h1;exact⟨b,t',h.1 _ _ e,h2⟩
 | .os t n,_,h1=>by simp only[aG]at h1⊢;obtain⟨a,c,t',e,h2⟩:=h1;exact⟨a,c,t',h.2 _ _ _ e,h2⟩
 | .oe t n o,_,h1=>by simp only[aG]at h1⊢;obtain⟨a,c,t',e,h2⟩:=h1;exact⟨a,c,t',h.2 _ _ _ e,h2⟩
 | .om t,_,h1=>by simp only[aG]at h1⊢;obtain⟨b,t',e,h2⟩:=h1;exact⟨b,t',h.1 _ _ e,h2⟩
 | .fn f fs cs,_,h1=>by simp only[aG]at h1⊢;obtain⟨us,vs,e,h2,h3⟩:=h1;exact⟨us,vs,e,aN.mono h h2,aN.mono h h3⟩
 | .bA t x,_,h1=>by simp only[aG]at h1⊢;obtain⟨u,e,h2⟩:=h1;exact⟨u,e,aG.mono h h2⟩
theorem aN.mono (h:Z.le Z'):∀{x:List CV} {y:List AV},aN Z x y->aN Z' x y
 |[],_,h1=>by simp only[aN]at h1⊢;exact h1
 |_::_,_,h1=>by simp only[aN]at h1⊢;obtain⟨y,r,e,h2,h3⟩:=h1;exact⟨y,r,e,aG.mono h h2,aN.mono h h3⟩
end
theorem aN.length:∀{xs:List CV} {ys:List AV},aN Z xs ys->ys.length=xs.length
 |[],_,h=>by simp only[aN]at h;simp[h]
 |_::_,_,h=>by simp only[aN]at h;obtain⟨y,r,rfl,_,h⟩:=h;simp[aN.length h]
theorem aN.nth:∀{xs:List CV} {ys:List AV} {n:Nat} {x:CV},aN Z xs ys->Bw.nth xs n=some x->∃y,Bw.nth ys n=some y/\aG Z x y
 |[],_,_,_,_,h=>by simp[Bw.nth]at h
 |y::_,ys,0,x,hr,h=>by
  simp only[aN]at hr;obtain⟨v,r,rfl,h1,_⟩:=hr;simp only[Bw.nth,aE]at h;subst h;exact⟨v,by simp[Bw.nth],h1⟩
 |_::xs,ys,n+1,x,hr,h=>by
  simp only[aN]at hr;obtain⟨v,r,rfl,_,h2⟩:=hr;simp only[Bw.nth]at h;obtain⟨u,h3,h4⟩:=aN.nth h2 h;exact⟨u,by simpa[Bw.nth]using h3,h4⟩
theorem aN.drop:∀(n:Nat) {xs:List CV} {ys:List AV},aN Z xs ys->aN Z (xs.drop n) (ys.drop n)
 |0,_,_,h=>by simpa using h
 |n+1,[],_,h=>by simp only[aN]at h;subst h;simp[aN]
 |n+1,_::_,_,h=>by simp only[aN]at h;obtain⟨v,r,rfl,_,h⟩:=h;simpa using aN.drop n h
theorem aN.take:∀(n:Nat) {xs:List CV} {ys:List AV},aN Z xs ys->aN Z (xs.take n) (ys.take n)
 |0,_,_,_=>by simp[aN]
 |n+1,[],_,h=>by simp only[aN]at h;subst h;simp[aN]
 |n+1,_::_,_,h=>by simp only[aN]at h;obtain⟨v,r,rfl,h1,h⟩:=h;simp only[An,aN];exact⟨v,_,rfl,h1,aN.take n h⟩
theorem aN.append:∀{xs xs':List CV} {ys ys':List AV},aN Z xs ys->aN Z xs' ys'->aN Z (xs++xs') (ys++ys')
 |[],_,_,_,h,g=>by simp only[aN]at h;subst h;simpa using g
 |_::_,_,_,_,h,g=>by simp only[aN]at h;obtain⟨v,r,rfl,h1,h⟩:=h;simp only[jJ,aN];exact⟨v,_,rfl,h1,aN.append h g⟩
theorem ir:∀(xs:List AV),aN Z (xs.map .d) xs
 |[]=>by simp[aN]
 |x::r=>by simp only[dY,aN,aG];exact⟨_,_,rfl,rfl,ir r⟩
def fU:List CV->Option (List AV)
 |[]=>some []
 | .d x::r=>match fU r with
  |some xs=>some (x::xs)
  |none=>none
 |_::_=>none
theorem pg:∀{xs:List CV} {ys zs:List AV},fU xs=some zs->aN Z xs ys->ys=zs
 |[],ys,zs,h,hr=>by simp only[fU,aE]at h;simp only[aN]at hr;rw[hr,<-h]
 |x::r,ys,zs,h,hr=>by
  cases x<;>simp only[fU]at h<;>try (cases h;done)
  split at h
  ·rename_i zs' h1;simp only[aE]at h;simp only[aN]at hr;obtain⟨v,r',rfl,h2,h3⟩:=hr;simp only[aG]at h2;rw[h2,pg h1 h3,h]
  ·cases h
def uE (xs:List CV):CV:=match fU xs with
 |some ys=> .d (.agg ys)
 |none=> .agg xs
theorem AK {xs:List CV} {ys:List AV} (h:aN Z xs ys):aG Z (uE xs) (.agg ys):=by
 unfold uE;split
 ·rename_i zs hz;simp only[aG];rw[pg hz h]
 ·simp only[aG];exact⟨ys,rfl,h⟩
def GG (xs:List CV):CV:=match fU xs with
 |some ys=> .d (.bZ ys)
 |none=> .bZ xs
theorem KK {xs:List CV} {ys:List AV} (h:aN Z xs ys):aG Z (GG xs) (.bZ ys):=by
 unfold GG;split
 ·rename_i zs hz;simp only[aG];rw[pg hz h]
 ·simp only[aG];exact⟨ys,rfl,h⟩
end
def Tr.put {D:Type}:Nat->Tr D->Nat->Option D->Tr D
 |0,_,_,_=> .lf
 |f+1,.lf,n,y=> @Bool.rec (λ_=>Tr D) (@Bool.rec (λ_=>Tr D) (.nd none .lf (Tr.put f .lf (Nat.pred (iH n)) y)) (.nd none (Tr.put f .lf (iH n) y) .lf) (Nat.beq (jY n) 1)) (.nd y .lf .lf) (Nat.beq n 0)
 |f+1,.nd x l r,n,y=> @Bool.rec (λ_=>Tr D) (@Bool.rec (λ_=>Tr D) (.nd x l (Tr.put f r (Nat.pred (iH n)) y)) (.nd x (Tr.put f l (iH n) y) r) (Nat.beq (jY n) 1)) (.nd y l r) (Nat.beq n 0)
theorem Tr.ZF {D:Type} (t:Tr D) (n:Nat) (y:Option D):Tr.put 0 t n y= .lf:=rfl
theorem Tr.BW {D:Type} (f n:Nat) (y:Option D):Tr.put (f+1) .lf n y=match Nat.beq n 0 with
  |true=> .nd y .lf .lf
  |false=>match Nat.beq (jY n) 1 with
   |true=> .nd none (Tr.put f .lf (iH n) y) .lf
   |false=> .nd none .lf (Tr.put f .lf (Nat.pred (iH n)) y):=by
 rw[Tr.put]
 all_goals cases Nat.beq n 0
 all_goals first|rfl|(cases Nat.beq (jY n) 1<;>rfl)
theorem Tr.BX {D:Type} (f:Nat) (x:Option D) (l r:Tr D) (n:Nat) (y:Option D):Tr.put (f+1) (.nd x l r) n y=match Nat.beq n 0 with
  |true=> .nd y l r
  |false=>match Nat.beq (jY n) 1 with
   |true=> .nd x (Tr.put f l (iH n) y) r
   |false=> .nd x l (Tr.put f r (Nat.pred (iH n)) y):=by
 rw[Tr.put]
 all_goals cases Nat.beq n 0
 all_goals first|rfl|(cases Nat.beq (jY n) 1<;>rfl)
def Tr.cE {D R:Type}:Nat->Tr D->Nat->Option D->(Tr D->R)->R
 |0,_,_,_,k=>k .lf
 |f+1,.lf,n,y,k=> @Bool.rec (λ_=>R) (@Bool.rec (λ_=>R) (Tr.cE f .lf (Nat.pred (iH n)) y λr=>k (.nd none .lf r)) (Tr.cE f .lf (iH n) y λl=>k (.nd none l .lf)) (Nat.beq (jY n) 1)) (k (.nd y .lf .lf)) (Nat.beq n 0)
 |f+1,.nd x l r,n,y,k=> @Bool.rec (λ_=>R) (@Bool.rec (λ_=>R) (Tr.cE f r (Nat.pred (iH n)) y λr=>k (.nd x l r)) (Tr.cE f l (iH n) y λl=>k (.nd x l r)) (Nat.beq (jY n) 1)) (k (.nd y l r)) (Nat.beq n 0)
theorem Tr.dF {D R:Type}:∀(f:Nat) (t:Tr D) (n:Nat) (y:Option D) (k:Tr D->R),Tr.cE f t n y k=k (Tr.put f t n y)
 |0,_,_,_,_=>rfl
 |f+1,.lf,n,y,k=>by
  rw[Tr.BW,Tr.cE];cases Nat.beq n 0 with
  |true=>rfl
  |false=>cases Nat.beq (jY n) 1<;>exact Tr.dF f _ _ _ _
 |f+1,.nd x l r,n,y,k=>by
  rw[Tr.BX,Tr.cE];cases Nat.beq n 0 with
  |true=>rfl
  |false=>cases Nat.beq (jY n) 1<;>exact Tr.dF f _ _ _ _
theorem gz {n m:Nat} (h:Nat.beq n m=false):n≠m:=λe=>by subst e;rw[Ah]at h;cases h
theorem Tr.put_comm {D:Type}:∀(f:Nat) (t:Tr D) (n m:Nat) (y z:Option D),n≠m->Tr.put f (Tr.put f t n y) m z=Tr.put f (Tr.put f t m z) n y
 |0,_,_,_,_,_,_=>rfl
 |f+1,t,n,m,y,z,hne=>by
  have ih:=λ(t:Tr D) (n m:Nat) (y z:Option D) (h:n≠m)=>Tr.put_comm f t n m y z h;have hL:∀n m:Nat,n≠m->Nat.beq n 0=false->Nat.beq m 0=false->Nat.beq (Nat.mod n 2) 1=true->Nat.beq (Nat.mod m 2) 1=true->Nat.div n 2≠Nat.div m 2:=by
   intro n m h h1 h2 h3 h4;have h3:=bC h3;have h4:=bC h4;change n%2=1 at h3;change m%2=1 at h4;change ¬n/2=m/2;omega
  have hR:∀n m:Nat,n≠m->Nat.beq n 0=false->Nat.beq m 0=false->Nat.beq (Nat.mod n 2) 1=false->Nat.beq (Nat.mod m 2) 1=false->Nat.pred (Nat.div n 2)≠Nat.pred (Nat.div m 2):=by
   intro n m h h1 h2 h3 h4;have h1:=gz h1;have h2:=gz h2;have h3:=gz h3;have h4:=gz h4;change ¬n%2=1 at h3;change ¬m%2=1 at h4;change ¬n/2-1=m/2-1;omega
  cases h1:Nat.beq n 0<;>cases h2:Nat.beq m 0<;>cases h3:Nat.beq (Nat.mod n 2) 1<;>cases h4:Nat.beq (Nat.mod m 2) 1<;>cases t<;>simp only[Tr.BW,Tr.BX,l6,l7,h1,h2,h3,h4]<;>
   first
   |(rw[ih _ _ _ _ _ (hL n m hne h1 h2 h3 h4)];done)
   |(rw[ih _ _ _ _ _ (hR n m hne h1 h2 h3 h4)];done)
   |(exact absurd ((bC h1).trans (bC h2).symm) hne)
   |skip
theorem Tr.fb {D:Type}:∀(f:Nat) (t:Tr D) (n m:Nat) (y:Option D) (z:D),(Tr.put f t n y).get m=some z->(m=n/\y=some z)\/(m≠n/\t.get m=some z)
 |0,_,_,_,_,_,h=>by simp[Tr.ZF,Tr.kK]at h
 |f+1,.lf,n,m,y,z,h=>by
  simp only[Tr.BW,Tr.BX,l6,l7]at h;cases h0:Nat.beq n 0 with
  |true=>
   have:=bC h0;subst this;rw[h0]at h;simp only[Tr.pI,l6,l7]at h;cases hm:Nat.beq m 0 with
   |true=>rw[hm]at h;exact .inl ⟨bC hm,h⟩
   |false=>rw[hm]at h;simp only at h;cases hb:Nat.beq (Nat.mod m 2) 1<;>rw[hb]at h<;>cases h
  |false=>
   have hn:=gz h0;rw[h0]at h;simp only at h;cases h1:Nat.beq (Nat.mod n 2) 1 with
   |true=>
    rw[h1]at h;have h1:=bC h1;simp only[Tr.pI,l6,l7]at h;cases hm:Nat.beq m 0 with
    |true=>rw[hm]at h;cases h
    |false=>
     have hm:=gz hm;simp only[‹Nat.beq m 0=false›]at h;cases hb:Nat.beq (Nat.mod m 2) 1 with
     |true=>
      rw[hb]at h;have hb:=bC hb;rcases Tr.fb f .lf _ _ y z h with⟨h2,h3⟩|⟨_,h3⟩
      ·refine .inl ⟨?_,h3⟩;change n%2=1 at h1;change m%2=1 at hb;change m/2=n/2 at h2;omega
      ·simp[Tr.kK]at h3
     |false=>rw[hb]at h;cases h
   |false=>
    rw[h1]at h;have h1:=gz h1;simp only[Tr.pI,l6,l7]at h;cases hm:Nat.beq m 0 with
    |true=>rw[hm]at h;cases h
    |false=>
     have hm:=gz hm;simp only[‹Nat.beq m 0=false›]at h;cases hb:Nat.beq (Nat.mod m 2) 1 with
     |true=>rw[hb]at h;cases h
     |false=>
      rw[hb]at h;have hb:=gz hb;rcases Tr.fb f .lf _ _ y z h with⟨h2,h3⟩|⟨_,h3⟩
      ·refine .inl ⟨?_,h3⟩;change ¬n%2=1 at h1;change ¬m%2=1 at hb;change m/2-1=n/2-1 at h2;omega
      ·simp[Tr.kK]at h3
 |f+1,.nd x l r,n,m,y,z,h=>by
  simp only[Tr.BW,Tr.BX,l6,l7]at h;cases h0:Nat.beq n 0 with
  |true=>
   have:=bC h0;subst this;rw[h0]at h;simp only[Tr.pI,l6,l7]at h⊢;cases hm:Nat.beq m 0 with
   |true=>rw[hm]at h;exact .inl ⟨bC hm,h⟩
   |false=>rw[hm]at h;exact .inr ⟨gz hm,h⟩
  |false=>
   have hn:=gz h0;rw[h0]at h;simp only at h;cases h1:Nat.beq (Nat.mod n 2) 1 with
   |true=>
    rw[h1]at h;have h1:=bC h1;simp only[Tr.pI,l6,l7]at h⊢;cases hm:Nat.beq m 0 with
    |true=>rw[hm]at h;exact .inr ⟨λe=>hn (by rw[<-e];exact bC hm),h⟩
    |false=>
     rw[hm]at h;simp only at h⊢;have hm:=gz hm;cases hb:Nat.beq (Nat.mod m 2) 1 with
     |true=>
      rw[hb]at h;have hb:=bC hb;change n%2=1 at h1;change m%2=1 at hb;rcases Tr.fb f l _ _ y z h with⟨h2,h3⟩|⟨h2,h3⟩
      ·refine .inl ⟨?_,h3⟩;change m/2=n/2 at h2;omega
      ·refine .inr ⟨?_,h3⟩;change ¬m/2=n/2 at h2;omega
     |false=>
      rw[hb]at h;have hb:=gz hb;change n%2=1 at h1;change ¬m%2=1 at hb;exact .inr ⟨by omega,h⟩
   |false=>
    rw[h1]at h;have h1:=gz h1;simp only[Tr.pI,l6,l7]at h⊢;cases hm:Nat.beq m 0 with
    |true=>rw[hm]at h;exact .inr ⟨λe=>hn (by rw[<-e];exact bC hm),h⟩
    |false=>
     rw[hm]at h;simp only at h⊢;have hm:=gz hm;cases hb:Nat.beq (Nat.mod m 2) 1 with
     |true=>
      rw[hb]at h;have hb:=bC hb;change ¬n%2=1 at h1;change m%2=1 at hb;exact .inr ⟨by omega,h⟩
     |false=>
      rw[hb]at h;have hb:=gz hb;change ¬n%2=1 at h1;change ¬m%2=1 at hb;rcases Tr.fb f r _ _ y z h with⟨h2,h3⟩|⟨h2,h3⟩
      ·refine .inl ⟨?_,h3⟩;change m/2-1=n/2-1 at h2;omega
      ·refine .inr ⟨?_,h3⟩;change ¬m/2-1=n/2-1 at h2;omega
abbrev TS:=Tr CV
inductive bl where
 |box (cs:List CV)
 |row (e k:Nat) (rows:List (List AV))
 |map (es:List (Value×CV))
 |lO (cs:List AV)
 |iL (k:Nat) (rows:List (List AV))
 |set (l:List (List UInt8))
 |jW (l:List Int)
 |gone
structure Hp where
 e:Tr bl
 n:Nat
def jT (Z:aH):List (Value×CV)->List (Value×AV)->Prop
 |[],ys=>ys=[]
 |x::xs,ys=>∃y r,ys=y::r/\y.1=x.1/\aG Z x.2 y.2/\jT Z xs r
theorem jT.mono {Z Z':aH} (h:Z.le Z'):∀{xs:List (Value×CV)} {ys:List (Value×AV)},jT Z xs ys->jT Z' xs ys
 |[],_,h1=>by simp only[jT]at h1⊢;exact h1
 |_::_,_,h1=>by simp only[jT]at h1⊢;obtain⟨y,r,e,h2,h3,h4⟩:=h1;exact⟨y,r,e,h2,h3.mono h,jT.mono h h4⟩
def aas (l:List (List UInt8)):List (Value×AV):=l.map λs=>(.string ⟨⟨s⟩⟩,.v (.bool true))
def rz (l:List Int):List (Value×AV):=l.map λn=>(.int .i64 n,.v (.bool true))
def mo (Z:aH) (i:Nat):bl->au->Prop
 | .box cs,y=>∃b cs',Z.b i=some b/\y= .box b cs'/\aN Z cs cs'
 | .row e k rows,y=>(∃a c,Z.s i rows.length=some (a,c)/\y= .row (.slice a rows.length c) e k rows)/\∀m,rows.length<m->Z.s i m=none
 | .map es,y=>∃b es',Z.b i=some b/\y= .map b es'/\jT Z es es'
 | .lO cs,y=>∃b,Z.b i=some b/\y= .fact (.ip cs) (.pointer (some ⟨b,0,none⟩))
 | .iL k rows,y=>∃a c,Z.s i rows.length=some (a,c)/\y= .fact (.sl k rows) (.slice a rows.length c)
 | .set l,y=>∃b,Z.b i=some b/\y= .map b (aas l)
 | .jW l,y=>∃b,Z.b i=some b/\y= .map b (rz l)
 | .gone,_=>True
theorem mo.mono {Z Z':aH} (h:Z.le Z') {i:Nat} (hi:Z'.s i=Z.s i) {x:bl} {y:au} (hx:mo Z i x y):mo Z' i x y:=by
 cases x with
 |box cs=>obtain⟨b,cs',h1,h2,h3⟩:=hx;exact⟨b,cs',h.1 _ _ h1,h2,h3.mono h⟩
 |row e k rows=>obtain⟨⟨a,c,h1,h2⟩,h3⟩:=hx;exact⟨⟨a,c,by rw[hi];exact h1,h2⟩,λm hm=>by rw[hi];exact h3 m hm⟩
 |map es=>obtain⟨b,es',h1,h2,h3⟩:=hx;exact⟨b,es',h.1 _ _ h1,h2,h3.mono h⟩
 |lO cs=>obtain⟨b,h1,h2⟩:=hx;exact⟨b,h.1 _ _ h1,h2⟩
 |iL k rows=>obtain⟨a,c,h1,h2⟩:=hx;exact⟨a,c,h.2 _ _ _ h1,h2⟩
 |set l=>obtain⟨b,h1,h2⟩:=hx;exact⟨b,h.1 _ _ h1,h2⟩
 |jW l=>obtain⟨b,h1,h2⟩:=hx;exact⟨b,h.1 _ _ h1,h2⟩
 |gone=>trivial
def SS (Z:aH) (O:TS) (s:Sl):Prop:=∀t x,O.get t=some x->∃y,s t=some y/\aG Z x y
theorem SS.mono {Z Z':aH} (h:Z.le Z') {O:TS} {s:Sl} (hs:SS Z O s):SS Z' O s:=λt x hx=>by
 obtain⟨y,h1,h2⟩:=hs t x hx;exact⟨y,h1,h2.mono h⟩
structure HS (Z:aH) (L:Hp) (LB:List au):Prop where
 en:∀i x,L.e.get i=some x->∃y,nth LB i=some y/\mo Z i x y
 len:LB.length=L.n
 gV:∀t,L.n<=t->Z.b t=none/\∀n,Z.s t n=none
def bY (O:TS) (dst:Option Nat) (x:CV):TS:=match dst with
 |some d=>Tr.put 24 O d (some x)
 |none=>O
theorem SS.put {Z:aH} {O:TS} {OB:Sg} (h:SS Z O (look OB)) (dst:Option Nat) {x:CV} {y:AV} (hx:aG Z x y):SS Z (bY O dst x) (look (nL dst y OB)):=by
 cases dst with
 |none=>exact h
 |some d=>
  intro t z hz;rcases Tr.fb 24 O d t (some x) z hz with⟨rfl,h1⟩|⟨hne,h1⟩
  ·cases h1;exact⟨y,by simp[nL,look],hx⟩
  ·obtain⟨u,h2,h3⟩:=h t z h1;refine⟨u,?_,h3⟩;have:Nat.beq d t=false:=by cases hb:Nat.beq d t with
    |false=>rfl
    |true=>exact absurd (bC hb).symm hne
   simp only[nL,look,this];exact h2
inductive DE where
 |norm
 |exit (id:Nat)
 |ret
 |aM (x:CV)
def DE.inst (Z:aH):DE->AE->Prop
 | .norm,e=>e= .norm
 | .exit i,e=>e= .exit i
 | .ret,e=>e= .ret
 | .aM x,e=>∃y,e= .aM y/\aG Z x y
abbrev DQ:=DE->TS->Hp->Prop
def aH.gW (K:Nat) (Z Z':aH):Prop:=∀t,t<K->(∀x,Z.b t=some x->Z'.b t=some x)/\∀n x,Z.s t n=some x->Z'.s t n=some x
theorem aH.gW.refl (K:Nat) (Z:aH):aH.gW K Z Z:=λ_ _=>⟨λ_ h=>h,λ_ _ h=>h⟩
theorem aH.gW.trans {K:Nat} {Z Z' Z'':aH} (h:aH.gW K Z Z') (g:aH.gW K Z' Z''):aH.gW K Z Z'':=λt ht=>⟨λx hx=>(g t ht).1 x ((h t ht).1 x hx),λn x hx=>(g t ht).2 n x ((h t ht).2 n x hx)⟩
theorem aH.le.toK {Z Z':aH} (h:Z.le Z') (K:Nat):aH.gW K Z Z':=λt _=>⟨h.1 t,h.2 t⟩
def lift (K:Nat) (Z:aH) (Q:DQ):AQ:=λe OB LB=>∃Z' d O L,aH.gW K Z Z'/\DE.inst Z' d e/\SS Z' O (look OB)/\HS Z' L LB/\Q d O L
theorem qE {K:Nat} {Z Z':aH} (h:aH.gW K Z Z') {Q Q':DQ} (hq:∀e O L,Q e O L->Q' e O L) {e:AE} {OB:Sg} {LB:List au} (hl:lift K Z' Q e OB LB):lift K Z Q' e OB LB:=by
 obtain⟨Z1,d,O,L,h1,h2,h3,h4,h5⟩:=hl;exact⟨Z1,d,O,L,h.trans h1,h2,h3,h4,hq _ _ _ h5⟩
def DC (E:Env) (N K:Nat) (c:Code) (Q:DQ) (O:TS) (L:Hp):Prop:=∀Z OB LB,SS Z O (look OB)->HS Z L LB->bV E.toCx N c (lift K Z Q) OB LB
def DO (E:Env) (N K:Nat) (all rest:List Oper) (Q:DQ) (O:TS) (L:Hp):Prop:=∀Z OB LB,SS Z O (look OB)->HS Z L LB->bS E.toCx N all.toArray rest (lift K Z Q) OB LB
abbrev DE.then (next:TS->Hp->Prop) (Q:DQ):DQ:=λe O L=>match e with
 | .norm=>next O L
 | .exit i=>Q (.exit i) O L
 | .ret=>Q .ret O L
 | .aM x=>Q (.aM x) O L
abbrev DE.inBlock (id:Nat) (Q:DQ):DQ:=λe O L=>match e with
 | .norm=>Q .norm O L
 | .exit i=>match Nat.beq i id with
  |true=>Q .norm O L
  |false=>Q (.exit i) O L
 | .ret=>Q .ret O L
 | .aM x=>Q (.aM x) O L
section
variable {E:Env} {N K:Nat} {Q:DQ} {O:TS} {L:Hp}
theorem sP {Z:aH} {d:DE} {e:AE} {OB:Sg} {LB:List au} (h:DE.inst Z d e) (hs:SS Z O (look OB)) (hh:HS Z L LB) (hq:Q d O L):lift K Z Q e OB LB:=⟨Z,d,O,L,.refl K Z,h,hs,hh,hq⟩
theorem DC.skip (h:Q .norm O L):DC E N K .skip Q O L:=λZ OB LB hs hh=>bV.skip (sP (d:= .norm) rfl hs hh h)
theorem DC.exit {id:Nat} (h:Q (.exit id) O L):DC E N K (.exit id) Q O L:=λZ OB LB hs hh=>bV.exit (sP (d:= .exit id) rfl hs hh h)
theorem DC.ret (h:Q .ret O L):DC E N K .ret Q O L:=λZ OB LB hs hh=>bV.ret (sP (d:= .ret) rfl hs hh h)
theorem DC.label {l:Nat} (h:Q .norm O L):DC E N K (.label l) Q O L:=λZ OB LB hs hh=>bV.label (sP (d:= .norm) rfl hs hh h)
theorem DC.mono {c:Code} {Q':DQ} (h:DC E N K c Q O L) (hq:∀e O L,Q e O L->Q' e O L):DC E N K c Q' O L:=λZ OB LB hs hh=>
 bV.mono (h Z OB LB hs hh) λ_ _ _ hl=>qE (.refl K Z) hq hl
theorem DC.seq {x y:Code} (h:DC E N K x (DE.then (DC E N K y Q) Q) O L):DC E N K (.seq x y) Q O L:=λZ OB LB hs hh=>by
 refine bV.seq (bV.mono (h Z OB LB hs hh) ?_);rintro e OB' LB' ⟨Z',d,O',L',h1,h2,h3,h4,h5⟩;cases d with
 |norm=>simp only[DE.inst]at h2;subst h2;exact bV.mono (h5 Z' OB' LB' h3 h4) λ_ _ _ hl=>qE h1 (λ_ _ _ h=>h) hl
 |exit i=>simp only[DE.inst]at h2;subst h2;exact⟨Z',.exit i,O',L',h1,rfl,h3,h4,h5⟩
 |ret=>simp only[DE.inst]at h2;subst h2;exact⟨Z',.ret,O',L',h1,rfl,h3,h4,h5⟩
 |aM x=>obtain⟨y,rfl,h2⟩:=h2;exact⟨Z',.aM x,O',L',h1,⟨y,rfl,h2⟩,h3,h4,h5⟩
theorem DC.block {id:Nat} {c:Code} (h:DC E N K c (DE.inBlock id Q) O L):DC E N K (.block id c) Q O L:=λZ OB LB hs hh=>by
 refine bV.block (bV.mono (h Z OB LB hs hh) ?_);rintro e OB' LB' ⟨Z',d,O',L',h1,h2,h3,h4,h5⟩;cases d with
 |norm=>simp only[DE.inst]at h2;subst h2;exact⟨Z',.norm,O',L',h1,rfl,h3,h4,h5⟩
 |exit i=>
  simp only[DE.inst]at h2;subst h2;simp only[DE.inBlock]at h5;simp only[AE.inBlock];cases hb:Nat.beq i id with
  |true=>rw[hb]at h5;exact⟨Z',.norm,O',L',h1,rfl,h3,h4,h5⟩
  |false=>rw[hb]at h5;exact⟨Z',.exit i,O',L',h1,rfl,h3,h4,h5⟩
 |ret=>simp only[DE.inst]at h2;subst h2;exact⟨Z',.ret,O',L',h1,rfl,h3,h4,h5⟩
 |aM x=>obtain⟨y,rfl,h2⟩:=h2;exact⟨Z',.aM x,O',L',h1,⟨y,rfl,h2⟩,h3,h4,h5⟩
theorem DC.region {id:Nat} {l:List Oper} (h:DO E N K l l Q O L):DC E N K (.region id l.toArray false) Q O L:=λZ OB LB hs hh=>bV.region (h Z OB LB hs hh)
theorem DO.nil {all:List Oper} (h:Q .norm O L):DO E N K all [] Q O L:=λZ OB LB hs hh=>bS.nil (sP (d:= .norm) rfl hs hh h)
def aV (O:TS):Operand->Option CV
 | .tmp t=>O.get t
 | .const v=>some (.d (.v v))
 | .global g=>some (.d (.v (.pointer (some ⟨g,0,none⟩))))
 | .func f=>some (.d (.v (.func (.func f) #[] #[])))
theorem b9 {Z:aH} {s:Sl} (hs:SS Z O s) {o:Operand} {x:CV} (h:aV O o=some x):∃y,ev s o=some y/\aG Z x y:=by
 cases o with
 |tmp t=>exact hs t x h
 |const v=>simp only[aV,aE]at h;subst h;exact⟨_,rfl,rfl⟩
 |global g=>simp only[aV,aE]at h;subst h;exact⟨_,rfl,rfl⟩
 |func f=>simp only[aV,aE]at h;subst h;exact⟨_,rfl,rfl⟩
theorem DC.cond {c:Operand} {x y:Code} {t:Bool} (hc:aV O c=some (.d (.v (.bool t)))) (h1:t=true->DC E N K x Q O L) (h2:t=false->DC E N K y Q O L):DC E N K (.cond c x y) Q O L:=
 λZ OB LB hs hh=>by
  obtain⟨z,h3,h4⟩:=b9 hs hc;simp only[aG]at h4;subst h4;exact bV.cond h3 (λht=>h1 ht Z OB LB hs hh) (λht=>h2 ht Z OB LB hs hh)
theorem DC.Zy {c:Nat} {x y:Code} {t:Bool} (hc:O.get c=some (.d (.v (.bool t)))) (h1:t=true->DC E N K x Q (Tr.put 24 O c (some (.d (.v (.bool true))))) L)
  (h2:t=false->DC E N K y Q (Tr.put 24 O c (some (.d (.v (.bool false))))) L):DC E N K (.cond (.tmp c) x y) Q O L:=by
 refine DC.cond hc (λht=>?_) (λht=>?_)
 all_goals
  subst ht;intro Z OB LB hs hh
  first|refine h1 rfl Z OB LB ?_ hh|refine h2 rfl Z OB LB ?_ hh
  intro u z hz;rcases Tr.fb 24 O c u _ z hz with⟨rfl,h3⟩|⟨_,h3⟩
  ·cases h3;exact hs _ _ hc
  ·exact hs _ _ h3
mutual
def km (m:Nat):CV->Bool
 | .d _=>true
 | .agg xs=>p5 m xs
 | .bZ xs=>p5 m xs
 | .own t _=>Nat.blt t m
 | .os t _=>Nat.blt t m
 | .oe t _ _=>Nat.blt t m
 | .om t=>Nat.blt t m
 | .fn _ fs cs=>match p5 m fs with
  |true=>p5 m cs
  |false=>false
 | .bA _ x=>km m x
def p5 (m:Nat):List CV->Bool
 |[]=>true
 |x::r=>match km m x with
  |true=>p5 m r
  |false=>false
end
def IU (m:Nat):bl->Bool
 | .box cs=>p5 m cs
 | .map es=>es.all λp=>km m p.2
 |_=>true
def aH.cut (Z:aH) (m:Nat):aH:=⟨λt=>if t<m then Z.b t else none,λt n=>if t<m then Z.s t n else none⟩
mutual
theorem aG.cut {Z:aH} {m:Nat}:∀{x:CV} {y:AV},km m x=true->aG Z x y->aG (Z.cut m) x y
 | .d x,_,_,h1=>by simp only[aG]at h1⊢;exact h1
 | .agg xs,_,h,h1=>by simp only[aG]at h1⊢;obtain⟨ys,e,h2⟩:=h1;exact⟨ys,e,aN.cut (by simpa[km]using h) h2⟩
 | .bZ xs,_,h,h1=>by simp only[aG]at h1⊢;obtain⟨ys,e,h2⟩:=h1;exact⟨ys,e,aN.cut (by simpa[km]using h) h2⟩
 | .own t o,_,h,h1=>by simp only[aG]at h1⊢;obtain⟨b,t',e,h2⟩:=h1;exact⟨b,t',by simp only[km,lT]at h;simp[aH.cut,h,e],h2⟩
 | .os t n,_,h,h1=>by simp only[aG]at h1⊢;obtain⟨a,c,t',e,h2⟩:=h1;exact⟨a,c,t',by simp only[km,lT]at h;simp[aH.cut,h,e],h2⟩
 | .oe t n o,_,h,h1=>by simp only[aG]at h1⊢;obtain⟨a,c,t',e,h2⟩:=h1;exact⟨a,c,t',by simp only[km,lT]at h;simp[aH.cut,h,e],h2⟩
 | .om t,_,h,h1=>by simp only[aG]at h1⊢;obtain⟨b,t',e,h2⟩:=h1;exact⟨b,t',by simp only[km,lT]at h;simp[aH.cut,h,e],h2⟩
 | .fn f fs cs,_,h,h1=>by
  simp only[km]at h;split at h
  ·rename_i h0;simp only[aG]at h1⊢;obtain⟨us,vs,e,h2,h3⟩:=h1;exact⟨us,vs,e,aN.cut h0 h2,aN.cut h h3⟩
  ·cases h
 | .bA t x,_,h,h1=>by simp only[aG]at h1⊢;obtain⟨u,e,h2⟩:=h1;exact⟨u,e,aG.cut (by simpa[km]using h) h2⟩
theorem aN.cut {Z:aH} {m:Nat}:∀{x:List CV} {y:List AV},p5 m x=true->aN Z x y->aN (Z.cut m) x y
 |[],_,_,h1=>by simp only[aN]at h1⊢;exact h1
 |_::_,_,h,h1=>by
  simp only[p5]at h;split at h
  ·rename_i h0;simp only[aN]at h1⊢;obtain⟨y,r,e,h2,h3⟩:=h1;exact⟨y,r,e,aG.cut h0 h2,aN.cut h h3⟩
  ·cases h
end
theorem jT.cut {Z:aH} {m:Nat}:∀{xs:List (Value×CV)} {ys:List (Value×AV)},(xs.all λp=>km m p.2)=true->jT Z xs ys->jT (Z.cut m) xs ys
 |[],_,_,h1=>by simp only[jT]at h1⊢;exact h1
 |_::_,_,h,h1=>by
  simp only[kx,bG]at h;simp only[jT]at h1⊢;obtain⟨y,r,e,h2,h3,h4⟩:=h1;exact⟨y,r,e,h2,h3.cut h.1,jT.cut h.2 h4⟩
theorem mo.cut {Z:aH} {m i:Nat} (hi:i<m) {x:bl} {y:au} (hb:IU m x=true) (hx:mo Z i x y):mo (Z.cut m) i x y:=by
 have h1:(Z.cut m).b i=Z.b i:=by simp[aH.cut,hi]
 have h2:∀n,(Z.cut m).s i n=Z.s i n:=λn=>by simp[aH.cut,hi]
 cases x with
 |box cs=>obtain⟨b,cs',h3,h4,h5⟩:=hx;exact⟨b,cs',h1.trans h3,h4,h5.cut hb⟩
 |row e k rows=>obtain⟨⟨a,c,h3,h4⟩,h5⟩:=hx;exact⟨⟨a,c,(h2 _).trans h3,h4⟩,λn hn=>(h2 n).trans (h5 n hn)⟩
 |map es=>obtain⟨b,es',h3,h4,h5⟩:=hx;exact⟨b,es',h1.trans h3,h4,h5.cut hb⟩
 |lO cs=>obtain⟨b,h3,h4⟩:=hx;exact⟨b,h1.trans h3,h4⟩
 |iL k rows=>obtain⟨a,c,h3,h4⟩:=hx;exact⟨a,c,(h2 _).trans h3,h4⟩
 |set l=>obtain⟨b,h3,h4⟩:=hx;exact⟨b,h1.trans h3,h4⟩
 |jW l=>obtain⟨b,h3,h4⟩:=hx;exact⟨b,h1.trans h3,h4⟩
 |gone=>trivial
def fh (m:Nat):List Nat->TS->Option (List (Nat×CV))
 |[],_=>some []
 |t::ts,O=>match O.get t,fh m ts O with
  |some x,some r=>match km m x with
   |true=>some ((t,x)::r)
   |false=>none
  |_,_=>none
def ql:List (Nat×CV)->TS
 |[]=> .lf
 |(t,x)::r=>Tr.put 24 (ql r) t (some x)
theorem EC {Z:aH} {m:Nat} {s:Sl} (hs:SS Z O s):∀{ts:List Nat} {l:List (Nat×CV)},fh m ts O=some l->SS (Z.cut m) (ql l) s
 |[],_,h=>by simp only[fh,aE]at h;subst h;intro t x hx;simp[ql,Tr.kK]at hx
 |t::ts,l,h=>by
  simp only[fh]at h;split at h
  ·rename_i x r h1 h2;split at h
   ·rename_i h0;simp only[aE]at h;subst h;intro u z hz;rcases Tr.fb 24 _ t u _ z hz with⟨rfl,h3⟩|⟨_,h3⟩
    ·cases h3;obtain⟨y,h4,h5⟩:=hs _ _ h1;exact⟨y,h4,h5.cut h0⟩
    ·exact EC hs h2 u z h3
   ·cases h
  ·cases h
def w6 (m:Nat) (e:Tr bl):Nat->Option (List bl)
 |0=>some []
 |i+1=>match w6 m e i,e.get i with
  |some l,some x=>match IU m x with
   |true=>some (l++[x])
   |false=>none
  |some l,none=>some (l++[.gone])
  |none,_=>none
def mr (m:Nat) (L:Hp):Option (List bl):=w6 m L.e m
def qk:Nat->List bl->Tr bl
 |_,[]=> .lf
 |i,x::r=>Tr.put 24 (qk (i+1) r) i (some x)
def la (l:List bl):Hp:=⟨qk 0 l,l.length⟩
theorem ML:∀{l:List bl} {i j:Nat} {x:bl},(qk i l).get j=some x->i<=j/\l[j-i]? =some x
 |[],i,j,x,h=>by simp[qk,Tr.kK]at h
 |y::r,i,j,x,h=>by
  simp only[qk]at h;rcases Tr.fb 24 _ i j _ x h with⟨rfl,h1⟩|⟨hne,h1⟩
  ·cases h1;simp
  ·obtain⟨h2,h3⟩:=ML h1;refine⟨by omega,?_⟩;rw[show j-i=(j-(i+1))+1 by omega];simpa using h3
theorem AG {m:Nat} {e:Tr bl}:∀{n:Nat} {l:List bl},w6 m e n=some l->l.length=n/\∀i x,l[i]? =some x->x= .gone\/(e.get i=some x/\IU m x=true)
 |0,l,h=>by simp only[w6,aE]at h;subst h;simp
 |n+1,l,h=>by
  simp only[w6]at h;split at h
  ·rename_i l' x h1 h2;split at h
   ·rename_i h0;simp only[aE]at h;subst h;obtain⟨h3,h4⟩:=AG h1;refine⟨by simp[h3],λi y hy=>?_⟩;rw[acg]at hy;split at hy
    ·exact h4 i y hy
    ·rename_i hi;rw[ach]at hy;split at hy
     ·cases hy;right;rw[<-h2];exact⟨by congr 1;omega,h0⟩
     ·cases hy
   ·cases h
  ·rename_i l' h1 h2;simp only[aE]at h;subst h;obtain⟨h3,h4⟩:=AG h1;refine⟨by simp[h3],λi y hy=>?_⟩;rw[acg]at hy;split at hy
   ·exact h4 i y hy
   ·rw[ach]at hy;split at hy
    ·cases hy;exact .inl rfl
    ·cases hy
  ·cases h
theorem L3 {Z:aH} {m:Nat} {LB:List au} (hh:HS Z L LB) (hm:m<=L.n) {l:List bl} (h:mr m L=some l):HS (Z.cut m) (la l) (LB.take m):=by
 obtain⟨h1,h2⟩:=AG h;refine⟨λi x hx=>?_,by simp[la,h1,hh.len,hm],λt ht=>?_⟩
 ·obtain⟨_,h3⟩:=ML hx;simp only[S3]at h3;have hi:i<m:=by rw[<-h1];exact(cy.1 h3).1
  have hlt:i<LB.length:=by rw[hh.len];omega
  have hn:nth (LB.take m) i=nth LB i:=by rw[cw,cw,lV,cj hi]
  rw[hn];rcases h2 i x h3 with rfl|⟨h4,h5⟩
  ·exact⟨LB[i],by rw[cw];simp[hlt],trivial⟩
  ·obtain⟨y,h6,h7⟩:=hh.en i x h4;exact⟨y,h6,h7.cut hi h5⟩
 ·have:¬t<m:=by simp only[la,h1]at ht;omega
  simp[aH.cut,this]
theorem aH.MM {Z:aH} {m:Nat} (hm:K<=m):aH.gW K Z (Z.cut m):=λt ht=>by
 have:t<m:=by omega
 simp[aH.cut,this]
theorem DC.loop {c:Code} (ts:List Nat) (m:Nat) (I:Nat->List (Nat×CV)->List bl->Prop) (n:Nat) (hK:K<=m) {l:List (Nat×CV)} {es:List bl} (hm:m<=L.n) (hp:fh m ts O=some l) (he:mr m L=some es) (h0:I n l es)
  (round:∀n l es,I n l es->DC E N K c (DE.then (λO1 η1=>∃n',n'<n/\∃l' es',m<=η1.n/\fh m ts O1=some l'/\mr m η1=some es'/\I n' l' es') Q) (ql l) (la es)):DC E N K (.loop c) Q O L:=λZ OB LB hs hh=>by
 refine bV.loop (λn OB LB=>∃Z1 l es,aH.gW K Z Z1/\SS Z1 (ql l) (look OB)/\HS Z1 (la es) (LB.take m)/\I n l es) n ⟨Z.cut m,l,es,aH.MM hK,EC hs hp,L3 hh hm he,h0⟩ ?_;rintro n OB1 LB1 ⟨Z1,l1,es1,h1,h2,h3,h4⟩;refine bV.nI (iU.sub (List.take_sublist m LB1)) (bV.mono (round n l1 es1 h4 Z1 OB1 _ h2 h3) ?_);rintro e OB2 LB2 ⟨Z2,d,O2,L2,g1,g2,g3,g4,g5⟩;cases d with
 |norm=>
  simp only[DE.inst]at g2;subst g2;obtain⟨n',hn,l',es',q1,q2,q3,q4⟩:=g5;exact⟨n',hn,Z2.cut m,l',es',(h1.trans g1).trans (aH.MM hK),EC g3 q2,L3 g4 q1 q3,q4⟩
 |exit i=>simp only[DE.inst]at g2;subst g2;exact⟨Z2,.exit i,O2,L2,h1.trans g1,rfl,g3,g4,g5⟩
 |ret=>simp only[DE.inst]at g2;subst g2;exact⟨Z2,.ret,O2,L2,h1.trans g1,rfl,g3,g4,g5⟩
 |aM x=>obtain⟨y,rfl,g2⟩:=g2;exact⟨Z2,.aM x,O2,L2,h1.trans g1,⟨y,rfl,g2⟩,g3,g4,g5⟩
def pw (E:Env) (N K:Nat) (c:Code) (Q:DQ):Nat->TS->Hp->Prop
 |0=>λ_ _=>False
 |n+1=>DC E N K c (DE.then (pw E N K c Q n) Q)
theorem DC.rounds {c:Code} (n:Nat) (h:pw E N K c Q n O L):DC E N K (.loop c) Q O L:=λZ OB LB hs hh=>by
 refine bV.rounds n ?_;have key:∀n Z1 O L OB LB,aH.gW K Z Z1->SS Z1 O (look OB)->HS Z1 L LB->pw E N K c Q n O L->Bq E.toCx N c (lift K Z Q) n OB LB:=by
  intro n
  induction n with
  |zero=>intro Z1 O L OB LB _ _ _ h;exact h.elim
  |succ n ih=>
   intro Z1 O L OB LB h1 h2 h3 h4;refine bV.mono (h4 Z1 OB LB h2 h3) ?_;rintro e OB2 LB2 ⟨Z2,d,O2,L2,g1,g2,g3,g4,g5⟩;cases d with
   |norm=>simp only[DE.inst]at g2;subst g2;exact ih Z2 O2 L2 _ _ (h1.trans g1) g3 g4 g5
   |exit i=>simp only[DE.inst]at g2;subst g2;exact⟨Z2,.exit i,O2,L2,h1.trans g1,rfl,g3,g4,g5⟩
   |ret=>simp only[DE.inst]at g2;subst g2;exact⟨Z2,.ret,O2,L2,h1.trans g1,rfl,g3,g4,g5⟩
   |aM x=>obtain⟨y,rfl,g2⟩:=g2;exact⟨Z2,.aM x,O2,L2,h1.trans g1,⟨y,rfl,g2⟩,g3,g4,g5⟩
 exact key n Z O L OB LB (.refl K Z) hs hh h
end
theorem bP.mono {C:Cx} {N:Nat} {o:Oper} {s s':Sl} {L:List au} {x:AV} (h:bP C N o s L x) (hs:∀t∈tmpsOf o,∀y,s t=some y->s' t=some y):bP C N o s' L x:=
 λF w a h1 h2 h3 h4=>h F w a h1 h2 h3 λt ht y hy=>h4 t ht y (hs t ht y hy)
theorem bP.XM {C:Cx} {N:Nat} {o:Oper} {s s':Sl} {L:List au} {x:AV} (h:bP C N o s' L x)
  (hs:∀F w a,bI C.G w F L->lB w (Al F L) N a o s->lB w (Al F L) N a o s'):bP C N o s L x:=
 λF w a h1 h2 h3 h4=>h F w a h1 h2 h3 (hs F w a h3 h4)
def ee (O:TS):Sl:=λt=>match O.get t with
 |some (.d x)=>some x
 |_=>none
theorem kL {Z:aH} {O:TS} {s:Sl} (hs:SS Z O s) {t:Nat} {x:AV} (h:ee O t=some x):s t=some x:=by
 unfold ee at h;split at h
 ·rename_i y hy;simp only[aE]at h;subst h;obtain⟨z,h1,h2⟩:=hs t _ hy;simp only[aG]at h2;subst h2;exact h1
 ·cases h
def ba (E:Env) (N:Nat) (o:Oper) (O:TS) (L:Hp) (x:CV):Prop:=∀Z s LB,SS Z O s->HS Z L LB->∃y,aG Z x y/\bP E.toCx N o s LB y
section
variable {E:Env} {N K:Nat} {Q:DQ} {O:TS} {L:Hp} {o:Oper} {x:CV} {all rest:List Oper}
theorem DO.qm (hg:o.guard=none) (hd:cx N o.dst=true) (h:ba E N o O L x) (k:DO E N K all rest Q (bY O o.dst x) L):DO E N K all (o::rest) Q O L:=λZ OB LB hs hh=>by
 obtain⟨y,h1,h2⟩:=h Z _ LB hs hh;exact bS.qm hg hd h2 (k Z _ LB (hs.put o.dst h1) hh)
theorem ba.cB {y:AV} (h:cB E.T (ee O) o.op=some y):ba E N o O L (.d y):=λZ s LB hs _=>⟨y,rfl,(bP.cB h).mono λ_ _ _ hy=>kL hs hy⟩
theorem ba.ec {y:AV} (h:ec E.P E.T (ee O) o.op=some y):ba E N o O L (.d y):=λZ s LB hs _=>⟨y,rfl,(bP.ec h).mono λ_ _ _ hy=>kL hs hy⟩
theorem ba.fP {y:AV} (h:fP E.P (ee O) o.op=some y):ba E N o O L (.d y):=λZ s LB hs _=>⟨y,rfl,(bP.fP h).mono λ_ _ _ hy=>kL hs hy⟩
theorem ba.lN {y:AV} (h:lN E.G E.T (ee O) o.op=some y):ba E N o O L (.d y):=λZ s LB hs _=>⟨y,rfl,(bP.lN h).mono λ_ _ _ hy=>kL hs hy⟩
def dG:CV->List CV
 | .agg xs=>xs
 | .d y=>(cg y).map .d
 |x=>[x]
theorem Ay {Z:aH} {x:CV} {y:AV} (h:aG Z x y):aN Z (dG x) (cg y):=by
 cases x with
 |d z=>simp only[aG]at h;subst h;exact ir _
 |agg xs=>simp only[aG]at h;obtain⟨ys,rfl,h⟩:=h;exact h
 |bZ xs=>have h0:=h;simp only[aG]at h0;obtain⟨ys,rfl,_⟩:=h0;simp only[dG,cg,aN];exact⟨_,_,rfl,h,rfl⟩
 |own t n=>have h0:=h;simp only[aG]at h0;obtain⟨b,t',_,rfl⟩:=h0;simp only[dG,cg,aN];exact⟨_,_,rfl,h,rfl⟩
 |os t n=>have h0:=h;simp only[aG]at h0;obtain⟨a,c,t',_,rfl⟩:=h0;simp only[dG,cg,aN];exact⟨_,_,rfl,h,rfl⟩
 |oe t n m=>have h0:=h;simp only[aG]at h0;obtain⟨a,c,t',_,rfl⟩:=h0;simp only[dG,cg,aN];exact⟨_,_,rfl,h,rfl⟩
 |om t=>have h0:=h;simp only[aG]at h0;obtain⟨b,t',_,rfl⟩:=h0;simp only[dG,cg,aN];exact⟨_,_,rfl,h,rfl⟩
 |fn f fs cs=>have h0:=h;simp only[aG]at h0;obtain⟨us,vs,rfl,_⟩:=h0;simp only[dG,cg,aN];exact⟨_,_,rfl,h,rfl⟩
 |bA t z=>have h0:=h;simp only[aG]at h0;obtain⟨u,rfl,_⟩:=h0;simp only[dG,cg,aN];exact⟨_,_,rfl,h,rfl⟩
def rD:List CV->List CV->Option (List CV)
 |xs,[]=>some xs
 |[],_::_=>none
 |_::xs,y::ys=>match rD xs ys with
  |some r=>some (y::r)
  |none=>none
def l5:List CV->Nat->List CV->Option (List CV)
 |xs,0,ys=>rD xs ys
 |[],_+1,_=>none
 |x::xs,n+1,ys=>match l5 xs n ys with
  |some r=>some (x::r)
  |none=>none
theorem KL {Z:aH}:∀{ys xs r:List CV} {us vs:List AV},rD xs ys=some r->aN Z xs us->aN Z ys vs->∃r',lC us vs=some r'/\aN Z r r'
 |[],xs,r,us,vs,h,hx,hy=>by
  simp only[aN]at hy;subst hy;cases xs<;>simp only[rD,aE]at h<;>subst h
  ·simp only[aN]at hx;subst hx;exact⟨[],rfl,rfl⟩
  ·exact⟨us,by cases us<;>rfl,hx⟩
 |y::ys,[],r,us,vs,h,hx,hy=>by simp[rD]at h
 |y::ys,x::xs,r,us,vs,h,hx,hy=>by
  simp only[rD]at h;split at h
  ·rename_i r' h1;simp only[aE]at h;subst h;simp only[aN]at hx hy;obtain⟨u,ur,rfl,_,hx⟩:=hx;obtain⟨v,vr,rfl,hv,hy⟩:=hy;obtain⟨q,h2,h3⟩:=KL h1 hx hy;exact⟨v::q,by simp[lC,h2],by simp only[aN];exact⟨_,_,rfl,hv,h3⟩⟩
  ·cases h
theorem Au {Z:aH}:∀{n:Nat} {xs ys r:List CV} {us vs:List AV},l5 xs n ys=some r->aN Z xs us->aN Z ys vs->∃r',fc us n vs=some r'/\aN Z r r'
 |0,xs,ys,r,us,vs,h,hx,hy=>by
  have h':rD xs ys=some r:=by cases xs<;>exact h
  obtain⟨q,h1,h2⟩:=KL h' hx hy;exact⟨q,by cases us<;>exact h1,h2⟩
 |n+1,[],ys,r,us,vs,h,hx,hy=>by simp[l5]at h
 |n+1,x::xs,ys,r,us,vs,h,hx,hy=>by
  simp only[l5]at h;split at h
  ·rename_i r' h1;simp only[aE]at h;subst h;simp only[aN]at hx;obtain⟨u,ur,rfl,hu,hx⟩:=hx;obtain⟨q,h2,h3⟩:=Au h1 hx hy;exact⟨u::q,by simp[fc,h2],by simp only[aN];exact⟨_,_,rfl,hu,h3⟩⟩
  ·cases h
def xv (fs:List (Nat×Nat×Nat×Bool)) (O:TS):List CV->List (Nat×Operand)->Option (List CV)
 |cells,[]=>some cells
 |cells,(i,o)::rest=>match nth fs i,aV O o with
  |some (off,_,k,_),some x=>match Nat.beq (dG x).length k,l5 cells off (dG x)with
   |true,some cells'=>xv fs O cells' rest
   |_,_=>none
  |_,_=>none
theorem KM {Z:aH} {s:Sl} (hs:SS Z O s) {fs:List (Nat×Nat×Nat×Bool)}:∀{l:List (Nat×Operand)} {cells r:List CV} {us:List AV},xv fs O cells l=some r->aN Z cells us->∃r',nF fs s us l=some r'/\aN Z r r'
 |[],cells,r,us,h,hr=>by simp only[xv,aE]at h;subst h;exact⟨us,rfl,hr⟩
 |(i,p)::l,cells,r,us,h,hr=>by
  simp only[xv]at h;split at h
  ·rename_i off t k g x h1 h2;split at h
   ·rename_i cells' h3 h4;obtain⟨y,h5,h6⟩:=b9 hs h2;have h7:=Ay h6;obtain⟨q,h8,h9⟩:=Au h4 hr h7;obtain⟨r',h10,h11⟩:=KM hs h h9;refine⟨r',?_,h11⟩;simp only[nF,h1,h5,h7.length,h3,h8,h10]
   ·cases h
  ·cases h
def rO (O:TS):List Operand->Option (List CV)
 |[]=>some []
 |o::r=>match aV O o,rO O r with
  |some x,some xs=>some (x::xs)
  |_,_=>none
theorem sT {Z:aH} {s:Sl} (hs:SS Z O s):∀{os:List Operand} {xs:List CV},rO O os=some xs->∃ys,jb s os=some ys/\aN Z xs ys
 |[],_,h=>by simp only[rO,aE]at h;subst h;exact⟨[],rfl,rfl⟩
 |o::os,xs,h=>by
  simp only[rO]at h;split at h
  ·rename_i x ys h1 h2;simp only[aE]at h;subst h;obtain⟨y,h3,h4⟩:=b9 hs h1;obtain⟨zs,h5,h6⟩:=sT hs h2;exact⟨y::zs,by simp[jb,h3,h5],by simp only[aN];exact⟨_,_,rfl,h4,h6⟩⟩
  ·cases h
def pX:List CV->Bool
 |[]=>false
 | .d _::r=>pX r
 |_::_=>true
theorem Ed {Z:aH}:∀{xs:List CV} {ys:List AV},pX xs=true->aN Z xs ys->oI ys=none
 |[],_,h,_=>by simp[pX]at h
 |x::r,ys,h,hr=>by
  simp only[aN]at hr;obtain⟨y,r',rfl,h1,h2⟩:=hr;cases x with
  |d z=>
   simp only[pX]at h;have:=Ed h h2;cases y<;>simp[oI,this]
  |agg xs=>simp only[aG]at h1;obtain⟨ys,rfl,_⟩:=h1;rfl
  |bZ xs=>simp only[aG]at h1;obtain⟨ys,rfl,_⟩:=h1;rfl
  |own t n=>simp only[aG]at h1;obtain⟨b,t',_,rfl⟩:=h1;rfl
  |os t n=>simp only[aG]at h1;obtain⟨a,c,t',_,rfl⟩:=h1;rfl
  |oe t n m=>simp only[aG]at h1;obtain⟨a,c,t',_,rfl⟩:=h1;rfl
  |om t=>simp only[aG]at h1;obtain⟨b,t',_,rfl⟩:=h1;rfl
  |fn f fs cs=>simp only[aG]at h1;obtain⟨us,vs,rfl,_⟩:=h1;rfl
  |bA t z=>simp only[aG]at h1;obtain⟨u,rfl,_⟩:=h1;rfl
def oP (T:bQ) (O:TS):Op->Option CV
 | .move x=>aV O x
 | .assign x=>aV O x
 | .pick c a b=>match aV O c with
  |some (.d (.v (.bool true)))=>aV O a
  |some (.d (.v (.bool false)))=>aV O b
  |_=>none
 | .extract x i=>match aV O x with
  |some (.bZ xs)=>nth xs i
  |_=>none
 | .field t x f=>match aV O x,aY T t with
  |some (.agg xs),some ⟨.struct fs,_,_,_⟩=>match nth fs f with
   |some (o,_,k,g)=>match g with
    |true=>some (uE ((xs.drop o).take k))
    |false=>nth xs o
   |none=>none
  |_,_=>none
 | .fieldAddr t x f=>match aY T t with
  |some ⟨.struct fs,_,_,_⟩=>match nth fs f with
   |some (off,_,_,_)=>match aV O x with
    |some (.own t o)=>some (.own t (o+off))
    |some (.oe t n o)=>some (.oe t n (o+off))
    |_=>none
   |none=>none
  |_=>none
 | .nilCheck x=>match aV O x with
  |some (.own t o)=>some (.own t o)
  |some (.oe t n o)=>some (.oe t n o)
  |some (.fn f fs cs)=>some (.fn f fs cs)
  |_=>none
 | .makeInterface t x=>match aV O x,aY T t with
  |some _,some ⟨.iface,_,_,_⟩=>none
  |some y,some _=>some (.bA t y)
  |_,_=>none
 | .typeAssert x _ t ok=>match aV O x,aY T t with
  |some (.bA _ _),some ⟨.iface,_,_,_⟩=>none
  |some (.bA u y),some _=>match Nat.beq u t,ok with
   |true,true=>some (.bZ [y,.d (.v (.bool true))])
   |true,false=>some y
   |false,_=>none
  |_,_=>none
 | .makeFunc (.func f) first caps=>match rO O first.toList,rO O caps.toList with
  |some fs,some cs=>match pX fs,pX cs with
   |false,false=>none
   |_,_=>some (.fn f fs cs)
  |_,_=>none
 | .build t parts=>match aY T t with
  |some ⟨.struct fs,_,_,z⟩=>match xv fs O ((z.map .v).map .d) parts.toList with
   |some cells=>some (uE cells)
   |none=>none
  |_=>none
 |_=>none
theorem MF {Z:aH} {s:Sl} (hs:SS Z O s) {T:bQ} {op:Op} (h:oP T O op=some x):∃y,cB T s op=some y/\aG Z x y:=by
 unfold oP at h;split at h
 ·exact b9 hs h
 ·exact b9 hs h
 ·rename_i c a b;split at h
  ·rename_i hc;obtain⟨y,h1,h2⟩:=b9 hs hc;simp only[aG]at h2;subst h2;obtain⟨z,h3,h4⟩:=b9 hs h;exact⟨z,by simp only[cB,h1,h3],h4⟩
  ·rename_i hc;obtain⟨y,h1,h2⟩:=b9 hs hc;simp only[aG]at h2;subst h2;obtain⟨z,h3,h4⟩:=b9 hs h;exact⟨z,by simp only[cB,h1,h3],h4⟩
  ·cases h
 ·rename_i y i;split at h
  ·rename_i xs hy;obtain⟨z,h1,h2⟩:=b9 hs hy;simp only[aG]at h2;obtain⟨ys,rfl,h2⟩:=h2;obtain⟨u,h3,h4⟩:=h2.nth h;exact⟨u,by simp only[cB,h1,h3],h4⟩
  ·cases h
 ·rename_i t y f;split at h
  ·rename_i xs fs _ _ _ hy ht;split at h
   ·rename_i off ft k g hf;obtain⟨z,h1,h2⟩:=b9 hs hy;simp only[aG]at h2;obtain⟨ys,rfl,h2⟩:=h2;split at h
    ·simp only[aE]at h;subst h;exact⟨_,by simp only[cB,h1,ht,hf,uF],AK ((h2.drop off).take k)⟩
    ·obtain⟨u,h3,h4⟩:=h2.nth h;exact⟨u,by simp only[cB,h1,ht,hf,uF,h3],h4⟩
   ·cases h
  ·cases h
 ·rename_i t y f;split at h
  ·rename_i fs _ _ _ ht;split at h
   ·rename_i off ft k g hf;split at h
    ·rename_i tg o hy;simp only[aE]at h;subst h;obtain⟨z,h1,h2⟩:=b9 hs hy;simp only[aG]at h2;obtain⟨b,t',h2,rfl⟩:=h2;exact⟨.own t' b (o+off),by simp only[cB,ht,hf,h1],by simp only[aG];exact⟨b,t',h2,rfl⟩⟩
    ·rename_i tg n o hy;simp only[aE]at h;subst h;obtain⟨z,h1,h2⟩:=b9 hs hy;simp only[aG]at h2;obtain⟨a,c,t',h2,rfl⟩:=h2;exact⟨.oe t' (.slice a n c) (o+off),by simp only[cB,ht,hf,h1],by simp only[aG];exact⟨a,c,t',h2,rfl⟩⟩
    ·cases h
   ·cases h
  ·cases h
 ·rename_i y;split at h
  ·rename_i tg o hy;simp only[aE]at h;subst h;obtain⟨z,h1,h2⟩:=b9 hs hy;have h3:=h2;simp only[aG]at h3;obtain⟨b,t',_,rfl⟩:=h3;exact⟨_,by simp only[cB,h1],h2⟩
  ·rename_i tg n o hy;simp only[aE]at h;subst h;obtain⟨z,h1,h2⟩:=b9 hs hy;have h3:=h2;simp only[aG]at h3;obtain⟨a,c,t',_,rfl⟩:=h3;exact⟨_,by simp only[cB,h1],h2⟩
  ·rename_i f fs cs hy;simp only[aE]at h;subst h;obtain⟨z,h1,h2⟩:=b9 hs hy;have h3:=h2;simp only[aG]at h3;obtain⟨us,vs,rfl,_⟩:=h3;exact⟨_,by simp only[cB,h1],h2⟩
  ·cases h
 ·rename_i t y;split at h
  ·cases h
  ·rename_i u i hne hy ht;simp only[aE]at h;subst h;obtain⟨z,h1,h2⟩:=b9 hs hy;refine⟨.bA t z,?_,by simp only[aG];exact⟨z,rfl,h2⟩⟩;simp only[cB,h1,ht]
  ·cases h
 ·rename_i y xt t ok;split at h
  ·cases h
  ·rename_i u y' i hne hy ht;obtain⟨z,h1,h2⟩:=b9 hs hy;simp only[aG]at h2;obtain⟨z',rfl,h2⟩:=h2;have key:cB T s (.typeAssert y xt t ok)=(match(generalizing:=false) Nat.beq u t,ok with
     |true,true=>some (AV.bZ [z',.v (.bool true)])
     |true,false=>some z'
     |false,_=>none):=by
    simp only[cB,h1,ht];rfl
   rw[key];cases hb:Nat.beq u t with
   |false=>rw[hb]at h;cases h
   |true=>
    rw[hb]at h;cases ok with
    |true=>
     simp only[aE]at h;subst h;refine⟨_,rfl,?_⟩;simp only[aG,aN];exact⟨_,rfl,_,_,rfl,h2,_,_,rfl,rfl,rfl⟩
    |false=>
     simp only[aE]at h;subst h;exact⟨_,rfl,h2⟩
  ·cases h
 ·rename_i f first caps
  split at h
  ·rename_i fs cs h1 h2;obtain⟨us,h3,h4⟩:=sT hs h1;obtain⟨vs,h5,h6⟩:=sT hs h2;split at h
   ·cases h
   ·rename_i hne;simp only[aE]at h;subst h;refine⟨.fn f us vs,?_,by simp only[aG];exact⟨us,vs,rfl,h4,h6⟩⟩;simp only[cB,h3,h5];cases hr:pX fs with
    |true=>rw[Ed hr h4]
    |false=>cases hr':pX cs with
     |true=>rw[Ed hr' h6];cases oI us<;>rfl
     |false=>exact(hne hr hr').elim
  ·cases h
 ·rename_i t parts;split at h
  ·rename_i fs _ _ z ht;split at h
   ·rename_i cells hf;simp only[aE]at h;subst h;obtain⟨r',h1,h2⟩:=KM hs hf (ir _);exact⟨.agg r',by simp only[cB,ht,h1],AK h2⟩
   ·cases h
  ·cases h
 ·cases h
theorem ba.oP (h:oP E.T O o.op=some x):ba E N o O L x:=λZ s LB hs _=>by
 obtain⟨y,h1,h2⟩:=MF hs h;exact⟨y,h2,bP.cB h1⟩
def Ci (T:bQ) (t:TypeId) (cs:List CV) (o:Nat):Option CV:=
 match aY T t with
 |some ⟨d,k,_,_⟩=>match d.agg with
  |true=>match Nat.ble k (cs.drop o).length with
   |true=>some (uE ((cs.drop o).take k))
   |false=>none
  |false=>nth cs o
 |none=>none
theorem Ec:∀{l:List AV} {n:Nat},n<=l.length->fits l n=true
 |_,0,_=>by simp[fits]
 |[],n+1,h=>by simp at h
 |_::r,n+1,h=>by simp only[fits];exact Ec (by simpa using h)
theorem Uf {Z:aH} {T:bQ} {t:TypeId} {cs:List CV} {us:List AV} {off:Nat} (h:Ci T t cs off=some x) (hc:aN Z cs us):∃y,jo T t us off=some y/\aG Z x y:=by
 unfold Ci at h;split at h
 ·rename_i d k b z ht;split at h
  ·rename_i hd;split at h
   ·rename_i hle;simp only[aE]at h;subst h;have hle:=dJ hle;refine⟨.agg ((us.drop off).take k),?_,AK ((hc.drop off).take k)⟩;simp only[jo,ht,hd];rw[Ec (by rw[(hc.drop off).length];exact hle)]
   ·cases h
  ·rename_i hd;obtain⟨y,h1,h2⟩:=hc.nth h;exact⟨y,by simp only[jo,ht,hd,h1],h2⟩
 ·cases h
theorem KN {p:Operand} (h:aV O p=some x) (hx:∀y,x≠ .d y):∃t,p= .tmp t/\O.get t=some x:=by
 cases p with
 |tmp t=>exact⟨t,rfl,h⟩
 |const v=>simp only[aV,aE]at h;exact(hx _ h.symm).elim
 |global g=>simp only[aV,aE]at h;exact(hx _ h.symm).elim
 |func f=>simp only[aV,aE]at h;exact(hx _ h.symm).elim
theorem ba.load {t:TypeId} {p:Operand} {i off:Nat} {cs:List CV} (ho:o.op= .load t p) (hp:aV O p=some (.own i off)) (hi:L.e.get i=some (.box cs)) (hl:Ci E.T t cs off=some x):ba E N o O L x:=λZ s LB hs hh=>by
 obtain⟨y,h1,h2⟩:=b9 hs hp;simp only[aG]at h2;obtain⟨b,t',h3,rfl⟩:=h2;obtain⟨z,h4,h5⟩:=hh.en i _ hi;obtain⟨b',cs',h6,rfl,h7⟩:=h5;rw[h3]at h6;cases h6;obtain⟨q,h8,h9⟩:=Uf hl h7;exact⟨q,h9,bP.oQ (VM ho (by rw[fH (by simp[ho,Op.operands])];exact h1) h4 h8)⟩
def gH (s:Sl) (t:Nat) (x:AV):Sl:=λu=>if u=t then some x else s u
theorem bP.known {C:Cx} {s:Sl} {LB:List au} {t:Nat} {x:AV} {y z:AV} (h:bP C N o (gH s t z) LB x) (ht:s t=some y) (hk:∀F w v,bI C.G w F LB->Rel w (Al F LB) y v->Rel w (Al F LB) z v):bP C N o s LB x:=
 h.XM λF w a hh hs u hu q hq=>by
  unfold gH at hq;split at hq
  ·rename_i hut;subst hut;simp only[aE]at hq;subst hq;obtain⟨h1,h2⟩:=hs u hu y ht;exact⟨h1,hk F w _ hh h2⟩
  ·exact hs u hu q hq
theorem qP {G:Gl} {w:World} {F:Nat->Prop} {LB:List au} (hh:bI G w F LB) {i:Nat} {x:AV} {v:Value} (h:nth LB i=some (.fact x v)):Rel w (Al F LB) x v:=ji hh h
theorem Rel.Fq {w:World} {A:Nat->Prop} {cs:List AV} {b:Nat} (off:Nat) (h:Rel w A (.ip cs) (.pointer (some ⟨b,0,none⟩))):Rel w A (.ip (cs.drop off)) (.pointer (some ⟨b,off,none⟩)):=by
 simp only[Rel]at h⊢;obtain⟨b',o',vs,e1,e2,e3,e4⟩:=h;cases e1;exact⟨b,off,vs.drop off,rfl,e2,e3.drop off,λj u hj=>by rw[vK]at hj;have:=e4 _ _ hj;simpa using this⟩
theorem ba.ZA {t:TypeId} {p:Operand} {i off:Nat} {cs:List AV} {y:AV} (ho:o.op= .load t p) (hp:aV O p=some (.own i off)) (hi:L.e.get i=some (.lO cs)) (hl:jo E.T t (cs.drop off) 0=some y):ba E N o O L (.d y):=λZ s LB hs hh=>by
 obtain⟨u,rfl,hu⟩:=KN hp (λ_ h=>by cases h);obtain⟨z,h1,h2⟩:=hs u _ hu;simp only[aG]at h2;obtain⟨b,t',h3,rfl⟩:=h2;obtain⟨z,h4,h5⟩:=hh.en i _ hi;obtain⟨b',h6,rfl⟩:=h5;rw[h3]at h6;cases h6;refine⟨y,rfl,bP.known (t:=u) (z:= .ip (cs.drop off)) (bP.cB ?_) h1 λF w v hH hr=>?_⟩
 ·rw[ho];unfold jo at hl;simp only[Bw.cB,ev,gH,if_true];split at hl
  ·rename_i d k b z ht;simp only[ht];simp only[List.drop_zero]at hl;rw[<-hl];cases d.agg<;>rfl
  ·cases hl
 ·simp only[Rel]at hr;subst hr;exact(qP hH h4).Fq off
theorem ba.len {t:TypeId} {p:Operand} {i n e k sz by':Nat} {z:List Value} (ho:o.op= .call {callee:= .builtin .len,args:= #[p],argTypes:= #[t]}) (hp:aV O p=some (.os i n)) (ht:aY E.T t=some ⟨.slice e k,sz,by',z⟩):ba E N o O L (.d (.v (.int .i64 (n:Int)))):=λZ s LB hs _=>by
 obtain⟨y,h1,h2⟩:=b9 hs hp;simp only[aG]at h2;obtain⟨a,c,t',h3,rfl⟩:=h2;exact⟨_,rfl,bP.len ho h1 (by simp[uN,ht])⟩
theorem ba.aar {t:TypeId} {p:Operand} {y:AV} {n:Int} (ho:o.op= .call {callee:= .builtin .len,args:= #[p],argTypes:= #[t]}) (hp:aV O p=some (.d y)) (hl:uN E.T t y=some n):ba E N o O L (.d (.v (.int .i64 n))):=λZ s LB hs _=>by
 obtain⟨z,h1,h2⟩:=b9 hs hp;simp only[aG]at h2;subst h2;exact⟨_,rfl,bP.len ho h1 hl⟩
theorem ba.Oa {t:TypeId} {p ix:Operand} {i n e k sz by':Nat} {z:List Value} {rows:List (List AV)} {kd:IntKind} {m:Int} (j:Nat) (ho:o.op= .indexAddr t p ix) (hp:aV O p=some (.os i n)) (hi:L.e.get i=some (.row e k rows)) (hn:n=rows.length)
  (ht:aY E.T t=some ⟨.slice e k,sz,by',z⟩) (hix:aV O ix=some (.d (.v (.int kd m)))) (hm:m=(j:Int)) (hj:j<rows.length):ba E N o O L (.oe i n (j*k)):=λZ s LB hs hh=>by
 obtain⟨y,h1,h2⟩:=b9 hs hp;simp only[aG]at h2;obtain⟨a,c,t',h3,rfl⟩:=h2;obtain⟨y',h4,h5⟩:=b9 hs hix;simp only[aG]at h5;subst h5;obtain⟨q,h6,h7⟩:=hh.en i _ hi;obtain⟨⟨a',c',h8,rfl⟩,_⟩:=h7;subst hn;rw[h3]at h8;cases h8;refine⟨.oe i (.slice a rows.length c) (j*k),by simp only[aG];exact⟨a,c,i,h3,rfl⟩,?_⟩;exact bP.oQ (Ug ho j ht (by rw[fH (by simp[ho,Op.operands])];exact h1) h6 (by rw[fH (by simp[ho,Op.operands])];exact h4) hm hj)
theorem ba.MG {t:TypeId} {p:Operand} {i n m e k:Nat} {rows:List (List AV)} {r:List AV} {y:AV} (j off:Nat) (ho:o.op= .load t p) (hp:aV O p=some (.oe i n m)) (hi:L.e.get i=some (.row e k rows)) (hn:n=rows.length) (hm:m=j*k+off) (hr:rows[j]? =some r)
  (hl:jo E.T t r off=some y):ba E N o O L (.d y):=λZ s LB hs hh=>by
 obtain⟨z,h1,h2⟩:=b9 hs hp;simp only[aG]at h2;obtain⟨a,c,t',h3,rfl⟩:=h2;obtain⟨q,h6,h7⟩:=hh.en i _ hi;obtain⟨⟨a',c',h8,rfl⟩,_⟩:=h7;subst hn;rw[h3]at h8;cases h8;exact⟨y,rfl,bP.oQ (TN ho j off (by rw[fH (by simp[ho,Op.operands])];exact h1) hm h6 hr hl)⟩
theorem ba.aaq {t:TypeId} {p ix:Operand} {i n e k sz by':Nat} {z:List Value} {rows:List (List AV)} {r:List AV} {kd:IntKind} {m:Int} (j:Nat) (ho:o.op= .indexAddr t p ix) (hp:aV O p=some (.os i n)) (hi:L.e.get i=some (.iL k rows)) (hn:n=rows.length)
  (ht:aY E.T t=some ⟨.slice e k,sz,by',z⟩) (hix:aV O ix=some (.d (.v (.int kd m)))) (hm:m=(j:Int)) (hr:rows[j]? =some r):ba E N o O L (.d (.ip r)):=λZ s LB hs hh=>by
 obtain⟨u,rfl,hu⟩:=KN hp (λ_ h=>by cases h);obtain⟨y,h1,h2⟩:=hs u _ hu;simp only[aG]at h2;obtain⟨a,c,t',h3,rfl⟩:=h2;obtain⟨q,h6,h7⟩:=hh.en i _ hi;obtain⟨a',c',h8,rfl⟩:=h7;subst hn;rw[h3]at h8;cases h8;obtain⟨y',h4,h5⟩:=b9 hs hix;simp only[aG]at h5;subst h5;subst hm;refine⟨.ip r,rfl,bP.known (t:=u) (z:= .sl k rows) ?_ h1 λF w v hH hrl=>?_⟩
 ·refine bP.ec (E:=E) ?_;have hev:ev (gH s u (.sl k rows)) ix=some (.v (.int kd (j:Int))):=by
   cases ix with
   |tmp q=>
    simp only[ev,gH]at h4⊢;split
    ·rename_i hq;subst hq;rw[h1]at h4;cases h4
    ·exact h4
   |const v=>exact h4
   |global g=>exact h4
   |func f=>exact h4
  have hnat:nJ (some (.v (.int kd (j:Int))))=some j:=rfl;rw[ho];simp only[Bw.ec,hev,hnat,ht,Ah,cw];simp[ev,gH,hr]
 ·simp only[Rel]at hrl;subst hrl;exact qP hH h6
