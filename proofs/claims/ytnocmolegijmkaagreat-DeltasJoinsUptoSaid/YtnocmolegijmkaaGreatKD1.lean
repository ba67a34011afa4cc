/- An abstract machine over the program logic: its values name own blocks by tags, so that its steps can be computed. First part: values, slots, heap, what they say, the judgement. -/
import Derived.Test.YtnocmolegijmkaaGreatKB10
set_option linter.all false
noncomputable section
namespace Go.Bw
open Go
inductive CV where
 |d (x:AV)
 |agg (xs:List CV)
 |bY (xs:List CV)
 |own (t off:Nat)
 |os (t n:Nat)
 |oe (t n off:Nat)
 |om (t:Nat)
 |fn (f:FuncId) (fs cs:List CV)
 |bP (ty:TypeId) (x:CV)
structure aN where
 b:Nat->Option Nat
 s:Nat->Nat->Option (Option Addr×Nat)
def aN.le (Z Z':aN):Prop:=(∀t x,Z.b t=some x->Z'.b t=some x)/\∀t n x,Z.s t n=some x->Z'.s t n=some x
theorem aN.le.refl (Z:aN):Z.le Z:=⟨λ_ _ h=>h,λ_ _ _ h=>h⟩
theorem aN.le.trans {Z Z' Z'':aN} (h:Z.le Z') (g:Z'.le Z''):Z.le Z'':=⟨λt x hx=>g.1 t x (h.1 t x hx),λt n x hx=>g.2 t n x (h.2 t n x hx)⟩
mutual
def aK (Z:aN):CV->AV->Prop
 | .d x,y=>y=x
 | .agg xs,y=>∃ys,y= .agg ys/\aS Z xs ys
 | .bY xs,y=>∃ys,y= .bY ys/\aS Z xs ys
 | .own t o,y=>∃b t',Z.b t=some b/\y= .own t' b o
 | .os t n,y=>∃a c t',Z.s t n=some (a,c)/\y= .os t' a n c
 | .oe t n o,y=>∃a c t',Z.s t n=some (a,c)/\y= .oe t' (.slice a n c) o
 | .om t,y=>∃b t',Z.b t=some b/\y= .om t' b
 | .fn f fs cs,y=>∃us vs,y= .fn f us vs/\aS Z fs us/\aS Z cs vs
 | .bP t x,y=>∃u,y= .bP t u/\aK Z x u
def aS (Z:aN):List CV->List AV->Prop
 |[],ys=>ys=[]
 |x::xs,ys=>∃y r,ys=y::r/\aK Z x y/\aS Z xs r
end
section
variable {Z Z':aN}
mutual
theorem aK.mono (h:Z.le Z'):∀{x:CV} {y:AV},aK Z x y->aK Z' x y
 | .d x,_,h1=>by simp only[aK]at h1⊢;exact h1
 | .agg xs,_,h1=>by simp only[aK]at h1⊢;obtain⟨ys,e,h2⟩:=h1;exact⟨ys,e,aS.mono h h2⟩
 | .bY xs,_,h1=>by simp only[aK]at h1⊢;obtain⟨ys,e,h2⟩:=h1;exact⟨ys,e,aS.mono h h2⟩
 | .own t o,_,h1=>by simp only[aK]at h1⊢;obtain⟨b,t',e,h2⟩:=h1;exact⟨b,t',h.1 _ _ e,h2⟩
 | .os t n,_,h1=>by simp only[aK]at h1⊢;obtain⟨a,c,t',e,h2⟩:=h1;exact⟨a,c,t',h.2 _ _ _ e,h2⟩
 | .oe t n o,_,h1=>by simp only[aK]at h1⊢;obtain⟨a,c,t',e,h2⟩:=h1;exact⟨a,c,t',h.2 _ _ _ e,h2⟩
 | .om t,_,h1=>by simp only[aK]at h1⊢;obtain⟨b,t',e,h2⟩:=h1;exact⟨b,t',h.1 _ _ e,h2⟩
 | .fn f fs cs,_,h1=>by simp only[aK]at h1⊢;obtain⟨us,vs,e,h2,h3⟩:=h1;exact⟨us,vs,e,aS.mono h h2,aS.mono h h3⟩
 | .bP t x,_,h1=>by simp only[aK]at h1⊢;obtain⟨u,e,h2⟩:=h1;exact⟨u,e,aK.mono h h2⟩
theorem aS.mono (h:Z.le Z'):∀{x:List CV} {y:List AV},aS Z x y->aS Z' x y
 |[],_,h1=>by simp only[aS]at h1⊢;exact h1
 |_::_,_,h1=>by simp only[aS]at h1⊢;obtain⟨y,r,e,h2,h3⟩:=h1;exact⟨y,r,e,aK.mono h h2,aS.mono h h3⟩
end
theorem aS.length:∀{xs:List CV} {ys:List AV},aS Z xs ys->ys.length=xs.length
 |[],_,h=>by simp only[aS]at h;simp[h]
 |_::_,_,h=>by simp only[aS]at h;obtain⟨y,r,rfl,_,h⟩:=h;simp[aS.length h]
theorem aS.nth:∀{xs:List CV} {ys:List AV} {n:Nat} {x:CV},aS Z xs ys->Bw.nth xs n=some x->∃y,Bw.nth ys n=some y/\aK Z x y
 |[],_,_,_,_,h=>by simp[Bw.nth]at h
 |y::_,ys,0,x,hr,h=>by
  simp only[aS]at hr;obtain⟨v,r,rfl,h1,_⟩:=hr;simp only[Bw.nth,aE]at h;subst h;exact⟨v,by simp[Bw.nth],h1⟩
 |_::xs,ys,n+1,x,hr,h=>by
  simp only[aS]at hr;obtain⟨v,r,rfl,_,h2⟩:=hr;simp only[Bw.nth]at h;obtain⟨u,h3,h4⟩:=aS.nth h2 h;exact⟨u,by simpa[Bw.nth]using h3,h4⟩
theorem aS.drop:∀(n:Nat) {xs:List CV} {ys:List AV},aS Z xs ys->aS Z (xs.drop n) (ys.drop n)
 |0,_,_,h=>by simpa using h
 |n+1,[],_,h=>by simp only[aS]at h;subst h;simp[aS]
 |n+1,_::_,_,h=>by simp only[aS]at h;obtain⟨v,r,rfl,_,h⟩:=h;simpa using aS.drop n h
theorem aS.take:∀(n:Nat) {xs:List CV} {ys:List AV},aS Z xs ys->aS Z (xs.take n) (ys.take n)
 |0,_,_,_=>by simp[aS]
 |n+1,[],_,h=>by simp only[aS]at h;subst h;simp[aS]
 |n+1,_::_,_,h=>by simp only[aS]at h;obtain⟨v,r,rfl,h1,h⟩:=h;simp only[xN,aS];exact⟨v,_,rfl,h1,aS.take n h⟩
theorem aS.append:∀{xs xs':List CV} {ys ys':List AV},aS Z xs ys->aS Z xs' ys'->aS Z (xs++xs') (ys++ys')
 |[],_,_,_,h,g=>by simp only[aS]at h;subst h;simpa using g
 |_::_,_,_,_,h,g=>by simp only[aS]at h;obtain⟨v,r,rfl,h1,h⟩:=h;simp only[ko,aS];exact⟨v,_,rfl,h1,aS.append h g⟩
theorem jv:∀(xs:List AV),aS Z (xs.map .d) xs
 |[]=>by simp[aS]
 |x::r=>by simp only[dp,aS,aK];exact⟨_,_,rfl,rfl,jv r⟩
def iT:List CV->Option (List AV)
 |[]=>some []
 | .d x::r=>match iT r with
  |some xs=>some (x::xs)
  |none=>none
 |_::_=>none
theorem pK:∀{xs:List CV} {ys zs:List AV},iT xs=some zs->aS Z xs ys->ys=zs
 |[],ys,zs,h,hr=>by simp only[iT,aE]at h;simp only[aS]at hr;rw[hr,<-h]
 |x::r,ys,zs,h,hr=>by
  cases x<;>simp only[iT]at h<;>try (cases h;done)
  split at h
  ·rename_i zs' h1;simp only[aE]at h;simp only[aS]at hr;obtain⟨v,r',rfl,h2,h3⟩:=hr;simp only[aK]at h2;rw[h2,pK h1 h3,h]
  ·cases h
def wh (xs:List CV):CV:=match iT xs with
 |some ys=> .d (.agg ys)
 |none=> .agg xs
theorem D9 {xs:List CV} {ys:List AV} (h:aS Z xs ys):aK Z (wh xs) (.agg ys):=by
 unfold wh;split
 ·rename_i zs hz;simp only[aK];rw[pK hz h]
 ·simp only[aK];exact⟨ys,rfl,h⟩
def Kx (xs:List CV):CV:=match iT xs with
 |some ys=> .d (.bY ys)
 |none=> .bY xs
theorem PS {xs:List CV} {ys:List AV} (h:aS Z xs ys):aK Z (Kx xs) (.bY ys):=by
 unfold Kx;split
 ·rename_i zs hz;simp only[aK];rw[pK hz h]
 ·simp only[aK];exact⟨ys,rfl,h⟩
end
def Tr.put {D:Type}:Nat->Tr D->Nat->Option D->Tr D
 |0,_,_,_=> .lf
 |f+1,.lf,n,y=> @Bool.rec (λ_=>Tr D) (@Bool.rec (λ_=>Tr D) (.nd none .lf (Tr.put f .lf (Nat.pred (jE n)) y)) (.nd none (Tr.put f .lf (jE n) y) .lf) (Nat.beq (lg n) 1)) (.nd y .lf .lf) (Nat.beq n 0)
 |f+1,.nd x l r,n,y=> @Bool.rec (λ_=>Tr D) (@Bool.rec (λ_=>Tr D) (.nd x l (Tr.put f r (Nat.pred (jE n)) y)) (.nd x (Tr.put f l (jE n) y) r) (Nat.beq (lg n) 1)) (.nd y l r) (Nat.beq n 0)
theorem Tr.agQ {D:Type} (t:Tr D) (n:Nat) (y:Option D):Tr.put 0 t n y= .lf:=rfl
theorem Tr.FC {D:Type} (f n:Nat) (y:Option D):Tr.put (f+1) .lf n y=match Nat.beq n 0 with
  |true=> .nd y .lf .lf
  |false=>match Nat.beq (lg n) 1 with
   |true=> .nd none (Tr.put f .lf (jE n) y) .lf
   |false=> .nd none .lf (Tr.put f .lf (Nat.pred (jE n)) y):=by
 rw[Tr.put]
 all_goals cases Nat.beq n 0
 all_goals first|rfl|(cases Nat.beq (lg n) 1<;>rfl)
theorem Tr.FD {D:Type} (f:Nat) (x:Option D) (l r:Tr D) (n:Nat) (y:Option D):Tr.put (f+1) (.nd x l r) n y=match Nat.beq n 0 with
  |true=> .nd y l r
  |false=>match Nat.beq (lg n) 1 with
   |true=> .nd x (Tr.put f l (jE n) y) r
   |false=> .nd x l (Tr.put f r (Nat.pred (jE n)) y):=by
 rw[Tr.put]
 all_goals cases Nat.beq n 0
 all_goals first|rfl|(cases Nat.beq (lg n) 1<;>rfl)
def Tr.dc {D R:Type}:Nat->Tr D->Nat->Option D->(Tr D->R)->R
 |0,_,_,_,k=>k .lf
 |f+1,.lf,n,y,k=> @Bool.rec (λ_=>R) (@Bool.rec (λ_=>R) (Tr.dc f .lf (Nat.pred (jE n)) y λr=>k (.nd none .lf r)) (Tr.dc f .lf (jE n) y λl=>k (.nd none l .lf)) (Nat.beq (lg n) 1)) (k (.nd y .lf .lf)) (Nat.beq n 0)
 |f+1,.nd x l r,n,y,k=> @Bool.rec (λ_=>R) (@Bool.rec (λ_=>R) (Tr.dc f r (Nat.pred (jE n)) y λr=>k (.nd x l r)) (Tr.dc f l (jE n) y λl=>k (.nd x l r)) (Nat.beq (lg n) 1)) (k (.nd y l r)) (Nat.beq n 0)
theorem Tr.eB {D R:Type}:∀(f:Nat) (t:Tr D) (n:Nat) (y:Option D) (k:Tr D->R),Tr.dc f t n y k=k (Tr.put f t n y)
 |0,_,_,_,_=>rfl
 |f+1,.lf,n,y,k=>by
  rw[Tr.FC,Tr.dc];cases Nat.beq n 0 with
  |true=>rfl
  |false=>cases Nat.beq (lg n) 1<;>exact Tr.eB f _ _ _ _
 |f+1,.nd x l r,n,y,k=>by
  rw[Tr.FD,Tr.dc];cases Nat.beq n 0 with
  |true=>rfl
  |false=>cases Nat.beq (lg n) 1<;>exact Tr.eB f _ _ _ _
theorem iP {n m:Nat} (h:Nat.beq n m=false):n≠m:=λe=>by subst e;rw[DF]at h;cases h
theorem Tr.put_comm {D:Type}:∀(f:Nat) (t:Tr D) (n m:Nat) (y z:Option D),n≠m->Tr.put f (Tr.put f t n y) m z=Tr.put f (Tr.put f t m z) n y
 |0,_,_,_,_,_,_=>rfl
 |f+1,t,n,m,y,z,hne=>by
  have ih:=λ(t:Tr D) (n m:Nat) (y z:Option D) (h:n≠m)=>Tr.put_comm f t n m y z h;have hL:∀n m:Nat,n≠m->Nat.beq n 0=false->Nat.beq m 0=false->Nat.beq (Nat.mod n 2) 1=true->Nat.beq (Nat.mod m 2) 1=true->Nat.div n 2≠Nat.div m 2:=by
   intro n m h h1 h2 h3 h4;have h3:=bQ h3;have h4:=bQ h4;change n%2=1 at h3;change m%2=1 at h4;change ¬n/2=m/2;omega
  have hR:∀n m:Nat,n≠m->Nat.beq n 0=false->Nat.beq m 0=false->Nat.beq (Nat.mod n 2) 1=false->Nat.beq (Nat.mod m 2) 1=false->Nat.pred (Nat.div n 2)≠Nat.pred (Nat.div m 2):=by
   intro n m h h1 h2 h3 h4;have h1:=iP h1;have h2:=iP h2;have h3:=iP h3;have h4:=iP h4;change ¬n%2=1 at h3;change ¬m%2=1 at h4;change ¬n/2-1=m/2-1;omega
  cases h1:Nat.beq n 0<;>cases h2:Nat.beq m 0<;>cases h3:Nat.beq (Nat.mod n 2) 1<;>cases h4:Nat.beq (Nat.mod m 2) 1<;>cases t<;>simp only[Tr.FC,Tr.FD,mL,mM,h1,h2,h3,h4]<;>
   first
   |(rw[ih _ _ _ _ _ (hL n m hne h1 h2 h3 h4)];done)
   |(rw[ih _ _ _ _ _ (hR n m hne h1 h2 h3 h4)];done)
   |(exact absurd ((bQ h1).trans (bQ h2).symm) hne)
   |skip
theorem Tr.fy {D:Type}:∀(f:Nat) (t:Tr D) (n m:Nat) (y:Option D) (z:D),(Tr.put f t n y).get m=some z->(m=n/\y=some z)\/(m≠n/\t.get m=some z)
 |0,_,_,_,_,_,h=>by simp[Tr.agQ,Tr.lI]at h
 |f+1,.lf,n,m,y,z,h=>by
  simp only[Tr.FC,Tr.FD,mL,mM]at h;cases h0:Nat.beq n 0 with
  |true=>
   have:=bQ h0;subst this;rw[h0]at h;simp only[Tr.qe,mL,mM]at h;cases hm:Nat.beq m 0 with
   |true=>rw[hm]at h;exact .inl ⟨bQ hm,h⟩
   |false=>rw[hm]at h;simp only at h;cases hb:Nat.beq (Nat.mod m 2) 1<;>rw[hb]at h<;>cases h
  |false=>
   have hn:=iP h0;rw[h0]at h;simp only at h;cases h1:Nat.beq (Nat.mod n 2) 1 with
   |true=>
    rw[h1]at h;have h1:=bQ h1;simp only[Tr.qe,mL,mM]at h;cases hm:Nat.beq m 0 with
    |true=>rw[hm]at h;cases h
    |false=>
     have hm:=iP hm;simp only[‹Nat.beq m 0=false›]at h;cases hb:Nat.beq (Nat.mod m 2) 1 with
     |true=>
      rw[hb]at h;have hb:=bQ hb;rcases Tr.fy f .lf _ _ y z h with⟨h2,h3⟩|⟨_,h3⟩
      ·refine .inl ⟨?_,h3⟩;change n%2=1 at h1;change m%2=1 at hb;change m/2=n/2 at h2;omega
      ·simp[Tr.lI]at h3
     |false=>rw[hb]at h;cases h
   |false=>
    rw[h1]at h;have h1:=iP h1;simp only[Tr.qe,mL,mM]at h;cases hm:Nat.beq m 0 with
    |true=>rw[hm]at h;cases h
    |false=>
     have hm:=iP hm;simp only[‹Nat.beq m 0=false›]at h;cases hb:Nat.beq (Nat.mod m 2) 1 with
     |true=>rw[hb]at h;cases h
     |false=>
      rw[hb]at h;have hb:=iP hb;rcases Tr.fy f .lf _ _ y z h with⟨h2,h3⟩|⟨_,h3⟩
      ·refine .inl ⟨?_,h3⟩;change ¬n%2=1 at h1;change ¬m%2=1 at hb;change m/2-1=n/2-1 at h2;omega
      ·simp[Tr.lI]at h3
 |f+1,.nd x l r,n,m,y,z,h=>by
  simp only[Tr.FC,Tr.FD,mL,mM]at h;cases h0:Nat.beq n 0 with
  |true=>
   have:=bQ h0;subst this;rw[h0]at h;simp only[Tr.qe,mL,mM]at h⊢;cases hm:Nat.beq m 0 with
   |true=>rw[hm]at h;exact .inl ⟨bQ hm,h⟩
   |false=>rw[hm]at h;exact .inr ⟨iP hm,h⟩
  |false=>
   have hn:=iP h0;rw[h0]at h;simp only at h;cases h1:Nat.beq (Nat.mod n 2) 1 with
   |true=>
    rw[h1]at h;have h1:=bQ h1;simp only[Tr.qe,mL,mM]at h⊢;cases hm:Nat.beq m 0 with
    |true=>rw[hm]at h;exact .inr ⟨λe=>hn (by rw[<-e];exact bQ hm),h⟩
    |false=>
     rw[hm]at h;simp only at h⊢;have hm:=iP hm;cases hb:Nat.beq (Nat.mod m 2) 1 with
     |true=>
      rw[hb]at h;have hb:=bQ hb;change n%2=1 at h1;change m%2=1 at hb;rcases Tr.fy f l _ _ y z h with⟨h2,h3⟩|⟨h2,h3⟩
      ·refine .inl ⟨?_,h3⟩;change m/2=n/2 at h2;omega
      ·refine .inr ⟨?_,h3⟩;change ¬m/2=n/2 at h2;omega
     |false=>
      rw[hb]at h;have hb:=iP hb;change n%2=1 at h1;change ¬m%2=1 at hb;exact .inr ⟨by omega,h⟩
   |false=>
    rw[h1]at h;have h1:=iP h1;simp only[Tr.qe,mL,mM]at h⊢;cases hm:Nat.beq m 0 with
    |true=>rw[hm]at h;exact .inr ⟨λe=>hn (by rw[<-e];exact bQ hm),h⟩
    |false=>
     rw[hm]at h;simp only at h⊢;have hm:=iP hm;cases hb:Nat.beq (Nat.mod m 2) 1 with
     |true=>
      rw[hb]at h;have hb:=bQ hb;change ¬n%2=1 at h1;change m%2=1 at hb;exact .inr ⟨by omega,h⟩
     |false=>
      rw[hb]at h;have hb:=iP hb;change ¬n%2=1 at h1;change ¬m%2=1 at hb;rcases Tr.fy f r _ _ y z h with⟨h2,h3⟩|⟨h2,h3⟩
      ·refine .inl ⟨?_,h3⟩;change m/2-1=n/2-1 at h2;omega
      ·refine .inr ⟨?_,h3⟩;change ¬m/2-1=n/2-1 at h2;omega
abbrev TS:=Tr CV
inductive bC where
 |box (cs:List CV)
 |row (e k:Nat) (rows:List (List AV))
 |map (es:List (Value×CV))
 |mx (cs:List AV)
 |jJ (k:Nat) (rows:List (List AV))
 |set (l:List (List UInt8))
 |lb (l:List Int)
 |gone
structure Hp where
 e:Tr bC
 n:Nat
def kY (Z:aN):List (Value×CV)->List (Value×AV)->Prop
 |[],ys=>ys=[]
 |x::xs,ys=>∃y r,ys=y::r/\y.1=x.1/\aK Z x.2 y.2/\kY Z xs r
theorem kY.mono {Z Z':aN} (h:Z.le Z'):∀{xs:List (Value×CV)} {ys:List (Value×AV)},kY Z xs ys->kY Z' xs ys
 |[],_,h1=>by simp only[kY]at h1⊢;exact h1
 |_::_,_,h1=>by simp only[kY]at h1⊢;obtain⟨y,r,e,h2,h3,h4⟩:=h1;exact⟨y,r,e,h2,h3.mono h,kY.mono h h4⟩
def jC (l:List (List UInt8)):List (Value×AV):=l.map λs=>(.string ⟨⟨s⟩⟩,.v (.bool true))
def sq (l:List Int):List (Value×AV):=l.map λn=>(.int .i64 n,.v (.bool true))
def mZ (Z:aN) (i:Nat):bC->aq->Prop
 | .box cs,y=>∃b cs',Z.b i=some b/\y= .box b cs'/\aS Z cs cs'
 | .row e k rows,y=>(∃a c,Z.s i rows.length=some (a,c)/\y= .row (.slice a rows.length c) e k rows)/\∀m,rows.length<m->Z.s i m=none
 | .map es,y=>∃b es',Z.b i=some b/\y= .map b es'/\kY Z es es'
 | .mx cs,y=>∃b,Z.b i=some b/\y= .fact (.ip cs) (.pointer (some ⟨b,0,none⟩))
 | .jJ k rows,y=>∃a c,Z.s i rows.length=some (a,c)/\y= .fact (.sl k rows) (.slice a rows.length c)
 | .set l,y=>∃b,Z.b i=some b/\y= .map b (jC l)
 | .lb l,y=>∃b,Z.b i=some b/\y= .map b (sq l)
 | .gone,_=>True
theorem mZ.mono {Z Z':aN} (h:Z.le Z') {i:Nat} (hi:Z'.s i=Z.s i) {x:bC} {y:aq} (hx:mZ Z i x y):mZ Z' i x y:=by
 cases x with
 |box cs=>obtain⟨b,cs',h1,h2,h3⟩:=hx;exact⟨b,cs',h.1 _ _ h1,h2,h3.mono h⟩
 |row e k rows=>obtain⟨⟨a,c,h1,h2⟩,h3⟩:=hx;exact⟨⟨a,c,by rw[hi];exact h1,h2⟩,λm hm=>by rw[hi];exact h3 m hm⟩
 |map es=>obtain⟨b,es',h1,h2,h3⟩:=hx;exact⟨b,es',h.1 _ _ h1,h2,h3.mono h⟩
 |mx cs=>obtain⟨b,h1,h2⟩:=hx;exact⟨b,h.1 _ _ h1,h2⟩
 |jJ k rows=>obtain⟨a,c,h1,h2⟩:=hx;exact⟨a,c,h.2 _ _ _ h1,h2⟩
 |set l=>obtain⟨b,h1,h2⟩:=hx;exact⟨b,h.1 _ _ h1,h2⟩
 |lb l=>obtain⟨b,h1,h2⟩:=hx;exact⟨b,h.1 _ _ h1,h2⟩
 |gone=>trivial
def SS (Z:aN) (O:TS) (s:Sl):Prop:=∀t x,O.get t=some x->∃y,s t=some y/\aK Z x y
theorem SS.mono {Z Z':aN} (h:Z.le Z') {O:TS} {s:Sl} (hs:SS Z O s):SS Z' O s:=λt x hx=>by
 obtain⟨y,h1,h2⟩:=hs t x hx;exact⟨y,h1,h2.mono h⟩
structure HS (Z:aN) (L:Hp) (LB:List aq):Prop where
 en:∀i x,L.e.get i=some x->∃y,nth LB i=some y/\mZ Z i x y
 len:LB.length=L.n
 iX:∀t,L.n<=t->Z.b t=none/\∀n,Z.s t n=none
def cv (O:TS) (dst:Option Nat) (x:CV):TS:=match dst with
 |some d=>Tr.put 24 O d (some x)
 |none=>O
theorem SS.put {Z:aN} {O:TS} {σB:Sg} (h:SS Z O (look σB)) (dst:Option Nat) {x:CV} {y:AV} (hx:aK Z x y):SS Z (cv O dst x) (look (mn dst y σB)):=by
 cases dst with
 |none=>exact h
 |some d=>
  intro t z hz;rcases Tr.fy 24 O d t (some x) z hz with⟨rfl,h1⟩|⟨hne,h1⟩
  ·cases h1;exact⟨y,by simp[mn,look],hx⟩
  ·obtain⟨u,h2,h3⟩:=h t z h1;refine⟨u,?_,h3⟩;have:Nat.beq d t=false:=by cases hb:Nat.beq d t with
    |false=>rfl
    |true=>exact absurd (bQ hb).symm hne
   simp only[mn,look,this];exact h2
inductive DE where
 |norm
 |exit (id:Nat)
 |ret
 |aT (x:CV)
def DE.inst (Z:aN):DE->AE->Prop
 | .norm,e=>e= .norm
 | .exit i,e=>e= .exit i
 | .ret,e=>e= .ret
 | .aT x,e=>∃y,e= .aT y/\aK Z x y
abbrev DQ:=DE->TS->Hp->Prop
def aN.jh (K:Nat) (Z Z':aN):Prop:=∀t,t<K->(∀x,Z.b t=some x->Z'.b t=some x)/\∀n x,Z.s t n=some x->Z'.s t n=some x
theorem aN.jh.refl (K:Nat) (Z:aN):aN.jh K Z Z:=λ_ _=>⟨λ_ h=>h,λ_ _ h=>h⟩
theorem aN.jh.trans {K:Nat} {Z Z' Z'':aN} (h:aN.jh K Z Z') (g:aN.jh K Z' Z''):aN.jh K Z Z'':=λt ht=>⟨λx hx=>(g t ht).1 x ((h t ht).1 x hx),λn x hx=>(g t ht).2 n x ((h t ht).2 n x hx)⟩
theorem aN.le.toK {Z Z':aN} (h:Z.le Z') (K:Nat):aN.jh K Z Z':=λt _=>⟨h.1 t,h.2 t⟩
def lift (K:Nat) (Z:aN) (Q:DQ):AQ:=λe σB LB=>∃Z' d O L,aN.jh K Z Z'/\DE.inst Z' d e/\SS Z' O (look σB)/\HS Z' L LB/\Q d O L
theorem rm {K:Nat} {Z Z':aN} (h:aN.jh K Z Z') {Q Q':DQ} (hq:∀e O L,Q e O L->Q' e O L) {e:AE} {σB:Sg} {LB:List aq} (hl:lift K Z' Q e σB LB):lift K Z Q' e σB LB:=by
 obtain⟨Z1,d,O,L,h1,h2,h3,h4,h5⟩:=hl;exact⟨Z1,d,O,L,h.trans h1,h2,h3,h4,hq _ _ _ h5⟩
def DC (E:Env) (N K:Nat) (c:Code) (Q:DQ) (O:TS) (L:Hp):Prop:=∀Z σB LB,SS Z O (look σB)->HS Z L LB->cm E.toCx N c (lift K Z Q) σB LB
def DO (E:Env) (N K:Nat) (all rest:List Oper) (Q:DQ) (O:TS) (L:Hp):Prop:=∀Z σB LB,SS Z O (look σB)->HS Z L LB->cj E.toCx N all.toArray rest (lift K Z Q) σB LB
abbrev DE.then (next:TS->Hp->Prop) (Q:DQ):DQ:=λe O L=>match e with
 | .norm=>next O L
 | .exit i=>Q (.exit i) O L
 | .ret=>Q .ret O L
 | .aT x=>Q (.aT x) O L
abbrev DE.inBlock (id:Nat) (Q:DQ):DQ:=λe O L=>match e with
 | .norm=>Q .norm O L
 | .exit i=>match Nat.beq i id with
  |true=>Q .norm O L
  |false=>Q (.exit i) O L
 | .ret=>Q .ret O L
 | .aT x=>Q (.aT x) O L
section
variable {E:Env} {N K:Nat} {Q:DQ} {O:TS} {L:Hp}
theorem tR {Z:aN} {d:DE} {e:AE} {σB:Sg} {LB:List aq} (h:DE.inst Z d e) (hs:SS Z O (look σB)) (hh:HS Z L LB) (hq:Q d O L):lift K Z Q e σB LB:=⟨Z,d,O,L,.refl K Z,h,hs,hh,hq⟩
theorem DC.skip (h:Q .norm O L):DC E N K .skip Q O L:=λZ σB LB hs hh=>cm.skip (tR (d:= .norm) rfl hs hh h)
theorem DC.exit {id:Nat} (h:Q (.exit id) O L):DC E N K (.exit id) Q O L:=λZ σB LB hs hh=>cm.exit (tR (d:= .exit id) rfl hs hh h)
theorem DC.ret (h:Q .ret O L):DC E N K .ret Q O L:=λZ σB LB hs hh=>cm.ret (tR (d:= .ret) rfl hs hh h)
theorem DC.label {l:Nat} (h:Q .norm O L):DC E N K (.label l) Q O L:=λZ σB LB hs hh=>cm.label (tR (d:= .norm) rfl hs hh h)
theorem DC.mono {c:Code} {Q':DQ} (h:DC E N K c Q O L) (hq:∀e O L,Q e O L->Q' e O L):DC E N K c Q' O L:=λZ σB LB hs hh=>
 cm.mono (h Z σB LB hs hh) λ_ _ _ hl=>rm (.refl K Z) hq hl
theorem DC.seq {x y:Code} (h:DC E N K x (DE.then (DC E N K y Q) Q) O L):DC E N K (.seq x y) Q O L:=λZ σB LB hs hh=>by
 refine cm.seq (cm.mono (h Z σB LB hs hh) ?_);rintro e OB' LB' ⟨Z',d,O',L',h1,h2,h3,h4,h5⟩;cases d with
 |norm=>simp only[DE.inst]at h2;subst h2;exact cm.mono (h5 Z' OB' LB' h3 h4) λ_ _ _ hl=>rm h1 (λ_ _ _ h=>h) hl
 |exit i=>simp only[DE.inst]at h2;subst h2;exact⟨Z',.exit i,O',L',h1,rfl,h3,h4,h5⟩
 |ret=>simp only[DE.inst]at h2;subst h2;exact⟨Z',.ret,O',L',h1,rfl,h3,h4,h5⟩
 |aT x=>obtain⟨y,rfl,h2⟩:=h2;exact⟨Z',.aT x,O',L',h1,⟨y,rfl,h2⟩,h3,h4,h5⟩
theorem DC.block {id:Nat} {c:Code} (h:DC E N K c (DE.inBlock id Q) O L):DC E N K (.block id c) Q O L:=λZ σB LB hs hh=>by
 refine cm.block (cm.mono (h Z σB LB hs hh) ?_);rintro e OB' LB' ⟨Z',d,O',L',h1,h2,h3,h4,h5⟩;cases d with
 |norm=>simp only[DE.inst]at h2;subst h2;exact⟨Z',.norm,O',L',h1,rfl,h3,h4,h5⟩
 |exit i=>
  simp only[DE.inst]at h2;subst h2;simp only[DE.inBlock]at h5;simp only[AE.inBlock];cases hb:Nat.beq i id with
  |true=>rw[hb]at h5;exact⟨Z',.norm,O',L',h1,rfl,h3,h4,h5⟩
  |false=>rw[hb]at h5;exact⟨Z',.exit i,O',L',h1,rfl,h3,h4,h5⟩
 |ret=>simp only[DE.inst]at h2;subst h2;exact⟨Z',.ret,O',L',h1,rfl,h3,h4,h5⟩
 |aT x=>obtain⟨y,rfl,h2⟩:=h2;exact⟨Z',.aT x,O',L',h1,⟨y,rfl,h2⟩,h3,h4,h5⟩
theorem DC.region {id:Nat} {l:List Oper} (h:DO E N K l l Q O L):DC E N K (.region id l.toArray false) Q O L:=λZ σB LB hs hh=>cm.region (h Z σB LB hs hh)
theorem DO.nil {all:List Oper} (h:Q .norm O L):DO E N K all [] Q O L:=λZ σB LB hs hh=>cj.nil (tR (d:= .norm) rfl hs hh h)
def aY (O:TS):Operand->Option CV
 | .tmp t=>O.get t
 | .const v=>some (.d (.v v))
 | .global g=>some (.d (.v (.pointer (some ⟨g,0,none⟩))))
 | .func f=>some (.d (.v (.func (.func f) #[] #[])))
theorem cu {Z:aN} {s:Sl} (hs:SS Z O s) {o:Operand} {x:CV} (h:aY O o=some x):∃y,ev s o=some y/\aK Z x y:=by
 cases o with
 |tmp t=>exact hs t x h
 |const v=>simp only[aY,aE]at h;subst h;exact⟨_,rfl,rfl⟩
 |global g=>simp only[aY,aE]at h;subst h;exact⟨_,rfl,rfl⟩
 |func f=>simp only[aY,aE]at h;subst h;exact⟨_,rfl,rfl⟩
theorem DC.cond {c:Operand} {x y:Code} {t:Bool} (hc:aY O c=some (.d (.v (.bool t)))) (h1:t=true->DC E N K x Q O L) (h2:t=false->DC E N K y Q O L):DC E N K (.cond c x y) Q O L:=
 λZ σB LB hs hh=>by
  obtain⟨z,h3,h4⟩:=cu hs hc;simp only[aK]at h4;subst h4;exact cm.cond h3 (λht=>h1 ht Z σB LB hs hh) (λht=>h2 ht Z σB LB hs hh)
theorem DC.agI {c:Nat} {x y:Code} {t:Bool} (hc:O.get c=some (.d (.v (.bool t)))) (h1:t=true->DC E N K x Q (Tr.put 24 O c (some (.d (.v (.bool true))))) L)
  (h2:t=false->DC E N K y Q (Tr.put 24 O c (some (.d (.v (.bool false))))) L):DC E N K (.cond (.tmp c) x y) Q O L:=by
 refine DC.cond hc (λht=>?_) (λht=>?_)
 all_goals
  subst ht;intro Z σB LB hs hh
  first|refine h1 rfl Z σB LB ?_ hh|refine h2 rfl Z σB LB ?_ hh
  intro u z hz;rcases Tr.fy 24 O c u _ z hz with⟨rfl,h3⟩|⟨_,h3⟩
  ·cases h3;exact hs _ _ hc
  ·exact hs _ _ h3
theorem DO.agy {all rest:List Oper} {O':TS} (hw:∀Z s,SS Z O s->SS Z O' s) (h:DO E N K all rest Q O' L):DO E N K all rest Q O L:=λZ σB LB hs hh=>h Z σB LB (hw Z _ hs) hh
mutual
def lv (m:Nat):CV->Bool
 | .d _=>true
 | .agg xs=>qH m xs
 | .bY xs=>qH m xs
 | .own t _=>Nat.blt t m
 | .os t _=>Nat.blt t m
 | .oe t _ _=>Nat.blt t m
 | .om t=>Nat.blt t m
 | .fn _ fs cs=>match qH m fs with
  |true=>qH m cs
  |false=>false
 | .bP _ x=>lv m x
def qH (m:Nat):List CV->Bool
 |[]=>true
 |x::r=>match lv m x with
  |true=>qH m r
  |false=>false
end
def Nj (m:Nat):bC->Bool
 | .box cs=>qH m cs
 | .map es=>es.all λp=>lv m p.2
 |_=>true
def aN.cut (Z:aN) (m:Nat):aN:=⟨λt=>if t<m then Z.b t else none,λt n=>if t<m then Z.s t n else none⟩
mutual
theorem aK.cut {Z:aN} {m:Nat}:∀{x:CV} {y:AV},lv m x=true->aK Z x y->aK (Z.cut m) x y
 | .d x,_,_,h1=>by simp only[aK]at h1⊢;exact h1
 | .agg xs,_,h,h1=>by simp only[aK]at h1⊢;obtain⟨ys,e,h2⟩:=h1;exact⟨ys,e,aS.cut (by simpa[lv]using h) h2⟩
 | .bY xs,_,h,h1=>by simp only[aK]at h1⊢;obtain⟨ys,e,h2⟩:=h1;exact⟨ys,e,aS.cut (by simpa[lv]using h) h2⟩
 | .own t o,_,h,h1=>by simp only[aK]at h1⊢;obtain⟨b,t',e,h2⟩:=h1;exact⟨b,t',by simp only[lv,mD]at h;simp[aN.cut,h,e],h2⟩
 | .os t n,_,h,h1=>by simp only[aK]at h1⊢;obtain⟨a,c,t',e,h2⟩:=h1;exact⟨a,c,t',by simp only[lv,mD]at h;simp[aN.cut,h,e],h2⟩
 | .oe t n o,_,h,h1=>by simp only[aK]at h1⊢;obtain⟨a,c,t',e,h2⟩:=h1;exact⟨a,c,t',by simp only[lv,mD]at h;simp[aN.cut,h,e],h2⟩
 | .om t,_,h,h1=>by simp only[aK]at h1⊢;obtain⟨b,t',e,h2⟩:=h1;exact⟨b,t',by simp only[lv,mD]at h;simp[aN.cut,h,e],h2⟩
 | .fn f fs cs,_,h,h1=>by
  simp only[lv]at h;split at h
  ·rename_i h0;simp only[aK]at h1⊢;obtain⟨us,vs,e,h2,h3⟩:=h1;exact⟨us,vs,e,aS.cut h0 h2,aS.cut h h3⟩
  ·cases h
 | .bP t x,_,h,h1=>by simp only[aK]at h1⊢;obtain⟨u,e,h2⟩:=h1;exact⟨u,e,aK.cut (by simpa[lv]using h) h2⟩
theorem aS.cut {Z:aN} {m:Nat}:∀{x:List CV} {y:List AV},qH m x=true->aS Z x y->aS (Z.cut m) x y
 |[],_,_,h1=>by simp only[aS]at h1⊢;exact h1
 |_::_,_,h,h1=>by
  simp only[qH]at h;split at h
  ·rename_i h0;simp only[aS]at h1⊢;obtain⟨y,r,e,h2,h3⟩:=h1;exact⟨y,r,e,aK.cut h0 h2,aS.cut h h3⟩
  ·cases h
end
theorem kY.cut {Z:aN} {m:Nat}:∀{xs:List (Value×CV)} {ys:List (Value×AV)},(xs.all λp=>lv m p.2)=true->kY Z xs ys->kY (Z.cut m) xs ys
 |[],_,_,h1=>by simp only[kY]at h1⊢;exact h1
 |_::_,_,h,h1=>by
  simp only[lx,bS]at h;simp only[kY]at h1⊢;obtain⟨y,r,e,h2,h3,h4⟩:=h1;exact⟨y,r,e,h2,h3.cut h.1,kY.cut h.2 h4⟩
theorem mZ.cut {Z:aN} {m i:Nat} (hi:i<m) {x:bC} {y:aq} (hb:Nj m x=true) (hx:mZ Z i x y):mZ (Z.cut m) i x y:=by
 have h1:(Z.cut m).b i=Z.b i:=by simp[aN.cut,hi]
 have h2:∀n,(Z.cut m).s i n=Z.s i n:=λn=>by simp[aN.cut,hi]
 cases x with
 |box cs=>obtain⟨b,cs',h3,h4,h5⟩:=hx;exact⟨b,cs',h1.trans h3,h4,h5.cut hb⟩
 |row e k rows=>obtain⟨⟨a,c,h3,h4⟩,h5⟩:=hx;exact⟨⟨a,c,(h2 _).trans h3,h4⟩,λn hn=>(h2 n).trans (h5 n hn)⟩
 |map es=>obtain⟨b,es',h3,h4,h5⟩:=hx;exact⟨b,es',h1.trans h3,h4,h5.cut hb⟩
 |mx cs=>obtain⟨b,h3,h4⟩:=hx;exact⟨b,h1.trans h3,h4⟩
 |jJ k rows=>obtain⟨a,c,h3,h4⟩:=hx;exact⟨a,c,(h2 _).trans h3,h4⟩
 |set l=>obtain⟨b,h3,h4⟩:=hx;exact⟨b,h1.trans h3,h4⟩
 |lb l=>obtain⟨b,h3,h4⟩:=hx;exact⟨b,h1.trans h3,h4⟩
 |gone=>trivial
def fC (m:Nat):List Nat->TS->Option (List (Nat×CV))
 |[],_=>some []
 |t::ts,O=>match O.get t,fC m ts O with
  |some x,some r=>match lv m x with
   |true=>some ((t,x)::r)
   |false=>none
  |_,_=>none
def qV:List (Nat×CV)->TS
 |[]=> .lf
 |(t,x)::r=>Tr.put 24 (qV r) t (some x)
theorem IW {Z:aN} {m:Nat} {s:Sl} (hs:SS Z O s):∀{ts:List Nat} {l:List (Nat×CV)},fC m ts O=some l->SS (Z.cut m) (qV l) s
 |[],_,h=>by simp only[fC,aE]at h;subst h;intro t x hx;simp[qV,Tr.lI]at hx
 |t::ts,l,h=>by
  simp only[fC]at h;split at h
  ·rename_i x r h1 h2;split at h
   ·rename_i h0;simp only[aE]at h;subst h;intro u z hz;rcases Tr.fy 24 _ t u _ z hz with⟨rfl,h3⟩|⟨_,h3⟩
    ·cases h3;obtain⟨y,h4,h5⟩:=hs _ _ h1;exact⟨y,h4,h5.cut h0⟩
    ·exact IW hs h2 u z h3
   ·cases h
  ·cases h
def An (m:Nat) (e:Tr bC):Nat->Option (List bC)
 |0=>some []
 |i+1=>match An m e i,e.get i with
  |some l,some x=>match Nj m x with
   |true=>some (l++[x])
   |false=>none
  |some l,none=>some (l++[.gone])
  |none,_=>none
def mf (m:Nat) (L:Hp):Option (List bC):=An m L.e m
def qT:Nat->List bC->Tr bC
 |_,[]=> .lf
 |i,x::r=>Tr.put 24 (qT (i+1) r) i (some x)
def jH (l:List bC):Hp:=⟨qT 0 l,l.length⟩
theorem SC:∀{l:List bC} {i j:Nat} {x:bC},(qT i l).get j=some x->i<=j/\l[j-i]? =some x
 |[],i,j,x,h=>by simp[qT,Tr.lI]at h
 |y::r,i,j,x,h=>by
  simp only[qT]at h;rcases Tr.fy 24 _ i j _ x h with⟨rfl,h1⟩|⟨hne,h1⟩
  ·cases h1;simp
  ·obtain⟨h2,h3⟩:=SC h1;refine⟨by omega,?_⟩;rw[show j-i=(j-(i+1))+1 by omega];simpa using h3
theorem D5 {m:Nat} {e:Tr bC}:∀{n:Nat} {l:List bC},An m e n=some l->l.length=n/\∀i x,l[i]? =some x->x= .gone\/(e.get i=some x/\Nj m x=true)
 |0,l,h=>by simp only[An,aE]at h;subst h;simp
 |n+1,l,h=>by
  simp only[An]at h;split at h
  ·rename_i l' x h1 h2;split at h
   ·rename_i h0;simp only[aE]at h;subst h;obtain⟨h3,h4⟩:=D5 h1;refine⟨by simp[h3],λi y hy=>?_⟩;rw[anP]at hy;split at hy
    ·exact h4 i y hy
    ·rename_i hi;rw[anQ]at hy;split at hy
     ·cases hy;right;rw[<-h2];exact⟨by congr 1;omega,h0⟩
     ·cases hy
   ·cases h
  ·rename_i l' h1 h2;simp only[aE]at h;subst h;obtain⟨h3,h4⟩:=D5 h1;refine⟨by simp[h3],λi y hy=>?_⟩;rw[anP]at hy;split at hy
   ·exact h4 i y hy
   ·rw[anQ]at hy;split at hy
    ·cases hy;exact .inl rfl
    ·cases hy
  ·cases h
theorem Rg {Z:aN} {m:Nat} {LB:List aq} (hh:HS Z L LB) (hm:m<=L.n) {l:List bC} (h:mf m L=some l):HS (Z.cut m) (jH l) (LB.take m):=by
 obtain⟨h1,h2⟩:=D5 h;refine⟨λi x hx=>?_,by simp[jH,h1,hh.len,hm],λt ht=>?_⟩
 ·obtain⟨_,h3⟩:=SC hx;simp only[aan]at h3;have hi:i<m:=by rw[<-h1];exact(cr.1 h3).1
  have hlt:i<LB.length:=by rw[hh.len];omega
  have hn:nth (LB.take m) i=nth LB i:=by rw[cM,cM,fT,bg hi]
  rw[hn];rcases h2 i x h3 with rfl|⟨h4,h5⟩
  ·exact⟨LB[i],by rw[cM];simp[hlt],trivial⟩
  ·obtain⟨y,h6,h7⟩:=hh.en i x h4;exact⟨y,h6,h7.cut hi h5⟩
 ·have:¬t<m:=by simp only[jH,h1]at ht;omega
  simp[aN.cut,this]
theorem aN.SD {Z:aN} {m:Nat} (hm:K<=m):aN.jh K Z (Z.cut m):=λt ht=>by
 have:t<m:=by omega
 simp[aN.cut,this]
theorem DC.loop {c:Code} (ts:List Nat) (m:Nat) (I:Nat->List (Nat×CV)->List bC->Prop) (n:Nat) (hK:K<=m) {l:List (Nat×CV)} {es:List bC} (hm:m<=L.n) (hp:fC m ts O=some l) (he:mf m L=some es) (h0:I n l es)
  (round:∀n l es,I n l es->DC E N K c (DE.then (λO1 L1=>∃n',n'<n/\∃l' es',m<=L1.n/\fC m ts O1=some l'/\mf m L1=some es'/\I n' l' es') Q) (qV l) (jH es)):DC E N K (.loop c) Q O L:=λZ σB LB hs hh=>by
 refine cm.loop (λn σB LB=>∃Z1 l es,aN.jh K Z Z1/\SS Z1 (qV l) (look σB)/\HS Z1 (jH es) (LB.take m)/\I n l es) n ⟨Z.cut m,l,es,aN.SD hK,IW hs hp,Rg hh hm he,h0⟩ ?_;rintro n OB1 LB1 ⟨Z1,l1,es1,h1,h2,h3,h4⟩;refine cm.lQ (fm.sub (List.take_sublist m LB1)) (cm.mono (round n l1 es1 h4 Z1 OB1 _ h2 h3) ?_);rintro e OB2 LB2 ⟨Z2,d,O2,L2,g1,g2,g3,g4,g5⟩;cases d with
 |norm=>
  simp only[DE.inst]at g2;subst g2;obtain⟨n',hn,l',es',q1,q2,q3,q4⟩:=g5;exact⟨n',hn,Z2.cut m,l',es',(h1.trans g1).trans (aN.SD hK),IW g3 q2,Rg g4 q1 q3,q4⟩
 |exit i=>simp only[DE.inst]at g2;subst g2;exact⟨Z2,.exit i,O2,L2,h1.trans g1,rfl,g3,g4,g5⟩
 |ret=>simp only[DE.inst]at g2;subst g2;exact⟨Z2,.ret,O2,L2,h1.trans g1,rfl,g3,g4,g5⟩
 |aT x=>obtain⟨y,rfl,g2⟩:=g2;exact⟨Z2,.aT x,O2,L2,h1.trans g1,⟨y,rfl,g2⟩,g3,g4,g5⟩
def pU (E:Env) (N K:Nat) (c:Code) (Q:DQ):Nat->TS->Hp->Prop
 |0=>λ_ _=>False
 |n+1=>DC E N K c (DE.then (pU E N K c Q n) Q)
theorem DC.rounds {c:Code} (n:Nat) (h:pU E N K c Q n O L):DC E N K (.loop c) Q O L:=λZ σB LB hs hh=>by
 refine cm.rounds n ?_;have key:∀n Z1 O L σB LB,aN.jh K Z Z1->SS Z1 O (look σB)->HS Z1 L LB->pU E N K c Q n O L->EZ E.toCx N c (lift K Z Q) n σB LB:=by
  intro n
  induction n with
  |zero=>intro Z1 O L σB LB _ _ _ h;exact h.elim
  |succ n ih=>
   intro Z1 O L σB LB h1 h2 h3 h4;refine cm.mono (h4 Z1 σB LB h2 h3) ?_;rintro e OB2 LB2 ⟨Z2,d,O2,L2,g1,g2,g3,g4,g5⟩;cases d with
   |norm=>simp only[DE.inst]at g2;subst g2;exact ih Z2 O2 L2 _ _ (h1.trans g1) g3 g4 g5
   |exit i=>simp only[DE.inst]at g2;subst g2;exact⟨Z2,.exit i,O2,L2,h1.trans g1,rfl,g3,g4,g5⟩
   |ret=>simp only[DE.inst]at g2;subst g2;exact⟨Z2,.ret,O2,L2,h1.trans g1,rfl,g3,g4,g5⟩
   |aT x=>obtain⟨y,rfl,g2⟩:=g2;exact⟨Z2,.aT x,O2,L2,h1.trans g1,⟨y,rfl,g2⟩,g3,g4,g5⟩
 exact key n Z O L σB LB (.refl K Z) hs hh h
end
theorem ck.mono {C:Cx} {N:Nat} {o:Oper} {s s':Sl} {L:List aq} {x:AV} (h:ck C N o s L x) (hs:∀t∈tmpsOf o,∀y,s t=some y->s' t=some y):ck C N o s' L x:=
 λF w a h1 h2 h3 h4=>h F w a h1 h2 h3 λt ht y hy=>h4 t ht y (hs t ht y hy)
theorem ck.agb {C:Cx} {N:Nat} {o:Oper} {s s':Sl} {L:List aq} {x:AV} (h:ck C N o s' L x)
  (hs:∀F w a,bM C.G w F L->mg w (Al F L) N a o s->mg w (Al F L) N a o s'):ck C N o s L x:=
 λF w a h1 h2 h3 h4=>h F w a h1 h2 h3 (hs F w a h3 h4)
def dS (O:TS):Sl:=λt=>match O.get t with
 |some (.d x)=>some x
 |_=>none
theorem lL {Z:aN} {O:TS} {s:Sl} (hs:SS Z O s) {t:Nat} {x:AV} (h:dS O t=some x):s t=some x:=by
 unfold dS at h;split at h
 ·rename_i y hy;simp only[aE]at h;subst h;obtain⟨z,h1,h2⟩:=hs t _ hy;simp only[aK]at h2;subst h2;exact h1
 ·cases h
def bl (E:Env) (N:Nat) (o:Oper) (O:TS) (L:Hp) (x:CV):Prop:=∀Z s LB,SS Z O s->HS Z L LB->∃y,aK Z x y/\ck E.toCx N o s LB y
section
variable {E:Env} {N K:Nat} {Q:DQ} {O:TS} {L:Hp} {o:Oper} {x:CV} {all rest:List Oper}
theorem DO.qW (hg:o.guard=none) (hd:cP N o.dst=true) (h:bl E N o O L x) (k:DO E N K all rest Q (cv O o.dst x) L):DO E N K all (o::rest) Q O L:=λZ σB LB hs hh=>by
 obtain⟨y,h1,h2⟩:=h Z _ LB hs hh;exact cj.qW hg hd h2 (k Z _ LB (hs.put o.dst h1) hh)
theorem bl.cW {y:AV} (h:cW E.T (dS O) o.op=some y):bl E N o O L (.d y):=λZ s LB hs _=>⟨y,rfl,(ck.cW h).mono λ_ _ _ hy=>lL hs hy⟩
theorem bl.eS {y:AV} (h:eS E.P E.T (dS O) o.op=some y):bl E N o O L (.d y):=λZ s LB hs _=>⟨y,rfl,(ck.eS h).mono λ_ _ _ hy=>lL hs hy⟩
theorem bl.fi {y:AV} (h:fi E.P (dS O) o.op=some y):bl E N o O L (.d y):=λZ s LB hs _=>⟨y,rfl,(ck.fi h).mono λ_ _ _ hy=>lL hs hy⟩
theorem bl.mw {y:AV} (h:mw E.G E.T (dS O) o.op=some y):bl E N o O L (.d y):=λZ s LB hs _=>⟨y,rfl,(ck.mw h).mono λ_ _ _ hy=>lL hs hy⟩
def eC:CV->List CV
 | .agg xs=>xs
 | .d y=>(cH y).map .d
 |x=>[x]
theorem DX {Z:aN} {x:CV} {y:AV} (h:aK Z x y):aS Z (eC x) (cH y):=by
 cases x with
 |d z=>simp only[aK]at h;subst h;exact jv _
 |agg xs=>simp only[aK]at h;obtain⟨ys,rfl,h⟩:=h;exact h
 |bY xs=>have h0:=h;simp only[aK]at h0;obtain⟨ys,rfl,_⟩:=h0;simp only[eC,cH,aS];exact⟨_,_,rfl,h,rfl⟩
 |own t n=>have h0:=h;simp only[aK]at h0;obtain⟨b,t',_,rfl⟩:=h0;simp only[eC,cH,aS];exact⟨_,_,rfl,h,rfl⟩
 |os t n=>have h0:=h;simp only[aK]at h0;obtain⟨a,c,t',_,rfl⟩:=h0;simp only[eC,cH,aS];exact⟨_,_,rfl,h,rfl⟩
 |oe t n m=>have h0:=h;simp only[aK]at h0;obtain⟨a,c,t',_,rfl⟩:=h0;simp only[eC,cH,aS];exact⟨_,_,rfl,h,rfl⟩
 |om t=>have h0:=h;simp only[aK]at h0;obtain⟨b,t',_,rfl⟩:=h0;simp only[eC,cH,aS];exact⟨_,_,rfl,h,rfl⟩
 |fn f fs cs=>have h0:=h;simp only[aK]at h0;obtain⟨us,vs,rfl,_⟩:=h0;simp only[eC,cH,aS];exact⟨_,_,rfl,h,rfl⟩
 |bP t z=>have h0:=h;simp only[aK]at h0;obtain⟨u,rfl,_⟩:=h0;simp only[eC,cH,aS];exact⟨_,_,rfl,h,rfl⟩
def sx:List CV->List CV->Option (List CV)
 |xs,[]=>some xs
 |[],_::_=>none
 |_::xs,y::ys=>match sx xs ys with
  |some r=>some (y::r)
  |none=>none
def mK:List CV->Nat->List CV->Option (List CV)
 |xs,0,ys=>sx xs ys
 |[],_+1,_=>none
 |x::xs,n+1,ys=>match mK xs n ys with
  |some r=>some (x::r)
  |none=>none
theorem PT {Z:aN}:∀{ys xs r:List CV} {us vs:List AV},sx xs ys=some r->aS Z xs us->aS Z ys vs->∃r',mh us vs=some r'/\aS Z r r'
 |[],xs,r,us,vs,h,hx,hy=>by
  simp only[aS]at hy;subst hy;cases xs<;>simp only[sx,aE]at h<;>subst h
  ·simp only[aS]at hx;subst hx;exact⟨[],rfl,rfl⟩
  ·exact⟨us,by cases us<;>rfl,hx⟩
 |y::ys,[],r,us,vs,h,hx,hy=>by simp[sx]at h
 |y::ys,x::xs,r,us,vs,h,hx,hy=>by
  simp only[sx]at h;split at h
  ·rename_i r' h1;simp only[aE]at h;subst h;simp only[aS]at hx hy;obtain⟨u,ur,rfl,_,hx⟩:=hx;obtain⟨v,vr,rfl,hv,hy⟩:=hy;obtain⟨q,h2,h3⟩:=PT h1 hx hy;exact⟨v::q,by simp[mh,h2],by simp only[aS];exact⟨_,_,rfl,hv,h3⟩⟩
  ·cases h
theorem DS {Z:aN}:∀{n:Nat} {xs ys r:List CV} {us vs:List AV},mK xs n ys=some r->aS Z xs us->aS Z ys vs->∃r',fN us n vs=some r'/\aS Z r r'
 |0,xs,ys,r,us,vs,h,hx,hy=>by
  have h':sx xs ys=some r:=by cases xs<;>exact h
  obtain⟨q,h1,h2⟩:=PT h' hx hy;exact⟨q,by cases us<;>exact h1,h2⟩
 |n+1,[],ys,r,us,vs,h,hx,hy=>by simp[mK]at h
 |n+1,x::xs,ys,r,us,vs,h,hx,hy=>by
  simp only[mK]at h;split at h
  ·rename_i r' h1;simp only[aE]at h;subst h;simp only[aS]at hx;obtain⟨u,ur,rfl,hu,hx⟩:=hx;obtain⟨q,h2,h3⟩:=DS h1 hx hy;exact⟨u::q,by simp[fN,h2],by simp only[aS];exact⟨_,_,rfl,hu,h3⟩⟩
  ·cases h
def AJ (fs:List (Nat×Nat×Nat×Bool)) (O:TS):List CV->List (Nat×Operand)->Option (List CV)
 |cells,[]=>some cells
 |cells,(i,o)::rest=>match nth fs i,aY O o with
  |some (off,_,k,_),some x=>match Nat.beq (eC x).length k,mK cells off (eC x)with
   |true,some cells'=>AJ fs O cells' rest
   |_,_=>none
  |_,_=>none
theorem PU {Z:aN} {s:Sl} (hs:SS Z O s) {fs:List (Nat×Nat×Nat×Bool)}:∀{l:List (Nat×Operand)} {cells r:List CV} {us:List AV},AJ fs O cells l=some r->aS Z cells us->∃r',oo fs s us l=some r'/\aS Z r r'
 |[],cells,r,us,h,hr=>by simp only[AJ,aE]at h;subst h;exact⟨us,rfl,hr⟩
 |(i,p)::l,cells,r,us,h,hr=>by
  simp only[AJ]at h;split at h
  ·rename_i off t k g x h1 h2;split at h
   ·rename_i cells' h3 h4;obtain⟨y,h5,h6⟩:=cu hs h2;have h7:=DX h6;obtain⟨q,h8,h9⟩:=DS h4 hr h7;obtain⟨r',h10,h11⟩:=PU hs h h9;refine⟨r',?_,h11⟩;simp only[oo,h1,h5,h7.length,h3,h8,h10]
   ·cases h
  ·cases h
def sO (O:TS):List Operand->Option (List CV)
 |[]=>some []
 |o::r=>match aY O o,sO O r with
  |some x,some xs=>some (x::xs)
  |_,_=>none
theorem tW {Z:aN} {s:Sl} (hs:SS Z O s):∀{os:List Operand} {xs:List CV},sO O os=some xs->∃ys,kg s os=some ys/\aS Z xs ys
 |[],_,h=>by simp only[sO,aE]at h;subst h;exact⟨[],rfl,rfl⟩
 |o::os,xs,h=>by
  simp only[sO]at h;split at h
  ·rename_i x ys h1 h2;simp only[aE]at h;subst h;obtain⟨y,h3,h4⟩:=cu hs h1;obtain⟨zs,h5,h6⟩:=tW hs h2;exact⟨y::zs,by simp[kg,h3,h5],by simp only[aS];exact⟨_,_,rfl,h4,h6⟩⟩
  ·cases h
def qD:List CV->Bool
 |[]=>false
 | .d _::r=>qD r
 |_::_=>true
theorem Ij {Z:aN}:∀{xs:List CV} {ys:List AV},qD xs=true->aS Z xs ys->pe ys=none
 |[],_,h,_=>by simp[qD]at h
 |x::r,ys,h,hr=>by
  simp only[aS]at hr;obtain⟨y,r',rfl,h1,h2⟩:=hr;cases x with
  |d z=>
   simp only[qD]at h;have:=Ij h h2;cases y<;>simp[pe,this]
  |agg xs=>simp only[aK]at h1;obtain⟨ys,rfl,_⟩:=h1;rfl
  |bY xs=>simp only[aK]at h1;obtain⟨ys,rfl,_⟩:=h1;rfl
  |own t n=>simp only[aK]at h1;obtain⟨b,t',_,rfl⟩:=h1;rfl
  |os t n=>simp only[aK]at h1;obtain⟨a,c,t',_,rfl⟩:=h1;rfl
  |oe t n m=>simp only[aK]at h1;obtain⟨a,c,t',_,rfl⟩:=h1;rfl
  |om t=>simp only[aK]at h1;obtain⟨b,t',_,rfl⟩:=h1;rfl
  |fn f fs cs=>simp only[aK]at h1;obtain⟨us,vs,rfl,_⟩:=h1;rfl
  |bP t z=>simp only[aK]at h1;obtain⟨u,rfl,_⟩:=h1;rfl
def px (T:cn) (O:TS):Op->Option CV
 | .move x=>aY O x
 | .assign x=>aY O x
 | .pick c a b=>match aY O c with
  |some (.d (.v (.bool true)))=>aY O a
  |some (.d (.v (.bool false)))=>aY O b
  |_=>none
 | .extract x i=>match aY O x with
  |some (.bY xs)=>nth xs i
  |_=>none
 | .field t x f=>match aY O x,bc T t with
  |some (.agg xs),some ⟨.struct fs,_,_,_⟩=>match nth fs f with
   |some (o,_,k,g)=>match g with
    |true=>some (wh ((xs.drop o).take k))
    |false=>nth xs o
   |none=>none
  |_,_=>none
 | .fieldAddr t x f=>match bc T t with
  |some ⟨.struct fs,_,_,_⟩=>match nth fs f with
   |some (off,_,_,_)=>match aY O x with
    |some (.own t o)=>some (.own t (o+off))
    |some (.oe t n o)=>some (.oe t n (o+off))
    |_=>none
   |none=>none
  |_=>none
 | .nilCheck x=>match aY O x with
  |some (.own t o)=>some (.own t o)
  |some (.oe t n o)=>some (.oe t n o)
  |some (.fn f fs cs)=>some (.fn f fs cs)
  |_=>none
 | .makeInterface t x=>match aY O x,bc T t with
  |some _,some ⟨.iface,_,_,_⟩=>none
  |some y,some _=>some (.bP t y)
  |_,_=>none
 | .typeAssert x _ t ok=>match aY O x,bc T t with
  |some (.bP _ _),some ⟨.iface,_,_,_⟩=>none
  |some (.bP u y),some _=>match Nat.beq u t,ok with
   |true,true=>some (.bY [y,.d (.v (.bool true))])
   |true,false=>some y
   |false,_=>none
  |_,_=>none
 | .makeFunc (.func f) first caps=>match sO O first.toList,sO O caps.toList with
  |some fs,some cs=>match qD fs,qD cs with
   |false,false=>none
   |_,_=>some (.fn f fs cs)
  |_,_=>none
 | .build t parts=>match bc T t with
  |some ⟨.struct fs,_,_,z⟩=>match AJ fs O ((z.map .v).map .d) parts.toList with
   |some cells=>some (wh cells)
   |none=>none
  |_=>none
 |_=>none
theorem Sw {Z:aN} {s:Sl} (hs:SS Z O s) {T:cn} {op:Op} (h:px T O op=some x):∃y,cW T s op=some y/\aK Z x y:=by
 unfold px at h;split at h
 ·exact cu hs h
 ·exact cu hs h
 ·rename_i c a b;split at h
  ·rename_i hc;obtain⟨y,h1,h2⟩:=cu hs hc;simp only[aK]at h2;subst h2;obtain⟨z,h3,h4⟩:=cu hs h;exact⟨z,by simp only[cW,h1,h3],h4⟩
  ·rename_i hc;obtain⟨y,h1,h2⟩:=cu hs hc;simp only[aK]at h2;subst h2;obtain⟨z,h3,h4⟩:=cu hs h;exact⟨z,by simp only[cW,h1,h3],h4⟩
  ·cases h
 ·rename_i y i;split at h
  ·rename_i xs hy;obtain⟨z,h1,h2⟩:=cu hs hy;simp only[aK]at h2;obtain⟨ys,rfl,h2⟩:=h2;obtain⟨u,h3,h4⟩:=h2.nth h;exact⟨u,by simp only[cW,h1,h3],h4⟩
  ·cases h
 ·rename_i t y f;split at h
  ·rename_i xs fs _ _ _ hy ht;split at h
   ·rename_i off ft k g hf;obtain⟨z,h1,h2⟩:=cu hs hy;simp only[aK]at h2;obtain⟨ys,rfl,h2⟩:=h2;split at h
    ·simp only[aE]at h;subst h;exact⟨_,by simp only[cW,h1,ht,hf,wi],D9 ((h2.drop off).take k)⟩
    ·obtain⟨u,h3,h4⟩:=h2.nth h;exact⟨u,by simp only[cW,h1,ht,hf,wi,h3],h4⟩
   ·cases h
  ·cases h
 ·rename_i t y f;split at h
  ·rename_i fs _ _ _ ht;split at h
   ·rename_i off ft k g hf;split at h
    ·rename_i tg o hy;simp only[aE]at h;subst h;obtain⟨z,h1,h2⟩:=cu hs hy;simp only[aK]at h2;obtain⟨b,t',h2,rfl⟩:=h2;exact⟨.own t' b (o+off),by simp only[cW,ht,hf,h1],by simp only[aK];exact⟨b,t',h2,rfl⟩⟩
    ·rename_i tg n o hy;simp only[aE]at h;subst h;obtain⟨z,h1,h2⟩:=cu hs hy;simp only[aK]at h2;obtain⟨a,c,t',h2,rfl⟩:=h2;exact⟨.oe t' (.slice a n c) (o+off),by simp only[cW,ht,hf,h1],by simp only[aK];exact⟨a,c,t',h2,rfl⟩⟩
    ·cases h
   ·cases h
  ·cases h
 ·rename_i y;split at h
  ·rename_i tg o hy;simp only[aE]at h;subst h;obtain⟨z,h1,h2⟩:=cu hs hy;have h3:=h2;simp only[aK]at h3;obtain⟨b,t',_,rfl⟩:=h3;exact⟨_,by simp only[cW,h1],h2⟩
  ·rename_i tg n o hy;simp only[aE]at h;subst h;obtain⟨z,h1,h2⟩:=cu hs hy;have h3:=h2;simp only[aK]at h3;obtain⟨a,c,t',_,rfl⟩:=h3;exact⟨_,by simp only[cW,h1],h2⟩
  ·rename_i f fs cs hy;simp only[aE]at h;subst h;obtain⟨z,h1,h2⟩:=cu hs hy;have h3:=h2;simp only[aK]at h3;obtain⟨us,vs,rfl,_⟩:=h3;exact⟨_,by simp only[cW,h1],h2⟩
  ·cases h
 ·rename_i t y;split at h
  ·cases h
  ·rename_i u i hne hy ht;simp only[aE]at h;subst h;obtain⟨z,h1,h2⟩:=cu hs hy;refine⟨.bP t z,?_,by simp only[aK];exact⟨z,rfl,h2⟩⟩;simp only[cW,h1,ht]
  ·cases h
 ·rename_i y xt t ok;split at h
  ·cases h
  ·rename_i u y' i hne hy ht;obtain⟨z,h1,h2⟩:=cu hs hy;simp only[aK]at h2;obtain⟨z',rfl,h2⟩:=h2;have key:cW T s (.typeAssert y xt t ok)=(match(generalizing:=false) Nat.beq u t,ok with
     |true,true=>some (AV.bY [z',.v (.bool true)])
     |true,false=>some z'
     |false,_=>none):=by
    simp only[cW,h1,ht];rfl
   rw[key];cases hb:Nat.beq u t with
   |false=>rw[hb]at h;cases h
   |true=>
    rw[hb]at h;cases ok with
    |true=>
     simp only[aE]at h;subst h;refine⟨_,rfl,?_⟩;simp only[aK,aS];exact⟨_,rfl,_,_,rfl,h2,_,_,rfl,rfl,rfl⟩
    |false=>
     simp only[aE]at h;subst h;exact⟨_,rfl,h2⟩
  ·cases h
 ·rename_i f first caps
  split at h
  ·rename_i fs cs h1 h2;obtain⟨us,h3,h4⟩:=tW hs h1;obtain⟨vs,h5,h6⟩:=tW hs h2;split at h
   ·cases h
   ·rename_i hne;simp only[aE]at h;subst h;refine⟨.fn f us vs,?_,by simp only[aK];exact⟨us,vs,rfl,h4,h6⟩⟩;simp only[cW,h3,h5];cases hr:qD fs with
    |true=>rw[Ij hr h4]
    |false=>cases hr':qD cs with
     |true=>rw[Ij hr' h6];cases pe us<;>rfl
     |false=>exact(hne hr hr').elim
  ·cases h
 ·rename_i t parts;split at h
  ·rename_i fs _ _ z ht;split at h
   ·rename_i cells hf;simp only[aE]at h;subst h;obtain⟨r',h1,h2⟩:=PU hs hf (jv _);exact⟨.agg r',by simp only[cW,ht,h1],D9 h2⟩
   ·cases h
  ·cases h
 ·cases h
theorem bl.px (h:px E.T O o.op=some x):bl E N o O L x:=λZ s LB hs _=>by
 obtain⟨y,h1,h2⟩:=Sw hs h;exact⟨y,h2,ck.cW h1⟩
def FU (T:cn) (t:TypeId) (cs:List CV) (o:Nat):Option CV:=
 match bc T t with
 |some ⟨d,k,_,_⟩=>match d.agg with
  |true=>match Nat.ble k (cs.drop o).length with
   |true=>some (wh ((cs.drop o).take k))
   |false=>none
  |false=>nth cs o
 |none=>none
theorem Ii:∀{l:List AV} {n:Nat},n<=l.length->fits l n=true
 |_,0,_=>by simp[fits]
 |[],n+1,h=>by simp at h
 |_::r,n+1,h=>by simp only[fits];exact Ii (by simpa using h)
theorem abG {Z:aN} {T:cn} {t:TypeId} {cs:List CV} {us:List AV} {off:Nat} (h:FU T t cs off=some x) (hc:aS Z cs us):∃y,kx T t us off=some y/\aK Z x y:=by
 unfold FU at h;split at h
 ·rename_i d k b z ht;split at h
  ·rename_i hd;split at h
   ·rename_i hle;simp only[aE]at h;subst h;have hle:=eH hle;refine⟨.agg ((us.drop off).take k),?_,D9 ((hc.drop off).take k)⟩;simp only[kx,ht,hd];rw[Ii (by rw[(hc.drop off).length];exact hle)]
   ·cases h
  ·rename_i hd;obtain⟨y,h1,h2⟩:=hc.nth h;exact⟨y,by simp only[kx,ht,hd,h1],h2⟩
 ·cases h
theorem PV {p:Operand} (h:aY O p=some x) (hx:∀y,x≠ .d y):∃t,p= .tmp t/\O.get t=some x:=by
 cases p with
 |tmp t=>exact⟨t,rfl,h⟩
 |const v=>simp only[aY,aE]at h;exact(hx _ h.symm).elim
 |global g=>simp only[aY,aE]at h;exact(hx _ h.symm).elim
 |func f=>simp only[aY,aE]at h;exact(hx _ h.symm).elim
theorem bl.load {t:TypeId} {p:Operand} {i off:Nat} {cs:List CV} (ho:o.op= .load t p) (hp:aY O p=some (.own i off)) (hi:L.e.get i=some (.box cs)) (hl:FU E.T t cs off=some x):bl E N o O L x:=λZ s LB hs hh=>by
 obtain⟨y,h1,h2⟩:=cu hs hp;simp only[aK]at h2;obtain⟨b,t',h3,rfl⟩:=h2;obtain⟨z,h4,h5⟩:=hh.en i _ hi;obtain⟨b',cs',h6,rfl,h7⟩:=h5;rw[h3]at h6;cases h6;obtain⟨q,h8,h9⟩:=abG hl h7;exact⟨q,h9,ck.oC (adp ho (by rw[fV (by simp[ho,Op.operands])];exact h1) h4 h8)⟩
def gq (s:Sl) (t:Nat) (x:AV):Sl:=λu=>if u=t then some x else s u
theorem ck.known {C:Cx} {s:Sl} {LB:List aq} {t:Nat} {x:AV} {y z:AV} (h:ck C N o (gq s t z) LB x) (ht:s t=some y) (hk:∀F w v,bM C.G w F LB->Rel w (Al F LB) y v->Rel w (Al F LB) z v):ck C N o s LB x:=
 h.agb λF w a hh hs u hu q hq=>by
  unfold gq at hq;split at hq
  ·rename_i hut;subst hut;simp only[aE]at hq;subst hq;obtain⟨h1,h2⟩:=hs u hu y ht;exact⟨h1,hk F w _ hh h2⟩
  ·exact hs u hu q hq
theorem rA {G:Gl} {w:World} {F:Nat->Prop} {LB:List aq} (hh:bM G w F LB) {i:Nat} {x:AV} {v:Value} (h:nth LB i=some (.fact x v)):Rel w (Al F LB) x v:=ju hh h
theorem Rel.J6 {w:World} {A:Nat->Prop} {cs:List AV} {b:Nat} (off:Nat) (h:Rel w A (.ip cs) (.pointer (some ⟨b,0,none⟩))):Rel w A (.ip (cs.drop off)) (.pointer (some ⟨b,off,none⟩)):=by
 simp only[Rel]at h⊢;obtain⟨b',o',vs,e1,e2,e3,e4⟩:=h;cases e1;exact⟨b,off,vs.drop off,rfl,e2,e3.drop off,λj u hj=>by rw[xQ]at hj;have:=e4 _ _ hj;simpa using this⟩
theorem bl.agK {t:TypeId} {p:Operand} {i off:Nat} {cs:List AV} {y:AV} (ho:o.op= .load t p) (hp:aY O p=some (.own i off)) (hi:L.e.get i=some (.mx cs)) (hl:kx E.T t (cs.drop off) 0=some y):bl E N o O L (.d y):=λZ s LB hs hh=>by
 obtain⟨u,rfl,hu⟩:=PV hp (λ_ h=>by cases h);obtain⟨z,h1,h2⟩:=hs u _ hu;simp only[aK]at h2;obtain⟨b,t',h3,rfl⟩:=h2;obtain⟨z,h4,h5⟩:=hh.en i _ hi;obtain⟨b',h6,rfl⟩:=h5;rw[h3]at h6;cases h6;refine⟨y,rfl,ck.known (t:=u) (z:= .ip (cs.drop off)) (ck.cW ?_) h1 λF w v hH hr=>?_⟩
 ·rw[ho];unfold kx at hl;simp only[Bw.cW,ev,gq,if_true];split at hl
  ·rename_i d k b z ht;simp only[ht];simp only[List.drop_zero]at hl;rw[<-hl];cases d.agg<;>rfl
  ·cases hl
 ·simp only[Rel]at hr;subst hr;exact(rA hH h4).J6 off
theorem bl.len {t:TypeId} {p:Operand} {i n e k sz by':Nat} {z:List Value} (ho:o.op= .call {callee:= .builtin .len,args:= #[p],argTypes:= #[t]}) (hp:aY O p=some (.os i n)) (ht:bc E.T t=some ⟨.slice e k,sz,by',z⟩):bl E N o O L (.d (.v (.int .i64 (n:Int)))):=λZ s LB hs _=>by
 obtain⟨y,h1,h2⟩:=cu hs hp;simp only[aK]at h2;obtain⟨a,c,t',h3,rfl⟩:=h2;exact⟨_,rfl,ck.len ho h1 (by simp[wG,ht])⟩
theorem bl.ait {t:TypeId} {p:Operand} {y:AV} {n:Int} (ho:o.op= .call {callee:= .builtin .len,args:= #[p],argTypes:= #[t]}) (hp:aY O p=some (.d y)) (hl:wG E.T t y=some n):bl E N o O L (.d (.v (.int .i64 n))):=λZ s LB hs _=>by
 obtain⟨z,h1,h2⟩:=cu hs hp;simp only[aK]at h2;subst h2;exact⟨_,rfl,ck.len ho h1 hl⟩
theorem bl.US {t:TypeId} {p ix:Operand} {i n e k sz by':Nat} {z:List Value} {rows:List (List AV)} {kd:IntKind} {m:Int} (j:Nat) (ho:o.op= .indexAddr t p ix) (hp:aY O p=some (.os i n)) (hi:L.e.get i=some (.row e k rows)) (hn:n=rows.length)
  (ht:bc E.T t=some ⟨.slice e k,sz,by',z⟩) (hix:aY O ix=some (.d (.v (.int kd m)))) (hm:m=(j:Int)) (hj:j<rows.length):bl E N o O L (.oe i n (j*k)):=λZ s LB hs hh=>by
 obtain⟨y,h1,h2⟩:=cu hs hp;simp only[aK]at h2;obtain⟨a,c,t',h3,rfl⟩:=h2;obtain⟨y',h4,h5⟩:=cu hs hix;simp only[aK]at h5;subst h5;obtain⟨q,h6,h7⟩:=hh.en i _ hi;obtain⟨⟨a',c',h8,rfl⟩,_⟩:=h7;subst hn;rw[h3]at h8;cases h8;refine⟨.oe i (.slice a rows.length c) (j*k),by simp only[aK];exact⟨a,c,i,h3,rfl⟩,?_⟩;exact ck.oC (abH ho j ht (by rw[fV (by simp[ho,Op.operands])];exact h1) h6 (by rw[fV (by simp[ho,Op.operands])];exact h4) hm hj)
theorem bl.Sx {t:TypeId} {p:Operand} {i n m e k:Nat} {rows:List (List AV)} {r:List AV} {y:AV} (j off:Nat) (ho:o.op= .load t p) (hp:aY O p=some (.oe i n m)) (hi:L.e.get i=some (.row e k rows)) (hn:n=rows.length) (hm:m=j*k+off) (hr:rows[j]? =some r)
  (hl:kx E.T t r off=some y):bl E N o O L (.d y):=λZ s LB hs hh=>by
 obtain⟨z,h1,h2⟩:=cu hs hp;simp only[aK]at h2;obtain⟨a,c,t',h3,rfl⟩:=h2;obtain⟨q,h6,h7⟩:=hh.en i _ hi;obtain⟨⟨a',c',h8,rfl⟩,_⟩:=h7;subst hn;rw[h3]at h8;cases h8;exact⟨y,rfl,ck.oC (aa' ho j off (by rw[fV (by simp[ho,Op.operands])];exact h1) hm h6 hr hl)⟩
theorem bl.ais {t:TypeId} {p ix:Operand} {i n e k sz by':Nat} {z:List Value} {rows:List (List AV)} {r:List AV} {kd:IntKind} {m:Int} (j:Nat) (ho:o.op= .indexAddr t p ix) (hp:aY O p=some (.os i n)) (hi:L.e.get i=some (.jJ k rows)) (hn:n=rows.length)
  (ht:bc E.T t=some ⟨.slice e k,sz,by',z⟩) (hix:aY O ix=some (.d (.v (.int kd m)))) (hm:m=(j:Int)) (hr:rows[j]? =some r):bl E N o O L (.d (.ip r)):=λZ s LB hs hh=>by
 obtain⟨u,rfl,hu⟩:=PV hp (λ_ h=>by cases h);obtain⟨y,h1,h2⟩:=hs u _ hu;simp only[aK]at h2;obtain⟨a,c,t',h3,rfl⟩:=h2;obtain⟨q,h6,h7⟩:=hh.en i _ hi;obtain⟨a',c',h8,rfl⟩:=h7;subst hn;rw[h3]at h8;cases h8;obtain⟨y',h4,h5⟩:=cu hs hix;simp only[aK]at h5;subst h5;subst hm;refine⟨.ip r,rfl,ck.known (t:=u) (z:= .sl k rows) ?_ h1 λF w v hH hrl=>?_⟩
 ·refine ck.eS (E:=E) ?_;have hev:ev (gq s u (.sl k rows)) ix=some (.v (.int kd (j:Int))):=by
   cases ix with
   |tmp q=>
    simp only[ev,gq]at h4⊢;split
    ·rename_i hq;subst hq;rw[h1]at h4;cases h4
    ·exact h4
   |const v=>exact h4
   |global g=>exact h4
   |func f=>exact h4
  have hnat:ox (some (.v (.int kd (j:Int))))=some j:=rfl;rw[ho];simp only[Bw.eS,hev,hnat,ht,DF,cM];simp[ev,gq,hr]
 ·simp only[Rel]at hrl;subst hrl;exact rA hH h6
