/- An abstract machine over the program logic: its values name own blocks by tags, so that its steps can be computed. First part: values, slots, heap, what they say, the judgement. -/
import Derived.Test.YtmbalfjhlngncaaGreatKB10
set_option linter.all false
noncomputable section
namespace Go.Bw
open Go
inductive CV where
 |d (x:AV)
 |agg (xs:List CV)
 |bX (xs:List CV)
 |own (t off:Nat)
 |os (t n:Nat)
 |oe (t n off:Nat)
 |om (t:Nat)
 |fn (f:FuncId) (fs cs:List CV)
 |bC (ty:TypeId) (x:CV)
structure aJ where
 b:Nat->Option Nat
 s:Nat->Nat->Option (Option Addr×Nat)
def aJ.le (W W':aJ):Prop:=(∀t x,W.b t=some x->W'.b t=some x)/\∀t n x,W.s t n=some x->W'.s t n=some x
theorem aJ.le.refl (W:aJ):W.le W:=⟨λ_ _ h=>h,λ_ _ _ h=>h⟩
theorem aJ.le.trans {W W' W'':aJ} (h:W.le W') (g:W'.le W''):W.le W'':=⟨λt x hx=>g.1 t x (h.1 t x hx),λt n x hx=>g.2 t n x (h.2 t n x hx)⟩
mutual
def aG (W:aJ):CV->AV->Prop
 | .d x,y=>y=x
 | .agg xs,y=>∃ys,y= .agg ys/\aQ W xs ys
 | .bX xs,y=>∃ys,y= .bX ys/\aQ W xs ys
 | .own t o,y=>∃b t',W.b t=some b/\y= .own t' b o
 | .os t n,y=>∃a c t',W.s t n=some (a,c)/\y= .os t' a n c
 | .oe t n o,y=>∃a c t',W.s t n=some (a,c)/\y= .oe t' (.slice a n c) o
 | .om t,y=>∃b t',W.b t=some b/\y= .om t' b
 | .fn f fs cs,y=>∃us vs,y= .fn f us vs/\aQ W fs us/\aQ W cs vs
 | .bC t x,y=>∃u,y= .bC t u/\aG W x u
def aQ (W:aJ):List CV->List AV->Prop
 |[],ys=>ys=[]
 |x::xs,ys=>∃y r,ys=y::r/\aG W x y/\aQ W xs r
end
section
variable {W W':aJ}
mutual
theorem aG.mono (h:W.le W'):∀{x:CV} {y:AV},aG W x y->aG W' x y
 | .d x,_,h1=>by simp only[aG]at h1⊢;exact h1
 | .agg xs,_,h1=>by simp only[aG]at h1⊢;obtain⟨ys,e,h2⟩:=h1;exact⟨ys,e,aQ.mono h h2⟩
 | .bX xs,_,h1=>by simp only[aG]at h1⊢;obtain⟨ys,e,h2⟩:=h1;exact⟨ys,e,aQ.mono h h2⟩
 | .own t o,_,h1=>by simp only[aG]at h1⊢;obtain⟨b,t',e,h2⟩:=h1;exact⟨b,t',h.1 _ _ e,h2⟩
 | .os t n,_,h1=>by simp only[aG]at h1⊢;obtain⟨a,c,t',e,h2⟩:=h1;exact⟨a,c,t',h.2 _ _ _ e,h2⟩
 | .oe t n o,_,h1=>by simp only[aG]at h1⊢;obtain⟨a,c,t',e,h2⟩:=h1;exact⟨a,c,t',h.2 _ _ _ e,h2⟩
 | .om t,_,h1=>by simp only[aG]at h1⊢;obtain⟨b,t',e,h2⟩:=h1;exact⟨b,t',h.1 _ _ e,h2⟩
 | .fn f fs cs,_,h1=>by simp only[aG]at h1⊢;obtain⟨us,vs,e,h2,h3⟩:=h1;exact⟨us,vs,e,aQ.mono h h2,aQ.mono h h3⟩
 | .bC t x,_,h1=>by simp only[aG]at h1⊢;obtain⟨u,e,h2⟩:=h1;exact⟨u,e,aG.mono h h2⟩
theorem aQ.mono (h:W.le W'):∀{x:List CV} {y:List AV},aQ W x y->aQ W' x y
 |[],_,h1=>by simp only[aQ]at h1⊢;exact h1
 |_::_,_,h1=>by simp only[aQ]at h1⊢;obtain⟨y,r,e,h2,h3⟩:=h1;exact⟨y,r,e,aG.mono h h2,aQ.mono h h3⟩
end
theorem aQ.length:∀{xs:List CV} {ys:List AV},aQ W xs ys->ys.length=xs.length
 |[],_,h=>by simp only[aQ]at h;simp[h]
 |_::_,_,h=>by simp only[aQ]at h;obtain⟨y,r,rfl,_,h⟩:=h;simp[aQ.length h]
theorem aQ.nth:∀{xs:List CV} {ys:List AV} {n:Nat} {x:CV},aQ W xs ys->Bw.nth xs n=some x->∃y,Bw.nth ys n=some y/\aG W x y
 |[],_,_,_,_,h=>by simp[Bw.nth]at h
 |y::_,ys,0,x,hr,h=>by
  simp only[aQ]at hr;obtain⟨v,r,rfl,h1,_⟩:=hr;simp only[Bw.nth,aC]at h;subst h;exact⟨v,by simp[Bw.nth],h1⟩
 |_::xs,ys,n+1,x,hr,h=>by
  simp only[aQ]at hr;obtain⟨v,r,rfl,_,h2⟩:=hr;simp only[Bw.nth]at h;obtain⟨u,h3,h4⟩:=aQ.nth h2 h;exact⟨u,by simpa[Bw.nth]using h3,h4⟩
theorem aQ.drop:∀(n:Nat) {xs:List CV} {ys:List AV},aQ W xs ys->aQ W (xs.drop n) (ys.drop n)
 |0,_,_,h=>by simpa using h
 |n+1,[],_,h=>by simp only[aQ]at h;subst h;simp[aQ]
 |n+1,_::_,_,h=>by simp only[aQ]at h;obtain⟨v,r,rfl,_,h⟩:=h;simpa using aQ.drop n h
theorem aQ.take:∀(n:Nat) {xs:List CV} {ys:List AV},aQ W xs ys->aQ W (xs.take n) (ys.take n)
 |0,_,_,_=>by simp[aQ]
 |n+1,[],_,h=>by simp only[aQ]at h;subst h;simp[aQ]
 |n+1,_::_,_,h=>by simp only[aQ]at h;obtain⟨v,r,rfl,h1,h⟩:=h;simp only[vX,aQ];exact⟨v,_,rfl,h1,aQ.take n h⟩
theorem aQ.append:∀{xs xs':List CV} {ys ys':List AV},aQ W xs ys->aQ W xs' ys'->aQ W (xs++xs') (ys++ys')
 |[],_,_,_,h,g=>by simp only[aQ]at h;subst h;simpa using g
 |_::_,_,_,_,h,g=>by simp only[aQ]at h;obtain⟨v,r,rfl,h1,h⟩:=h;simp only[ke,aQ];exact⟨v,_,rfl,h1,aQ.append h g⟩
theorem iq:∀(xs:List AV),aQ W (xs.map .d) xs
 |[]=>by simp[aQ]
 |x::r=>by simp only[dg,aQ,aG];exact⟨_,_,rfl,rfl,iq r⟩
def fL:List CV->Option (List AV)
 |[]=>some []
 | .d x::r=>match fL r with
  |some xs=>some (x::xs)
  |none=>none
 |_::_=>none
theorem mr:∀{xs:List CV} {ys zs:List AV},fL xs=some zs->aQ W xs ys->ys=zs
 |[],ys,zs,h,hr=>by simp only[fL,aC]at h;simp only[aQ]at hr;rw[hr,<-h]
 |x::r,ys,zs,h,hr=>by
  cases x<;>simp only[fL]at h<;>try (cases h;done)
  split at h
  ·rename_i zs' h1;simp only[aC]at h;simp only[aQ]at hr;obtain⟨v,r',rfl,h2,h3⟩:=hr;simp only[aG]at h2;rw[h2,mr h1 h3,h]
  ·cases h
def uJ (xs:List CV):CV:=match fL xs with
 |some ys=> .d (.agg ys)
 |none=> .agg xs
theorem Cj {xs:List CV} {ys:List AV} (h:aQ W xs ys):aG W (uJ xs) (.agg ys):=by
 unfold uJ;split
 ·rename_i zs hz;simp only[aG];rw[mr hz h]
 ·simp only[aG];exact⟨ys,rfl,h⟩
def Iv (xs:List CV):CV:=match fL xs with
 |some ys=> .d (.bX ys)
 |none=> .bX xs
theorem NZ {xs:List CV} {ys:List AV} (h:aQ W xs ys):aG W (Iv xs) (.bX ys):=by
 unfold Iv;split
 ·rename_i zs hz;simp only[aG];rw[mr hz h]
 ·simp only[aG];exact⟨ys,rfl,h⟩
end
def Tr.put {α:Type}:Nat->Tr α->Nat->Option α->Tr α
 |0,_,_,_=> .lf
 |f+1,.lf,n,y=> @Bool.rec (λ_=>Tr α) (@Bool.rec (λ_=>Tr α) (.nd none .lf (Tr.put f .lf (Nat.pred (iF n)) y)) (.nd none (Tr.put f .lf (iF n) y) .lf) (Nat.beq (jT n) 1)) (.nd y .lf .lf) (Nat.beq n 0)
 |f+1,.nd x l r,n,y=> @Bool.rec (λ_=>Tr α) (@Bool.rec (λ_=>Tr α) (.nd x l (Tr.put f r (Nat.pred (iF n)) y)) (.nd x (Tr.put f l (iF n) y) r) (Nat.beq (jT n) 1)) (.nd y l r) (Nat.beq n 0)
theorem Tr.ae2 {α:Type} (t:Tr α) (n:Nat) (y:Option α):Tr.put 0 t n y= .lf:=rfl
theorem Tr.DN {α:Type} (f n:Nat) (y:Option α):Tr.put (f+1) .lf n y=match Nat.beq n 0 with
  |true=> .nd y .lf .lf
  |false=>match Nat.beq (jT n) 1 with
   |true=> .nd none (Tr.put f .lf (iF n) y) .lf
   |false=> .nd none .lf (Tr.put f .lf (Nat.pred (iF n)) y):=by
 rw[Tr.put]
 all_goals cases Nat.beq n 0
 all_goals first|rfl|(cases Nat.beq (jT n) 1<;>rfl)
theorem Tr.DP {α:Type} (f:Nat) (x:Option α) (l r:Tr α) (n:Nat) (y:Option α):Tr.put (f+1) (.nd x l r) n y=match Nat.beq n 0 with
  |true=> .nd y l r
  |false=>match Nat.beq (jT n) 1 with
   |true=> .nd x (Tr.put f l (iF n) y) r
   |false=> .nd x l (Tr.put f r (Nat.pred (iF n)) y):=by
 rw[Tr.put]
 all_goals cases Nat.beq n 0
 all_goals first|rfl|(cases Nat.beq (jT n) 1<;>rfl)
def Tr.cN {α R:Type}:Nat->Tr α->Nat->Option α->(Tr α->R)->R
 |0,_,_,_,k=>k .lf
 |f+1,.lf,n,y,k=> @Bool.rec (λ_=>R) (@Bool.rec (λ_=>R) (Tr.cN f .lf (Nat.pred (iF n)) y λr=>k (.nd none .lf r)) (Tr.cN f .lf (iF n) y λl=>k (.nd none l .lf)) (Nat.beq (jT n) 1)) (k (.nd y .lf .lf)) (Nat.beq n 0)
 |f+1,.nd x l r,n,y,k=> @Bool.rec (λ_=>R) (@Bool.rec (λ_=>R) (Tr.cN f r (Nat.pred (iF n)) y λr=>k (.nd x l r)) (Tr.cN f l (iF n) y λl=>k (.nd x l r)) (Nat.beq (jT n) 1)) (k (.nd y l r)) (Nat.beq n 0)
theorem Tr.dN {α R:Type}:∀(f:Nat) (t:Tr α) (n:Nat) (y:Option α) (k:Tr α->R),Tr.cN f t n y k=k (Tr.put f t n y)
 |0,_,_,_,_=>rfl
 |f+1,.lf,n,y,k=>by
  rw[Tr.DN,Tr.cN];cases Nat.beq n 0 with
  |true=>rfl
  |false=>cases Nat.beq (jT n) 1<;>exact Tr.dN f _ _ _ _
 |f+1,.nd x l r,n,y,k=>by
  rw[Tr.DP,Tr.cN];cases Nat.beq n 0 with
  |true=>rfl
  |false=>cases Nat.beq (jT n) 1<;>exact Tr.dN f _ _ _ _
theorem gI {n m:Nat} (h:Nat.beq n m=false):n≠m:=λe=>by subst e;rw[v7]at h;cases h
theorem Tr.put_comm {α:Type}:∀(f:Nat) (t:Tr α) (n m:Nat) (y z:Option α),n≠m->Tr.put f (Tr.put f t n y) m z=Tr.put f (Tr.put f t m z) n y
 |0,_,_,_,_,_,_=>rfl
 |f+1,t,n,m,y,z,hne=>by
  have ih:=λ(t:Tr α) (n m:Nat) (y z:Option α) (h:n≠m)=>Tr.put_comm f t n m y z h;have hL:∀n m:Nat,n≠m->Nat.beq n 0=false->Nat.beq m 0=false->Nat.beq (Nat.mod n 2) 1=true->Nat.beq (Nat.mod m 2) 1=true->Nat.div n 2≠Nat.div m 2:=by
   intro n m h h1 h2 h3 h4;have h3:=bI h3;have h4:=bI h4;change n%2=1 at h3;change m%2=1 at h4;change ¬n/2=m/2;omega
  have hR:∀n m:Nat,n≠m->Nat.beq n 0=false->Nat.beq m 0=false->Nat.beq (Nat.mod n 2) 1=false->Nat.beq (Nat.mod m 2) 1=false->Nat.pred (Nat.div n 2)≠Nat.pred (Nat.div m 2):=by
   intro n m h h1 h2 h3 h4;have h1:=gI h1;have h2:=gI h2;have h3:=gI h3;have h4:=gI h4;change ¬n%2=1 at h3;change ¬m%2=1 at h4;change ¬n/2-1=m/2-1;omega
  cases h1:Nat.beq n 0<;>cases h2:Nat.beq m 0<;>cases h3:Nat.beq (Nat.mod n 2) 1<;>cases h4:Nat.beq (Nat.mod m 2) 1<;>cases t<;>simp only[Tr.DN,Tr.DP,lI,lJ,h1,h2,h3,h4]<;>
   first
   |(rw[ih _ _ _ _ _ (hL n m hne h1 h2 h3 h4)];done)
   |(rw[ih _ _ _ _ _ (hR n m hne h1 h2 h3 h4)];done)
   |(exact absurd ((bI h1).trans (bI h2).symm) hne)
   |skip
theorem Tr.eB {α:Type}:∀(f:Nat) (t:Tr α) (n m:Nat) (y:Option α) (z:α),(Tr.put f t n y).get m=some z->(m=n/\y=some z)\/(m≠n/\t.get m=some z)
 |0,_,_,_,_,_,h=>by simp[Tr.ae2,Tr.ku]at h
 |f+1,.lf,n,m,y,z,h=>by
  simp only[Tr.DN,Tr.DP,lI,lJ]at h;cases h0:Nat.beq n 0 with
  |true=>
   have:=bI h0;subst this;rw[h0]at h;simp only[Tr.oZ,lI,lJ]at h;cases hm:Nat.beq m 0 with
   |true=>rw[hm]at h;exact .inl ⟨bI hm,h⟩
   |false=>rw[hm]at h;simp only at h;cases hb:Nat.beq (Nat.mod m 2) 1<;>rw[hb]at h<;>cases h
  |false=>
   have hn:=gI h0;rw[h0]at h;simp only at h;cases h1:Nat.beq (Nat.mod n 2) 1 with
   |true=>
    rw[h1]at h;have h1:=bI h1;simp only[Tr.oZ,lI,lJ]at h;cases hm:Nat.beq m 0 with
    |true=>rw[hm]at h;cases h
    |false=>
     have hm:=gI hm;simp only[‹Nat.beq m 0=false›]at h;cases hb:Nat.beq (Nat.mod m 2) 1 with
     |true=>
      rw[hb]at h;have hb:=bI hb;rcases Tr.eB f .lf _ _ y z h with⟨h2,h3⟩|⟨_,h3⟩
      ·refine .inl ⟨?_,h3⟩;change n%2=1 at h1;change m%2=1 at hb;change m/2=n/2 at h2;omega
      ·simp[Tr.ku]at h3
     |false=>rw[hb]at h;cases h
   |false=>
    rw[h1]at h;have h1:=gI h1;simp only[Tr.oZ,lI,lJ]at h;cases hm:Nat.beq m 0 with
    |true=>rw[hm]at h;cases h
    |false=>
     have hm:=gI hm;simp only[‹Nat.beq m 0=false›]at h;cases hb:Nat.beq (Nat.mod m 2) 1 with
     |true=>rw[hb]at h;cases h
     |false=>
      rw[hb]at h;have hb:=gI hb;rcases Tr.eB f .lf _ _ y z h with⟨h2,h3⟩|⟨_,h3⟩
      ·refine .inl ⟨?_,h3⟩;change ¬n%2=1 at h1;change ¬m%2=1 at hb;change m/2-1=n/2-1 at h2;omega
      ·simp[Tr.ku]at h3
 |f+1,.nd x l r,n,m,y,z,h=>by
  simp only[Tr.DN,Tr.DP,lI,lJ]at h;cases h0:Nat.beq n 0 with
  |true=>
   have:=bI h0;subst this;rw[h0]at h;simp only[Tr.oZ,lI,lJ]at h⊢;cases hm:Nat.beq m 0 with
   |true=>rw[hm]at h;exact .inl ⟨bI hm,h⟩
   |false=>rw[hm]at h;exact .inr ⟨gI hm,h⟩
  |false=>
   have hn:=gI h0;rw[h0]at h;simp only at h;cases h1:Nat.beq (Nat.mod n 2) 1 with
   |true=>
    rw[h1]at h;have h1:=bI h1;simp only[Tr.oZ,lI,lJ]at h⊢;cases hm:Nat.beq m 0 with
    |true=>rw[hm]at h;exact .inr ⟨λe=>hn (by rw[<-e];exact bI hm),h⟩
    |false=>
     rw[hm]at h;simp only at h⊢;have hm:=gI hm;cases hb:Nat.beq (Nat.mod m 2) 1 with
     |true=>
      rw[hb]at h;have hb:=bI hb;change n%2=1 at h1;change m%2=1 at hb;rcases Tr.eB f l _ _ y z h with⟨h2,h3⟩|⟨h2,h3⟩
      ·refine .inl ⟨?_,h3⟩;change m/2=n/2 at h2;omega
      ·refine .inr ⟨?_,h3⟩;change ¬m/2=n/2 at h2;omega
     |false=>
      rw[hb]at h;have hb:=gI hb;change n%2=1 at h1;change ¬m%2=1 at hb;exact .inr ⟨by omega,h⟩
   |false=>
    rw[h1]at h;have h1:=gI h1;simp only[Tr.oZ,lI,lJ]at h⊢;cases hm:Nat.beq m 0 with
    |true=>rw[hm]at h;exact .inr ⟨λe=>hn (by rw[<-e];exact bI hm),h⟩
    |false=>
     rw[hm]at h;simp only at h⊢;have hm:=gI hm;cases hb:Nat.beq (Nat.mod m 2) 1 with
     |true=>
      rw[hb]at h;have hb:=bI hb;change ¬n%2=1 at h1;change m%2=1 at hb;exact .inr ⟨by omega,h⟩
     |false=>
      rw[hb]at h;have hb:=gI hb;change ¬n%2=1 at h1;change ¬m%2=1 at hb;rcases Tr.eB f r _ _ y z h with⟨h2,h3⟩|⟨h2,h3⟩
      ·refine .inl ⟨?_,h3⟩;change m/2-1=n/2-1 at h2;omega
      ·refine .inr ⟨?_,h3⟩;change ¬m/2-1=n/2-1 at h2;omega
abbrev TS:=Tr CV
inductive br where
 |box (cs:List CV)
 |row (e k:Nat) (rows:List (List AV))
 |map (es:List (Value×CV))
 |lj (cs:List AV)
 |iH (k:Nat) (rows:List (List AV))
 |set (l:List (List UInt8))
 |gone
structure Hp where
 e:Tr br
 n:Nat
def jN (W:aJ):List (Value×CV)->List (Value×AV)->Prop
 |[],ys=>ys=[]
 |x::xs,ys=>∃y r,ys=y::r/\y.1=x.1/\aG W x.2 y.2/\jN W xs r
theorem jN.mono {W W':aJ} (h:W.le W'):∀{xs:List (Value×CV)} {ys:List (Value×AV)},jN W xs ys->jN W' xs ys
 |[],_,h1=>by simp only[jN]at h1⊢;exact h1
 |_::_,_,h1=>by simp only[jN]at h1⊢;obtain⟨y,r,e,h2,h3,h4⟩:=h1;exact⟨y,r,e,h2,h3.mono h,jN.mono h h4⟩
def iD (l:List (List UInt8)):List (Value×AV):=l.map λs=>(.string ⟨⟨s⟩⟩,.v (.bool true))
def lT (W:aJ) (i:Nat):br->aq->Prop
 | .box cs,y=>∃b cs',W.b i=some b/\y= .box b cs'/\aQ W cs cs'
 | .row e k rows,y=>(∃a c,W.s i rows.length=some (a,c)/\y= .row (.slice a rows.length c) e k rows)/\∀m,rows.length<m->W.s i m=none
 | .map es,y=>∃b es',W.b i=some b/\y= .map b es'/\jN W es es'
 | .lj cs,y=>∃b,W.b i=some b/\y= .fact (.ip cs) (.pointer (some ⟨b,0,none⟩))
 | .iH k rows,y=>∃a c,W.s i rows.length=some (a,c)/\y= .fact (.sl k rows) (.slice a rows.length c)
 | .set l,y=>∃b,W.b i=some b/\y= .map b (iD l)
 | .gone,_=>True
theorem lT.mono {W W':aJ} (h:W.le W') {i:Nat} (hi:W'.s i=W.s i) {x:br} {y:aq} (hx:lT W i x y):lT W' i x y:=by
 cases x with
 |box cs=>obtain⟨b,cs',h1,h2,h3⟩:=hx;exact⟨b,cs',h.1 _ _ h1,h2,h3.mono h⟩
 |row e k rows=>obtain⟨⟨a,c,h1,h2⟩,h3⟩:=hx;exact⟨⟨a,c,by rw[hi];exact h1,h2⟩,λm hm=>by rw[hi];exact h3 m hm⟩
 |map es=>obtain⟨b,es',h1,h2,h3⟩:=hx;exact⟨b,es',h.1 _ _ h1,h2,h3.mono h⟩
 |lj cs=>obtain⟨b,h1,h2⟩:=hx;exact⟨b,h.1 _ _ h1,h2⟩
 |iH k rows=>obtain⟨a,c,h1,h2⟩:=hx;exact⟨a,c,h.2 _ _ _ h1,h2⟩
 |set l=>obtain⟨b,h1,h2⟩:=hx;exact⟨b,h.1 _ _ h1,h2⟩
 |gone=>trivial
def SS (W:aJ) (Z:TS) (s:Sl):Prop:=∀t x,Z.get t=some x->∃y,s t=some y/\aG W x y
theorem SS.mono {W W':aJ} (h:W.le W') {Z:TS} {s:Sl} (hs:SS W Z s):SS W' Z s:=λt x hx=>by
 obtain⟨y,h1,h2⟩:=hs t x hx;exact⟨y,h1,h2.mono h⟩
structure HS (W:aJ) (O:Hp) (ηB:List aq):Prop where
 en:∀i x,O.e.get i=some x->∃y,nth ηB i=some y/\lT W i x y
 len:ηB.length=O.n
 gQ:∀t,O.n<=t->W.b t=none/\∀n,W.s t n=none
def bW (Z:TS) (dst:Option Nat) (x:CV):TS:=match dst with
 |some d=>Tr.put 24 Z d (some x)
 |none=>Z
theorem SS.put {W:aJ} {Z:TS} {ZB:Sg} (h:SS W Z (look ZB)) (dst:Option Nat) {x:CV} {y:AV} (hx:aG W x y):SS W (bW Z dst x) (look (jP dst y ZB)):=by
 cases dst with
 |none=>exact h
 |some d=>
  intro t z hz;rcases Tr.eB 24 Z d t (some x) z hz with⟨rfl,h1⟩|⟨hne,h1⟩
  ·cases h1;exact⟨y,by simp[jP,look],hx⟩
  ·obtain⟨u,h2,h3⟩:=h t z h1;refine⟨u,?_,h3⟩;have:Nat.beq d t=false:=by cases hb:Nat.beq d t with
    |false=>rfl
    |true=>exact absurd (bI hb).symm hne
   simp only[jP,look,this];exact h2
inductive DE where
 |norm
 |exit (id:Nat)
 |ret
 |aO (x:CV)
def DE.inst (W:aJ):DE->AE->Prop
 | .norm,e=>e= .norm
 | .exit i,e=>e= .exit i
 | .ret,e=>e= .ret
 | .aO x,e=>∃y,e= .aO y/\aG W x y
abbrev DQ:=DE->TS->Hp->Prop
def DE.sl (e:DE) (Z:TS):TS:=match e with
 | .aO _=> .lf
 |_=>Z
def aJ.fQ (K:Nat) (W W':aJ):Prop:=∀t,t<K->(∀x,W.b t=some x->W'.b t=some x)/\∀n x,W.s t n=some x->W'.s t n=some x
theorem aJ.fQ.refl (K:Nat) (W:aJ):aJ.fQ K W W:=λ_ _=>⟨λ_ h=>h,λ_ _ h=>h⟩
theorem aJ.fQ.trans {K:Nat} {W W' W'':aJ} (h:aJ.fQ K W W') (g:aJ.fQ K W' W''):aJ.fQ K W W'':=λt ht=>⟨λx hx=>(g t ht).1 x ((h t ht).1 x hx),λn x hx=>(g t ht).2 n x ((h t ht).2 n x hx)⟩
theorem aJ.le.toK {W W':aJ} (h:W.le W') (K:Nat):aJ.fQ K W W':=λt _=>⟨h.1 t,h.2 t⟩
theorem aJ.fQ.less {K K':Nat} {W W':aJ} (h:aJ.fQ K W W') (hk:K'<=K):aJ.fQ K' W W':=λt ht=>h t (lC ht hk)
def lift (K:Nat) (W:aJ) (Q:DQ):AQ:=λe ZB ηB=>∃W' d Z O,aJ.fQ K W W'/\DE.inst W' d e/\SS W' Z (look ZB)/\HS W' O ηB/\Q d Z O
theorem p9 {K:Nat} {W W':aJ} (h:aJ.fQ K W W') {Q Q':DQ} (hq:∀e Z O,Q e Z O->Q' e Z O) {e:AE} {ZB:Sg} {ηB:List aq} (hl:lift K W' Q e ZB ηB):lift K W Q' e ZB ηB:=by
 obtain⟨W1,d,Z,O,h1,h2,h3,h4,h5⟩:=hl;exact⟨W1,d,Z,O,h.trans h1,h2,h3,h4,hq _ _ _ h5⟩
def DC (E:Env) (N K:Nat) (c:Code) (Q:DQ) (Z:TS) (O:Hp):Prop:=∀W ZB ηB,SS W Z (look ZB)->HS W O ηB->bH E.toCx N c (lift K W Q) ZB ηB
def DO (E:Env) (N K:Nat) (all rest:List Oper) (Q:DQ) (Z:TS) (O:Hp):Prop:=∀W ZB ηB,SS W Z (look ZB)->HS W O ηB->bf E.toCx N all.toArray rest (lift K W Q) ZB ηB
abbrev DE.then (next:TS->Hp->Prop) (Q:DQ):DQ:=λe Z O=>match e with
 | .norm=>next Z O
 | .exit i=>Q (.exit i) Z O
 | .ret=>Q .ret Z O
 | .aO x=>Q (.aO x) Z O
abbrev DE.inBlock (id:Nat) (Q:DQ):DQ:=λe Z O=>match e with
 | .norm=>Q .norm Z O
 | .exit i=>match Nat.beq i id with
  |true=>Q .norm Z O
  |false=>Q (.exit i) Z O
 | .ret=>Q .ret Z O
 | .aO x=>Q (.aO x) Z O
section
variable {E:Env} {N K:Nat} {Q:DQ} {Z:TS} {O:Hp}
theorem sf {W:aJ} {d:DE} {e:AE} {ZB:Sg} {ηB:List aq} (h:DE.inst W d e) (hs:SS W Z (look ZB)) (hh:HS W O ηB) (hq:Q d Z O):lift K W Q e ZB ηB:=⟨W,d,Z,O,.refl K W,h,hs,hh,hq⟩
theorem DC.skip (h:Q .norm Z O):DC E N K .skip Q Z O:=λW ZB ηB hs hh=>bH.skip (sf (d:= .norm) rfl hs hh h)
theorem DC.exit {id:Nat} (h:Q (.exit id) Z O):DC E N K (.exit id) Q Z O:=λW ZB ηB hs hh=>bH.exit (sf (d:= .exit id) rfl hs hh h)
theorem DC.ret (h:Q .ret Z O):DC E N K .ret Q Z O:=λW ZB ηB hs hh=>bH.ret (sf (d:= .ret) rfl hs hh h)
theorem DC.label {l:Nat} (h:Q .norm Z O):DC E N K (.label l) Q Z O:=λW ZB ηB hs hh=>bH.label (sf (d:= .norm) rfl hs hh h)
theorem DC.mono {c:Code} {Q':DQ} (h:DC E N K c Q Z O) (hq:∀e Z O,Q e Z O->Q' e Z O):DC E N K c Q' Z O:=λW ZB ηB hs hh=>
 bH.mono (h W ZB ηB hs hh) λ_ _ _ hl=>p9 (.refl K W) hq hl
theorem DC.seq {x y:Code} (h:DC E N K x (DE.then (DC E N K y Q) Q) Z O):DC E N K (.seq x y) Q Z O:=λW ZB ηB hs hh=>by
 refine bH.seq (bH.mono (h W ZB ηB hs hh) ?_);rintro e ZB' OB' ⟨W',d,Z',O',h1,h2,h3,h4,h5⟩;cases d with
 |norm=>simp only[DE.inst]at h2;subst h2;exact bH.mono (h5 W' ZB' OB' h3 h4) λ_ _ _ hl=>p9 h1 (λ_ _ _ h=>h) hl
 |exit i=>simp only[DE.inst]at h2;subst h2;exact⟨W',.exit i,Z',O',h1,rfl,h3,h4,h5⟩
 |ret=>simp only[DE.inst]at h2;subst h2;exact⟨W',.ret,Z',O',h1,rfl,h3,h4,h5⟩
 |aO x=>obtain⟨y,rfl,h2⟩:=h2;exact⟨W',.aO x,Z',O',h1,⟨y,rfl,h2⟩,h3,h4,h5⟩
theorem DC.block {id:Nat} {c:Code} (h:DC E N K c (DE.inBlock id Q) Z O):DC E N K (.block id c) Q Z O:=λW ZB ηB hs hh=>by
 refine bH.block (bH.mono (h W ZB ηB hs hh) ?_);rintro e ZB' OB' ⟨W',d,Z',O',h1,h2,h3,h4,h5⟩;cases d with
 |norm=>simp only[DE.inst]at h2;subst h2;exact⟨W',.norm,Z',O',h1,rfl,h3,h4,h5⟩
 |exit i=>
  simp only[DE.inst]at h2;subst h2;simp only[DE.inBlock]at h5;simp only[AE.inBlock];cases hb:Nat.beq i id with
  |true=>rw[hb]at h5;exact⟨W',.norm,Z',O',h1,rfl,h3,h4,h5⟩
  |false=>rw[hb]at h5;exact⟨W',.exit i,Z',O',h1,rfl,h3,h4,h5⟩
 |ret=>simp only[DE.inst]at h2;subst h2;exact⟨W',.ret,Z',O',h1,rfl,h3,h4,h5⟩
 |aO x=>obtain⟨y,rfl,h2⟩:=h2;exact⟨W',.aO x,Z',O',h1,⟨y,rfl,h2⟩,h3,h4,h5⟩
theorem DC.region {id:Nat} {l:List Oper} (h:DO E N K l l Q Z O):DC E N K (.region id l.toArray false) Q Z O:=λW ZB ηB hs hh=>bH.region (h W ZB ηB hs hh)
theorem DO.nil {all:List Oper} (h:Q .norm Z O):DO E N K all [] Q Z O:=λW ZB ηB hs hh=>bf.nil (sf (d:= .norm) rfl hs hh h)
theorem DO.mono {all rest:List Oper} {Q':DQ} (h:DO E N K all rest Q Z O) (hq:Q=Q'):DO E N K all rest Q' Z O:=hq▸h
def aW (Z:TS):Operand->Option CV
 | .tmp t=>Z.get t
 | .const v=>some (.d (.v v))
 | .global g=>some (.d (.v (.pointer (some ⟨g,0,none⟩))))
 | .func f=>some (.d (.v (.func (.func f) #[] #[])))
theorem bY {W:aJ} {s:Sl} (hs:SS W Z s) {o:Operand} {x:CV} (h:aW Z o=some x):∃y,ev s o=some y/\aG W x y:=by
 cases o with
 |tmp t=>exact hs t x h
 |const v=>simp only[aW,aC]at h;subst h;exact⟨_,rfl,rfl⟩
 |global g=>simp only[aW,aC]at h;subst h;exact⟨_,rfl,rfl⟩
 |func f=>simp only[aW,aC]at h;subst h;exact⟨_,rfl,rfl⟩
theorem DC.cond {c:Operand} {x y:Code} {t:Bool} (hc:aW Z c=some (.d (.v (.bool t)))) (h1:t=true->DC E N K x Q Z O) (h2:t=false->DC E N K y Q Z O):DC E N K (.cond c x y) Q Z O:=
 λW ZB ηB hs hh=>by
  obtain⟨z,h3,h4⟩:=bY hs hc;simp only[aG]at h4;subst h4;exact bH.cond h3 (λht=>h1 ht W ZB ηB hs hh) (λht=>h2 ht W ZB ηB hs hh)
theorem DC.aeV {c:Nat} {x y:Code} {t:Bool} (hc:Z.get c=some (.d (.v (.bool t)))) (h1:t=true->DC E N K x Q (Tr.put 24 Z c (some (.d (.v (.bool true))))) O)
  (h2:t=false->DC E N K y Q (Tr.put 24 Z c (some (.d (.v (.bool false))))) O):DC E N K (.cond (.tmp c) x y) Q Z O:=by
 refine DC.cond hc (λht=>?_) (λht=>?_)
 all_goals
  subst ht;intro W ZB ηB hs hh
  first|refine h1 rfl W ZB ηB ?_ hh|refine h2 rfl W ZB ηB ?_ hh
  intro u z hz;rcases Tr.eB 24 Z c u _ z hz with⟨rfl,h3⟩|⟨_,h3⟩
  ·cases h3;exact hs _ _ hc
  ·exact hs _ _ h3
theorem DO.aeK {all rest:List Oper} {Z':TS} (hw:∀W s,SS W Z s->SS W Z' s) (h:DO E N K all rest Q Z' O):DO E N K all rest Q Z O:=λW ZB ηB hs hh=>h W ZB ηB (hw W _ hs) hh
mutual
def jY (m:Nat):CV->Bool
 | .d _=>true
 | .agg xs=>pA m xs
 | .bX xs=>pA m xs
 | .own t _=>Nat.blt t m
 | .os t _=>Nat.blt t m
 | .oe t _ _=>Nat.blt t m
 | .om t=>Nat.blt t m
 | .fn _ fs cs=>match pA m fs with
  |true=>pA m cs
  |false=>false
 | .bC _ x=>jY m x
def pA (m:Nat):List CV->Bool
 |[]=>true
 |x::r=>match jY m x with
  |true=>pA m r
  |false=>false
end
def Lv (m:Nat):br->Bool
 | .box cs=>pA m cs
 | .map es=>es.all λp=>jY m p.2
 |_=>true
def aJ.cut (W:aJ) (m:Nat):aJ:=⟨λt=>if t<m then W.b t else none,λt n=>if t<m then W.s t n else none⟩
mutual
theorem aG.cut {W:aJ} {m:Nat}:∀{x:CV} {y:AV},jY m x=true->aG W x y->aG (W.cut m) x y
 | .d x,_,_,h1=>by simp only[aG]at h1⊢;exact h1
 | .agg xs,_,h,h1=>by simp only[aG]at h1⊢;obtain⟨ys,e,h2⟩:=h1;exact⟨ys,e,aQ.cut (by simpa[jY]using h) h2⟩
 | .bX xs,_,h,h1=>by simp only[aG]at h1⊢;obtain⟨ys,e,h2⟩:=h1;exact⟨ys,e,aQ.cut (by simpa[jY]using h) h2⟩
 | .own t o,_,h,h1=>by simp only[aG]at h1⊢;obtain⟨b,t',e,h2⟩:=h1;exact⟨b,t',by simp only[jY,lx]at h;simp[aJ.cut,h,e],h2⟩
 | .os t n,_,h,h1=>by simp only[aG]at h1⊢;obtain⟨a,c,t',e,h2⟩:=h1;exact⟨a,c,t',by simp only[jY,lx]at h;simp[aJ.cut,h,e],h2⟩
 | .oe t n o,_,h,h1=>by simp only[aG]at h1⊢;obtain⟨a,c,t',e,h2⟩:=h1;exact⟨a,c,t',by simp only[jY,lx]at h;simp[aJ.cut,h,e],h2⟩
 | .om t,_,h,h1=>by simp only[aG]at h1⊢;obtain⟨b,t',e,h2⟩:=h1;exact⟨b,t',by simp only[jY,lx]at h;simp[aJ.cut,h,e],h2⟩
 | .fn f fs cs,_,h,h1=>by
  simp only[jY]at h;split at h
  ·rename_i h0;simp only[aG]at h1⊢;obtain⟨us,vs,e,h2,h3⟩:=h1;exact⟨us,vs,e,aQ.cut h0 h2,aQ.cut h h3⟩
  ·cases h
 | .bC t x,_,h,h1=>by simp only[aG]at h1⊢;obtain⟨u,e,h2⟩:=h1;exact⟨u,e,aG.cut (by simpa[jY]using h) h2⟩
theorem aQ.cut {W:aJ} {m:Nat}:∀{x:List CV} {y:List AV},pA m x=true->aQ W x y->aQ (W.cut m) x y
 |[],_,_,h1=>by simp only[aQ]at h1⊢;exact h1
 |_::_,_,h,h1=>by
  simp only[pA]at h;split at h
  ·rename_i h0;simp only[aQ]at h1⊢;obtain⟨y,r,e,h2,h3⟩:=h1;exact⟨y,r,e,aG.cut h0 h2,aQ.cut h h3⟩
  ·cases h
end
theorem jN.cut {W:aJ} {m:Nat}:∀{xs:List (Value×CV)} {ys:List (Value×AV)},(xs.all λp=>jY m p.2)=true->jN W xs ys->jN (W.cut m) xs ys
 |[],_,_,h1=>by simp only[jN]at h1⊢;exact h1
 |_::_,_,h,h1=>by
  simp only[kH,bJ]at h;simp only[jN]at h1⊢;obtain⟨y,r,e,h2,h3,h4⟩:=h1;exact⟨y,r,e,h2,h3.cut h.1,jN.cut h.2 h4⟩
theorem lT.cut {W:aJ} {m i:Nat} (hi:i<m) {x:br} {y:aq} (hb:Lv m x=true) (hx:lT W i x y):lT (W.cut m) i x y:=by
 have h1:(W.cut m).b i=W.b i:=by simp[aJ.cut,hi]
 have h2:∀n,(W.cut m).s i n=W.s i n:=λn=>by simp[aJ.cut,hi]
 cases x with
 |box cs=>obtain⟨b,cs',h3,h4,h5⟩:=hx;exact⟨b,cs',h1.trans h3,h4,h5.cut hb⟩
 |row e k rows=>obtain⟨⟨a,c,h3,h4⟩,h5⟩:=hx;exact⟨⟨a,c,(h2 _).trans h3,h4⟩,λn hn=>(h2 n).trans (h5 n hn)⟩
 |map es=>obtain⟨b,es',h3,h4,h5⟩:=hx;exact⟨b,es',h1.trans h3,h4,h5.cut hb⟩
 |lj cs=>obtain⟨b,h3,h4⟩:=hx;exact⟨b,h1.trans h3,h4⟩
 |iH k rows=>obtain⟨a,c,h3,h4⟩:=hx;exact⟨a,c,(h2 _).trans h3,h4⟩
 |set l=>obtain⟨b,h3,h4⟩:=hx;exact⟨b,h1.trans h3,h4⟩
 |gone=>trivial
def eI (m:Nat):List Nat->TS->Option (List (Nat×CV))
 |[],_=>some []
 |t::ts,Z=>match Z.get t,eI m ts Z with
  |some x,some r=>match jY m x with
   |true=>some ((t,x)::r)
   |false=>none
  |_,_=>none
def pJ:List (Nat×CV)->TS
 |[]=> .lf
 |(t,x)::r=>Tr.put 24 (pJ r) t (some x)
theorem GV {W:aJ} {m:Nat} {s:Sl} (hs:SS W Z s):∀{ts:List Nat} {l:List (Nat×CV)},eI m ts Z=some l->SS (W.cut m) (pJ l) s
 |[],_,h=>by simp only[eI,aC]at h;subst h;intro t x hx;simp[pJ,Tr.ku]at hx
 |t::ts,l,h=>by
  simp only[eI]at h;split at h
  ·rename_i x r h1 h2;split at h
   ·rename_i h0;simp only[aC]at h;subst h;intro u z hz;rcases Tr.eB 24 _ t u _ z hz with⟨rfl,h3⟩|⟨_,h3⟩
    ·cases h3;obtain⟨y,h4,h5⟩:=hs _ _ h1;exact⟨y,h4,h5.cut h0⟩
    ·exact GV hs h2 u z h3
   ·cases h
  ·cases h
def xK (m:Nat) (e:Tr br):Nat->Option (List br)
 |0=>some []
 |i+1=>match xK m e i,e.get i with
  |some l,some x=>match Lv m x with
   |true=>some (l++[x])
   |false=>none
  |some l,none=>some (l++[.gone])
  |none,_=>none
def kz (m:Nat) (O:Hp):Option (List br):=xK m O.e m
def nW:Nat->List br->Tr br
 |_,[]=> .lf
 |i,x::r=>Tr.put 24 (nW (i+1) r) i (some x)
def iG (l:List br):Hp:=⟨nW 0 l,l.length⟩
theorem QG:∀{l:List br} {i j:Nat} {x:br},(nW i l).get j=some x->i<=j/\l[j-i]? =some x
 |[],i,j,x,h=>by simp[nW,Tr.ku]at h
 |y::r,i,j,x,h=>by
  simp only[nW]at h;rcases Tr.eB 24 _ i j _ x h with⟨rfl,h1⟩|⟨hne,h1⟩
  ·cases h1;simp
  ·obtain⟨h2,h3⟩:=QG h1;refine⟨by omega,?_⟩;rw[show j-i=(j-(i+1))+1 by omega];simpa using h3
theorem Cf {m:Nat} {e:Tr br}:∀{n:Nat} {l:List br},xK m e n=some l->l.length=n/\∀i x,l[i]? =some x->x= .gone\/(e.get i=some x/\Lv m x=true)
 |0,l,h=>by simp only[xK,aC]at h;subst h;simp
 |n+1,l,h=>by
  simp only[xK]at h;split at h
  ·rename_i l' x h1 h2;split at h
   ·rename_i h0;simp only[aC]at h;subst h;obtain⟨h3,h4⟩:=Cf h1;refine⟨by simp[h3],λi y hy=>?_⟩;rw[akn]at hy;split at hy
    ·exact h4 i y hy
    ·rename_i hi;rw[ako]at hy;split at hy
     ·cases hy;right;rw[<-h2];exact⟨by congr 1;omega,h0⟩
     ·cases hy
   ·cases h
  ·rename_i l' h1 h2;simp only[aC]at h;subst h;obtain⟨h3,h4⟩:=Cf h1;refine⟨by simp[h3],λi y hy=>?_⟩;rw[akn]at hy;split at hy
   ·exact h4 i y hy
   ·rw[ako]at hy;split at hy
    ·cases hy;exact .inl rfl
    ·cases hy
  ·cases h
theorem Pt {W:aJ} {m:Nat} {ηB:List aq} (hh:HS W O ηB) (hm:m<=O.n) {l:List br} (h:kz m O=some l):HS (W.cut m) (iG l) (ηB.take m):=by
 obtain⟨h1,h2⟩:=Cf h;refine⟨λi x hx=>?_,by simp[iG,h1,hh.len,hm],λt ht=>?_⟩
 ·obtain⟨_,h3⟩:=QG hx;simp only[YA]at h3;have hi:i<m:=by rw[<-h1];exact(b9.1 h3).1
  have hlt:i<ηB.length:=by rw[hh.len];omega
  have hn:nth (ηB.take m) i=nth ηB i:=by rw[cA,cA,eX,bq hi]
  rw[hn];rcases h2 i x h3 with rfl|⟨h4,h5⟩
  ·exact⟨ηB[i],by rw[cA];simp[hlt],trivial⟩
  ·obtain⟨y,h6,h7⟩:=hh.en i x h4;exact⟨y,h6,h7.cut hi h5⟩
 ·have:¬t<m:=by simp only[iG,h1]at ht;omega
  simp[aJ.cut,this]
theorem aJ.QH {W:aJ} {m:Nat} (hm:K<=m):aJ.fQ K W (W.cut m):=λt ht=>by
 have:t<m:=by omega
 simp[aJ.cut,this]
theorem DC.loop {c:Code} (ts:List Nat) (m:Nat) (I:Nat->List (Nat×CV)->List br->Prop) (n:Nat) (hK:K<=m) {l:List (Nat×CV)} {es:List br} (hm:m<=O.n) (hp:eI m ts Z=some l) (he:kz m O=some es) (h0:I n l es)
  (round:∀n l es,I n l es->DC E N K c (DE.then (λZ1 O1=>∃n',n'<n/\∃l' es',m<=O1.n/\eI m ts Z1=some l'/\kz m O1=some es'/\I n' l' es') Q) (pJ l) (iG es)):DC E N K (.loop c) Q Z O:=λW ZB ηB hs hh=>by
 refine bH.loop (λn ZB ηB=>∃W1 l es,aJ.fQ K W W1/\SS W1 (pJ l) (look ZB)/\HS W1 (iG es) (ηB.take m)/\I n l es) n ⟨W.cut m,l,es,aJ.QH hK,GV hs hp,Pt hh hm he,h0⟩ ?_;rintro n ZB1 OB1 ⟨W1,l1,es1,h1,h2,h3,h4⟩;refine bH.iW (dB.sub (List.take_sublist m OB1)) (bH.mono (round n l1 es1 h4 W1 ZB1 _ h2 h3) ?_);rintro e ZB2 OB2 ⟨W2,d,Z2,O2,g1,g2,g3,g4,g5⟩;cases d with
 |norm=>
  simp only[DE.inst]at g2;subst g2;obtain⟨n',hn,l',es',q1,q2,q3,q4⟩:=g5;exact⟨n',hn,W2.cut m,l',es',(h1.trans g1).trans (aJ.QH hK),GV g3 q2,Pt g4 q1 q3,q4⟩
 |exit i=>simp only[DE.inst]at g2;subst g2;exact⟨W2,.exit i,Z2,O2,h1.trans g1,rfl,g3,g4,g5⟩
 |ret=>simp only[DE.inst]at g2;subst g2;exact⟨W2,.ret,Z2,O2,h1.trans g1,rfl,g3,g4,g5⟩
 |aO x=>obtain⟨y,rfl,g2⟩:=g2;exact⟨W2,.aO x,Z2,O2,h1.trans g1,⟨y,rfl,g2⟩,g3,g4,g5⟩
def oI (E:Env) (N K:Nat) (c:Code) (Q:DQ):Nat->TS->Hp->Prop
 |0=>λ_ _=>False
 |n+1=>DC E N K c (DE.then (oI E N K c Q n) Q)
theorem DC.rounds {c:Code} (n:Nat) (h:oI E N K c Q n Z O):DC E N K (.loop c) Q Z O:=λW ZB ηB hs hh=>by
 refine bH.rounds n ?_;have key:∀n W1 Z O ZB ηB,aJ.fQ K W W1->SS W1 Z (look ZB)->HS W1 O ηB->oI E N K c Q n Z O->C' E.toCx N c (lift K W Q) n ZB ηB:=by
  intro n
  induction n with
  |zero=>intro W1 Z O ZB ηB _ _ _ h;exact h.elim
  |succ n ih=>
   intro W1 Z O ZB ηB h1 h2 h3 h4;refine bH.mono (h4 W1 ZB ηB h2 h3) ?_;rintro e ZB2 OB2 ⟨W2,d,Z2,O2,g1,g2,g3,g4,g5⟩;cases d with
   |norm=>simp only[DE.inst]at g2;subst g2;exact ih W2 Z2 O2 _ _ (h1.trans g1) g3 g4 g5
   |exit i=>simp only[DE.inst]at g2;subst g2;exact⟨W2,.exit i,Z2,O2,h1.trans g1,rfl,g3,g4,g5⟩
   |ret=>simp only[DE.inst]at g2;subst g2;exact⟨W2,.ret,Z2,O2,h1.trans g1,rfl,g3,g4,g5⟩
   |aO x=>obtain⟨y,rfl,g2⟩:=g2;exact⟨W2,.aO x,Z2,O2,h1.trans g1,⟨y,rfl,g2⟩,g3,g4,g5⟩
 exact key n W Z O ZB ηB (.refl K W) hs hh h
end
theorem bP.mono {C:Cx} {N:Nat} {o:Oper} {s s':Sl} {O:List aq} {x:AV} (h:bP C N o s O x) (hs:∀t∈tmpsOf o,∀y,s t=some y->s' t=some y):bP C N o s' O x:=
 λF w a h1 h2 h3 h4=>h F w a h1 h2 h3 λt ht y hy=>h4 t ht y (hs t ht y hy)
theorem bP.aew {C:Cx} {N:Nat} {o:Oper} {s s':Sl} {O:List aq} {x:AV} (h:bP C N o s' O x)
  (hs:∀F w a,bG C.G w F O->kY w (Al F O) N a o s->kY w (Al F O) N a o s'):bP C N o s O x:=
 λF w a h1 h2 h3 h4=>h F w a h1 h2 h3 (hs F w a h3 h4)
def dj (Z:TS):Sl:=λt=>match Z.get t with
 |some (.d x)=>some x
 |_=>none
theorem kv {W:aJ} {Z:TS} {s:Sl} (hs:SS W Z s) {t:Nat} {x:AV} (h:dj Z t=some x):s t=some x:=by
 unfold dj at h;split at h
 ·rename_i y hy;simp only[aC]at h;subst h;obtain⟨z,h1,h2⟩:=hs t _ hy;simp only[aG]at h2;subst h2;exact h1
 ·cases h
def bd (E:Env) (N:Nat) (o:Oper) (Z:TS) (O:Hp) (x:CV):Prop:=∀W s ηB,SS W Z s->HS W O ηB->∃y,aG W x y/\bP E.toCx N o s ηB y
section
variable {E:Env} {N K:Nat} {Q:DQ} {Z:TS} {O:Hp} {o:Oper} {x:CV} {all rest:List Oper}
theorem DO.nX (hg:o.guard=none) (hd:cw N o.dst=true) (h:bd E N o Z O x) (k:DO E N K all rest Q (bW Z o.dst x) O):DO E N K all (o::rest) Q Z O:=λW ZB ηB hs hh=>by
 obtain⟨y,h1,h2⟩:=h W _ ηB hs hh;exact bf.nX hg hd h2 (k W _ ηB (hs.put o.dst h1) hh)
theorem bd.cJ {y:AV} (h:cJ E.T (dj Z) o.op=some y):bd E N o Z O (.d y):=λW s ηB hs _=>⟨y,rfl,(bP.cJ h).mono λ_ _ _ hy=>kv hs hy⟩
theorem bd.dV {y:AV} (h:dV E.P E.T (dj Z) o.op=some y):bd E N o Z O (.d y):=λW s ηB hs _=>⟨y,rfl,(bP.dV h).mono λ_ _ _ hy=>kv hs hy⟩
theorem bd.ew {y:AV} (h:ew E.P (dj Z) o.op=some y):bd E N o Z O (.d y):=λW s ηB hs _=>⟨y,rfl,(bP.ew h).mono λ_ _ _ hy=>kv hs hy⟩
theorem bd.lh {y:AV} (h:lh E.G E.T (dj Z) o.op=some y):bd E N o Z O (.d y):=λW s ηB hs _=>⟨y,rfl,(bP.lh h).mono λ_ _ _ hy=>kv hs hy⟩
def dP:CV->List CV
 | .agg xs=>xs
 | .d y=>(cg y).map .d
 |x=>[x]
theorem B9 {W:aJ} {x:CV} {y:AV} (h:aG W x y):aQ W (dP x) (cg y):=by
 cases x with
 |d z=>simp only[aG]at h;subst h;exact iq _
 |agg xs=>simp only[aG]at h;obtain⟨ys,rfl,h⟩:=h;exact h
 |bX xs=>have h0:=h;simp only[aG]at h0;obtain⟨ys,rfl,_⟩:=h0;simp only[dP,cg,aQ];exact⟨_,_,rfl,h,rfl⟩
 |own t n=>have h0:=h;simp only[aG]at h0;obtain⟨b,t',_,rfl⟩:=h0;simp only[dP,cg,aQ];exact⟨_,_,rfl,h,rfl⟩
 |os t n=>have h0:=h;simp only[aG]at h0;obtain⟨a,c,t',_,rfl⟩:=h0;simp only[dP,cg,aQ];exact⟨_,_,rfl,h,rfl⟩
 |oe t n m=>have h0:=h;simp only[aG]at h0;obtain⟨a,c,t',_,rfl⟩:=h0;simp only[dP,cg,aQ];exact⟨_,_,rfl,h,rfl⟩
 |om t=>have h0:=h;simp only[aG]at h0;obtain⟨b,t',_,rfl⟩:=h0;simp only[dP,cg,aQ];exact⟨_,_,rfl,h,rfl⟩
 |fn f fs cs=>have h0:=h;simp only[aG]at h0;obtain⟨us,vs,rfl,_⟩:=h0;simp only[dP,cg,aQ];exact⟨_,_,rfl,h,rfl⟩
 |bC t z=>have h0:=h;simp only[aG]at h0;obtain⟨u,rfl,_⟩:=h0;simp only[dP,cg,aQ];exact⟨_,_,rfl,h,rfl⟩
def qZ:List CV->List CV->Option (List CV)
 |xs,[]=>some xs
 |[],_::_=>none
 |_::xs,y::ys=>match qZ xs ys with
  |some r=>some (y::r)
  |none=>none
def lH:List CV->Nat->List CV->Option (List CV)
 |xs,0,ys=>qZ xs ys
 |[],_+1,_=>none
 |x::xs,n+1,ys=>match lH xs n ys with
  |some r=>some (x::r)
  |none=>none
theorem N0 {W:aJ}:∀{ys xs r:List CV} {us vs:List AV},qZ xs ys=some r->aQ W xs us->aQ W ys vs->∃r',kZ us vs=some r'/\aQ W r r'
 |[],xs,r,us,vs,h,hx,hy=>by
  simp only[aQ]at hy;subst hy;cases xs<;>simp only[qZ,aC]at h<;>subst h
  ·simp only[aQ]at hx;subst hx;exact⟨[],rfl,rfl⟩
  ·exact⟨us,by cases us<;>rfl,hx⟩
 |y::ys,[],r,us,vs,h,hx,hy=>by simp[qZ]at h
 |y::ys,x::xs,r,us,vs,h,hx,hy=>by
  simp only[qZ]at h;split at h
  ·rename_i r' h1;simp only[aC]at h;subst h;simp only[aQ]at hx hy;obtain⟨u,ur,rfl,_,hx⟩:=hx;obtain⟨v,vr,rfl,hv,hy⟩:=hy;obtain⟨q,h2,h3⟩:=N0 h1 hx hy;exact⟨v::q,by simp[kZ,h2],by simp only[aQ];exact⟨_,_,rfl,hv,h3⟩⟩
  ·cases h
theorem B1 {W:aJ}:∀{n:Nat} {xs ys r:List CV} {us vs:List AV},lH xs n ys=some r->aQ W xs us->aQ W ys vs->∃r',eE us n vs=some r'/\aQ W r r'
 |0,xs,ys,r,us,vs,h,hx,hy=>by
  have h':qZ xs ys=some r:=by cases xs<;>exact h
  obtain⟨q,h1,h2⟩:=N0 h' hx hy;exact⟨q,by cases us<;>exact h1,h2⟩
 |n+1,[],ys,r,us,vs,h,hx,hy=>by simp[lH]at h
 |n+1,x::xs,ys,r,us,vs,h,hx,hy=>by
  simp only[lH]at h;split at h
  ·rename_i r' h1;simp only[aC]at h;subst h;simp only[aQ]at hx;obtain⟨u,ur,rfl,hu,hx⟩:=hx;obtain⟨q,h2,h3⟩:=B1 h1 hx hy;exact⟨u::q,by simp[eE,h2],by simp only[aQ];exact⟨_,_,rfl,hu,h3⟩⟩
  ·cases h
def yb (fs:List (Nat×Nat×Nat×Bool)) (Z:TS):List CV->List (Nat×Operand)->Option (List CV)
 |cells,[]=>some cells
 |cells,(i,o)::rest=>match nth fs i,aW Z o with
  |some (off,_,k,_),some x=>match Nat.beq (dP x).length k,lH cells off (dP x)with
   |true,some cells'=>yb fs Z cells' rest
   |_,_=>none
  |_,_=>none
theorem N2 {W:aJ} {s:Sl} (hs:SS W Z s) {fs:List (Nat×Nat×Nat×Bool)}:∀{l:List (Nat×Operand)} {cells r:List CV} {us:List AV},yb fs Z cells l=some r->aQ W cells us->∃r',mO fs s us l=some r'/\aQ W r r'
 |[],cells,r,us,h,hr=>by simp only[yb,aC]at h;subst h;exact⟨us,rfl,hr⟩
 |(i,p)::l,cells,r,us,h,hr=>by
  simp only[yb]at h;split at h
  ·rename_i off t k g x h1 h2;split at h
   ·rename_i cells' h3 h4;obtain⟨y,h5,h6⟩:=bY hs h2;have h7:=B9 h6;obtain⟨q,h8,h9⟩:=B1 h4 hr h7;obtain⟨r',h10,h11⟩:=N2 hs h h9;refine⟨r',?_,h11⟩;simp only[mO,h1,h5,h7.length,h3,h8,h10]
   ·cases h
  ·cases h
def rl (Z:TS):List Operand->Option (List CV)
 |[]=>some []
 |o::r=>match aW Z o,rl Z r with
  |some x,some xs=>some (x::xs)
  |_,_=>none
theorem sy {W:aJ} {s:Sl} (hs:SS W Z s):∀{os:List Operand} {xs:List CV},rl Z os=some xs->∃ys,je s os=some ys/\aQ W xs ys
 |[],_,h=>by simp only[rl,aC]at h;subst h;exact⟨[],rfl,rfl⟩
 |o::os,xs,h=>by
  simp only[rl]at h;split at h
  ·rename_i x ys h1 h2;simp only[aC]at h;subst h;obtain⟨y,h3,h4⟩:=bY hs h1;obtain⟨zs,h5,h6⟩:=sy hs h2;exact⟨y::zs,by simp[je,h3,h5],by simp only[aQ];exact⟨_,_,rfl,h4,h6⟩⟩
  ·cases h
def pv:List CV->Bool
 |[]=>false
 | .d _::r=>pv r
 |_::_=>true
theorem Ge {W:aJ}:∀{xs:List CV} {ys:List AV},pv xs=true->aQ W xs ys->nN ys=none
 |[],_,h,_=>by simp[pv]at h
 |x::r,ys,h,hr=>by
  simp only[aQ]at hr;obtain⟨y,r',rfl,h1,h2⟩:=hr;cases x with
  |d z=>
   simp only[pv]at h;have:=Ge h h2;cases y<;>simp[nN,this]
  |agg xs=>simp only[aG]at h1;obtain⟨ys,rfl,_⟩:=h1;rfl
  |bX xs=>simp only[aG]at h1;obtain⟨ys,rfl,_⟩:=h1;rfl
  |own t n=>simp only[aG]at h1;obtain⟨b,t',_,rfl⟩:=h1;rfl
  |os t n=>simp only[aG]at h1;obtain⟨a,c,t',_,rfl⟩:=h1;rfl
  |oe t n m=>simp only[aG]at h1;obtain⟨a,c,t',_,rfl⟩:=h1;rfl
  |om t=>simp only[aG]at h1;obtain⟨b,t',_,rfl⟩:=h1;rfl
  |fn f fs cs=>simp only[aG]at h1;obtain⟨us,vs,rfl,_⟩:=h1;rfl
  |bC t z=>simp only[aG]at h1;obtain⟨u,rfl,_⟩:=h1;rfl
def nZ (T:bZ) (Z:TS):Op->Option CV
 | .move x=>aW Z x
 | .assign x=>aW Z x
 | .pick c a b=>match aW Z c with
  |some (.d (.v (.bool true)))=>aW Z a
  |some (.d (.v (.bool false)))=>aW Z b
  |_=>none
 | .extract x i=>match aW Z x with
  |some (.bX xs)=>nth xs i
  |_=>none
 | .field t x f=>match aW Z x,aZ T t with
  |some (.agg xs),some ⟨.struct fs,_,_,_⟩=>match nth fs f with
   |some (o,_,k,g)=>match g with
    |true=>some (uJ ((xs.drop o).take k))
    |false=>nth xs o
   |none=>none
  |_,_=>none
 | .fieldAddr t x f=>match aZ T t with
  |some ⟨.struct fs,_,_,_⟩=>match nth fs f with
   |some (off,_,_,_)=>match aW Z x with
    |some (.own t o)=>some (.own t (o+off))
    |some (.oe t n o)=>some (.oe t n (o+off))
    |_=>none
   |none=>none
  |_=>none
 | .nilCheck x=>match aW Z x with
  |some (.own t o)=>some (.own t o)
  |some (.oe t n o)=>some (.oe t n o)
  |some (.fn f fs cs)=>some (.fn f fs cs)
  |_=>none
 | .makeInterface t x=>match aW Z x,aZ T t with
  |some _,some ⟨.iface,_,_,_⟩=>none
  |some y,some _=>some (.bC t y)
  |_,_=>none
 | .typeAssert x _ t ok=>match aW Z x,aZ T t with
  |some (.bC _ _),some ⟨.iface,_,_,_⟩=>none
  |some (.bC u y),some _=>match Nat.beq u t,ok with
   |true,true=>some (.bX [y,.d (.v (.bool true))])
   |true,false=>some y
   |false,_=>none
  |_,_=>none
 | .makeFunc (.func f) first caps=>match rl Z first.toList,rl Z caps.toList with
  |some fs,some cs=>match pv fs,pv cs with
   |false,false=>none
   |_,_=>some (.fn f fs cs)
  |_,_=>none
 | .build t parts=>match aZ T t with
  |some ⟨.struct fs,_,_,z⟩=>match yb fs Z ((z.map .v).map .d) parts.toList with
   |some cells=>some (uJ cells)
   |none=>none
  |_=>none
 |_=>none
theorem QA {W:aJ} {s:Sl} (hs:SS W Z s) {T:bZ} {op:Op} (h:nZ T Z op=some x):∃y,cJ T s op=some y/\aG W x y:=by
 unfold nZ at h;split at h
 ·exact bY hs h
 ·exact bY hs h
 ·rename_i c a b;split at h
  ·rename_i hc;obtain⟨y,h1,h2⟩:=bY hs hc;simp only[aG]at h2;subst h2;obtain⟨z,h3,h4⟩:=bY hs h;exact⟨z,by simp only[cJ,h1,h3],h4⟩
  ·rename_i hc;obtain⟨y,h1,h2⟩:=bY hs hc;simp only[aG]at h2;subst h2;obtain⟨z,h3,h4⟩:=bY hs h;exact⟨z,by simp only[cJ,h1,h3],h4⟩
  ·cases h
 ·rename_i y i;split at h
  ·rename_i xs hy;obtain⟨z,h1,h2⟩:=bY hs hy;simp only[aG]at h2;obtain⟨ys,rfl,h2⟩:=h2;obtain⟨u,h3,h4⟩:=h2.nth h;exact⟨u,by simp only[cJ,h1,h3],h4⟩
  ·cases h
 ·rename_i t y f;split at h
  ·rename_i xs fs _ _ _ hy ht;split at h
   ·rename_i off ft k g hf;obtain⟨z,h1,h2⟩:=bY hs hy;simp only[aG]at h2;obtain⟨ys,rfl,h2⟩:=h2;split at h
    ·simp only[aC]at h;subst h;exact⟨_,by simp only[cJ,h1,ht,hf,uK],Cj ((h2.drop off).take k)⟩
    ·obtain⟨u,h3,h4⟩:=h2.nth h;exact⟨u,by simp only[cJ,h1,ht,hf,uK,h3],h4⟩
   ·cases h
  ·cases h
 ·rename_i t y f;split at h
  ·rename_i fs _ _ _ ht;split at h
   ·rename_i off ft k g hf;split at h
    ·rename_i tg o hy;simp only[aC]at h;subst h;obtain⟨z,h1,h2⟩:=bY hs hy;simp only[aG]at h2;obtain⟨b,t',h2,rfl⟩:=h2;exact⟨.own t' b (o+off),by simp only[cJ,ht,hf,h1],by simp only[aG];exact⟨b,t',h2,rfl⟩⟩
    ·rename_i tg n o hy;simp only[aC]at h;subst h;obtain⟨z,h1,h2⟩:=bY hs hy;simp only[aG]at h2;obtain⟨a,c,t',h2,rfl⟩:=h2;exact⟨.oe t' (.slice a n c) (o+off),by simp only[cJ,ht,hf,h1],by simp only[aG];exact⟨a,c,t',h2,rfl⟩⟩
    ·cases h
   ·cases h
  ·cases h
 ·rename_i y;split at h
  ·rename_i tg o hy;simp only[aC]at h;subst h;obtain⟨z,h1,h2⟩:=bY hs hy;have h3:=h2;simp only[aG]at h3;obtain⟨b,t',_,rfl⟩:=h3;exact⟨_,by simp only[cJ,h1],h2⟩
  ·rename_i tg n o hy;simp only[aC]at h;subst h;obtain⟨z,h1,h2⟩:=bY hs hy;have h3:=h2;simp only[aG]at h3;obtain⟨a,c,t',_,rfl⟩:=h3;exact⟨_,by simp only[cJ,h1],h2⟩
  ·rename_i f fs cs hy;simp only[aC]at h;subst h;obtain⟨z,h1,h2⟩:=bY hs hy;have h3:=h2;simp only[aG]at h3;obtain⟨us,vs,rfl,_⟩:=h3;exact⟨_,by simp only[cJ,h1],h2⟩
  ·cases h
 ·rename_i t y;split at h
  ·cases h
  ·rename_i u i hne hy ht;simp only[aC]at h;subst h;obtain⟨z,h1,h2⟩:=bY hs hy;refine⟨.bC t z,?_,by simp only[aG];exact⟨z,rfl,h2⟩⟩;simp only[cJ,h1,ht]
  ·cases h
 ·rename_i y xt t ok;split at h
  ·cases h
  ·rename_i u y' i hne hy ht;obtain⟨z,h1,h2⟩:=bY hs hy;simp only[aG]at h2;obtain⟨z',rfl,h2⟩:=h2;have key:cJ T s (.typeAssert y xt t ok)=(match(generalizing:=false) Nat.beq u t,ok with
     |true,true=>some (AV.bX [z',.v (.bool true)])
     |true,false=>some z'
     |false,_=>none):=by
    simp only[cJ,h1,ht];rfl
   rw[key];cases hb:Nat.beq u t with
   |false=>rw[hb]at h;cases h
   |true=>
    rw[hb]at h;cases ok with
    |true=>
     simp only[aC]at h;subst h;refine⟨_,rfl,?_⟩;simp only[aG,aQ];exact⟨_,rfl,_,_,rfl,h2,_,_,rfl,rfl,rfl⟩
    |false=>
     simp only[aC]at h;subst h;exact⟨_,rfl,h2⟩
  ·cases h
 ·rename_i f first caps
  split at h
  ·rename_i fs cs h1 h2;obtain⟨us,h3,h4⟩:=sy hs h1;obtain⟨vs,h5,h6⟩:=sy hs h2;split at h
   ·cases h
   ·rename_i hne;simp only[aC]at h;subst h;refine⟨.fn f us vs,?_,by simp only[aG];exact⟨us,vs,rfl,h4,h6⟩⟩;simp only[cJ,h3,h5];cases hr:pv fs with
    |true=>rw[Ge hr h4]
    |false=>cases hr':pv cs with
     |true=>rw[Ge hr' h6];cases nN us<;>rfl
     |false=>exact(hne hr hr').elim
  ·cases h
 ·rename_i t parts;split at h
  ·rename_i fs _ _ z ht;split at h
   ·rename_i cells hf;simp only[aC]at h;subst h;obtain⟨r',h1,h2⟩:=N2 hs hf (iq _);exact⟨.agg r',by simp only[cJ,ht,h1],Cj h2⟩
   ·cases h
  ·cases h
 ·cases h
theorem bd.nZ (h:nZ E.T Z o.op=some x):bd E N o Z O x:=λW s ηB hs _=>by
 obtain⟨y,h1,h2⟩:=QA hs h;exact⟨y,h2,bP.cJ h1⟩
def D5 (T:bZ) (t:TypeId) (cs:List CV) (o:Nat):Option CV:=
 match aZ T t with
 |some ⟨d,k,_,_⟩=>match d.agg with
  |true=>match Nat.ble k (cs.drop o).length with
   |true=>some (uJ ((cs.drop o).take k))
   |false=>none
  |false=>nth cs o
 |none=>none
theorem Gd:∀{l:List AV} {n:Nat},n<=l.length->fits l n=true
 |_,0,_=>by simp[fits]
 |[],n+1,h=>by simp at h
 |_::r,n+1,h=>by simp only[fits];exact Gd (by simpa using h)
theorem ZS {W:aJ} {T:bZ} {t:TypeId} {cs:List CV} {us:List AV} {off:Nat} (h:D5 T t cs off=some x) (hc:aQ W cs us):∃y,iV T t us off=some y/\aG W x y:=by
 unfold D5 at h;split at h
 ·rename_i d k b z ht;split at h
  ·rename_i hd;split at h
   ·rename_i hle;simp only[aC]at h;subst h;have hle:=dL hle;refine⟨.agg ((us.drop off).take k),?_,Cj ((hc.drop off).take k)⟩;simp only[iV,ht,hd];rw[Gd (by rw[(hc.drop off).length];exact hle)]
   ·cases h
  ·rename_i hd;obtain⟨y,h1,h2⟩:=hc.nth h;exact⟨y,by simp only[iV,ht,hd,h1],h2⟩
 ·cases h
theorem N3 {p:Operand} (h:aW Z p=some x) (hx:∀y,x≠ .d y):∃t,p= .tmp t/\Z.get t=some x:=by
 cases p with
 |tmp t=>exact⟨t,rfl,h⟩
 |const v=>simp only[aW,aC]at h;exact(hx _ h.symm).elim
 |global g=>simp only[aW,aC]at h;exact(hx _ h.symm).elim
 |func f=>simp only[aW,aC]at h;exact(hx _ h.symm).elim
theorem bd.load {t:TypeId} {p:Operand} {i off:Nat} {cs:List CV} (ho:o.op= .load t p) (hp:aW Z p=some (.own i off)) (hi:O.e.get i=some (.box cs)) (hl:D5 E.T t cs off=some x):bd E N o Z O x:=λW s ηB hs hh=>by
 obtain⟨y,h1,h2⟩:=bY hs hp;simp only[aG]at h2;obtain⟨b,t',h3,rfl⟩:=h2;obtain⟨z,h4,h5⟩:=hh.en i _ hi;obtain⟨b',cs',h6,rfl,h7⟩:=h5;rw[h3]at h6;cases h6;obtain⟨q,h8,h9⟩:=ZS hl h7;exact⟨q,h9,bP.mZ (Ps ho (by rw[fc (by simp[ho,Op.operands])];exact h1) h4 h8)⟩
def fw (s:Sl) (t:Nat) (x:AV):Sl:=λu=>if u=t then some x else s u
theorem bP.known {C:Cx} {s:Sl} {ηB:List aq} {t:Nat} {x:AV} {y z:AV} (h:bP C N o (fw s t z) ηB x) (ht:s t=some y) (hk:∀F w v,bG C.G w F ηB->Rel w (Al F ηB) y v->Rel w (Al F ηB) z v):bP C N o s ηB x:=
 h.aew λF w a hh hs u hu q hq=>by
  unfold fw at hq;split at hq
  ·rename_i hut;subst hut;simp only[aC]at hq;subst hq;obtain⟨h1,h2⟩:=hs u hu y ht;exact⟨h1,hk F w _ hh h2⟩
  ·exact hs u hu q hq
theorem qg {G:Gl} {w:World} {F:Nat->Prop} {ηB:List aq} (hh:bG G w F ηB) {i:Nat} {x:AV} {v:Value} (h:nth ηB i=some (.fact x v)):Rel w (Al F ηB) x v:=iP hh h
theorem Rel.H3 {w:World} {A:Nat->Prop} {cs:List AV} {b:Nat} (off:Nat) (h:Rel w A (.ip cs) (.pointer (some ⟨b,0,none⟩))):Rel w A (.ip (cs.drop off)) (.pointer (some ⟨b,off,none⟩)):=by
 simp only[Rel]at h⊢;obtain⟨b',o',vs,e1,e2,e3,e4⟩:=h;cases e1;exact⟨b,off,vs.drop off,rfl,e2,e3.drop off,λj u hj=>by rw[v8]at hj;have:=e4 _ _ hj;simpa using this⟩
theorem bd.aeX {t:TypeId} {p:Operand} {i off:Nat} {cs:List AV} {y:AV} (ho:o.op= .load t p) (hp:aW Z p=some (.own i off)) (hi:O.e.get i=some (.lj cs)) (hl:iV E.T t (cs.drop off) 0=some y):bd E N o Z O (.d y):=λW s ηB hs hh=>by
 obtain⟨u,rfl,hu⟩:=N3 hp (λ_ h=>by cases h);obtain⟨z,h1,h2⟩:=hs u _ hu;simp only[aG]at h2;obtain⟨b,t',h3,rfl⟩:=h2;obtain⟨z,h4,h5⟩:=hh.en i _ hi;obtain⟨b',h6,rfl⟩:=h5;rw[h3]at h6;cases h6;refine⟨y,rfl,bP.known (t:=u) (z:= .ip (cs.drop off)) (bP.cJ ?_) h1 λF w v hH hr=>?_⟩
 ·rw[ho];unfold iV at hl;simp only[Bw.cJ,ev,fw,if_true];split at hl
  ·rename_i d k b z ht;simp only[ht];simp only[List.drop_zero]at hl;rw[<-hl];cases d.agg<;>rfl
  ·cases hl
 ·simp only[Rel]at hr;subst hr;exact(qg hH h4).H3 off
theorem bd.len {t:TypeId} {p:Operand} {i n e k sz by':Nat} {z:List Value} (ho:o.op= .call {callee:= .builtin .len,args:= #[p],argTypes:= #[t]}) (hp:aW Z p=some (.os i n)) (ht:aZ E.T t=some ⟨.slice e k,sz,by',z⟩):bd E N o Z O (.d (.v (.int .i64 (n:Int)))):=λW s ηB hs _=>by
 obtain⟨y,h1,h2⟩:=bY hs hp;simp only[aG]at h2;obtain⟨a,c,t',h3,rfl⟩:=h2;exact⟨_,rfl,bP.len ho h1 (by simp[rf,ht])⟩
theorem bd.afo {t:TypeId} {p:Operand} {y:AV} {n:Int} (ho:o.op= .call {callee:= .builtin .len,args:= #[p],argTypes:= #[t]}) (hp:aW Z p=some (.d y)) (hl:rf E.T t y=some n):bd E N o Z O (.d (.v (.int .i64 n))):=λW s ηB hs _=>by
 obtain⟨z,h1,h2⟩:=bY hs hp;simp only[aG]at h2;subst h2;exact⟨_,rfl,bP.len ho h1 hl⟩
theorem bd.S6 {t:TypeId} {p ix:Operand} {i n e k sz by':Nat} {z:List Value} {rows:List (List AV)} {kd:IntKind} {m:Int} (j:Nat) (ho:o.op= .indexAddr t p ix) (hp:aW Z p=some (.os i n)) (hi:O.e.get i=some (.row e k rows)) (hn:n=rows.length)
  (ht:aZ E.T t=some ⟨.slice e k,sz,by',z⟩) (hix:aW Z ix=some (.d (.v (.int kd m)))) (hm:m=(j:Int)) (hj:j<rows.length):bd E N o Z O (.oe i n (j*k)):=λW s ηB hs hh=>by
 obtain⟨y,h1,h2⟩:=bY hs hp;simp only[aG]at h2;obtain⟨a,c,t',h3,rfl⟩:=h2;obtain⟨y',h4,h5⟩:=bY hs hix;simp only[aG]at h5;subst h5;obtain⟨q,h6,h7⟩:=hh.en i _ hi;obtain⟨⟨a',c',h8,rfl⟩,_⟩:=h7;subst hn;rw[h3]at h8;cases h8;refine⟨.oe i (.slice a rows.length c) (j*k),by simp only[aG];exact⟨a,c,i,h3,rfl⟩,?_⟩;exact bP.mZ (ZT ho j ht (by rw[fc (by simp[ho,Op.operands])];exact h1) h6 (by rw[fc (by simp[ho,Op.operands])];exact h4) hm hj)
theorem bd.QB {t:TypeId} {p:Operand} {i n m e k:Nat} {rows:List (List AV)} {r:List AV} {y:AV} (j off:Nat) (ho:o.op= .load t p) (hp:aW Z p=some (.oe i n m)) (hi:O.e.get i=some (.row e k rows)) (hn:n=rows.length) (hm:m=j*k+off) (hr:rows[j]? =some r)
  (hl:iV E.T t r off=some y):bd E N o Z O (.d y):=λW s ηB hs hh=>by
 obtain⟨z,h1,h2⟩:=bY hs hp;simp only[aG]at h2;obtain⟨a,c,t',h3,rfl⟩:=h2;obtain⟨q,h6,h7⟩:=hh.en i _ hi;obtain⟨⟨a',c',h8,rfl⟩,_⟩:=h7;subst hn;rw[h3]at h8;cases h8;exact⟨y,rfl,bP.mZ (Zl ho j off (by rw[fc (by simp[ho,Op.operands])];exact h1) hm h6 hr hl)⟩
theorem bd.afn {t:TypeId} {p ix:Operand} {i n e k sz by':Nat} {z:List Value} {rows:List (List AV)} {r:List AV} {kd:IntKind} {m:Int} (j:Nat) (ho:o.op= .indexAddr t p ix) (hp:aW Z p=some (.os i n)) (hi:O.e.get i=some (.iH k rows)) (hn:n=rows.length)
  (ht:aZ E.T t=some ⟨.slice e k,sz,by',z⟩) (hix:aW Z ix=some (.d (.v (.int kd m)))) (hm:m=(j:Int)) (hr:rows[j]? =some r):bd E N o Z O (.d (.ip r)):=λW s ηB hs hh=>by
 obtain⟨u,rfl,hu⟩:=N3 hp (λ_ h=>by cases h);obtain⟨y,h1,h2⟩:=hs u _ hu;simp only[aG]at h2;obtain⟨a,c,t',h3,rfl⟩:=h2;obtain⟨q,h6,h7⟩:=hh.en i _ hi;obtain⟨a',c',h8,rfl⟩:=h7;subst hn;rw[h3]at h8;cases h8;obtain⟨y',h4,h5⟩:=bY hs hix;simp only[aG]at h5;subst h5;subst hm;refine⟨.ip r,rfl,bP.known (t:=u) (z:= .sl k rows) ?_ h1 λF w v hH hrl=>?_⟩
 ·refine bP.dV (E:=E) ?_;have hev:ev (fw s u (.sl k rows)) ix=some (.v (.int kd (j:Int))):=by
   cases ix with
   |tmp q=>
    simp only[ev,fw]at h4⊢;split
    ·rename_i hq;subst hq;rw[h1]at h4;cases h4
    ·exact h4
   |const v=>exact h4
   |global g=>exact h4
   |func f=>exact h4
  have hnat:lW (some (.v (.int kd (j:Int))))=some j:=rfl;rw[ho];simp only[Bw.dV,hev,hnat,ht,v7,cA];simp[ev,fw,hr]
 ·simp only[Rel]at hrl;subst hrl;exact qg hH h6
theorem bd.idx {t:TypeId} {p ix:Operand} {e k sz by':Nat} {z:List Value} {rows:List (List AV)} {r:List AV} {kd:IntKind} {m:Int} (j:Nat) (ho:o.op= .indexAddr t p ix) (hp:aW Z p=some (.d (.sl k rows)))
  (ht:aZ E.T t=some ⟨.slice e k,sz,by',z⟩) (hix:aW Z ix=some (.d (.v (.int kd m)))) (hm:m=(j:Int)) (hr:rows[j]? =some r):bd E N o Z O (.d (.ip r)):=λW s ηB hs hh=>by
 obtain⟨y,h1,h2⟩:=bY hs hp;simp only[aG]at h2;subst h2;obtain⟨y',h4,h5⟩:=bY hs hix;simp only[aG]at h5;subst h5;subst hm;refine⟨.ip r,rfl,bP.dV (E:=E) ?_⟩;have hnat:lW (some (.v (.int kd (j:Int))))=some j:=rfl;rw[ho];simp only[Bw.dV,h1,h4,hnat,ht,v7,cA,hr]
