/- An abstract machine over the program logic: its values name own blocks by tags, so that its steps can be computed. First part: values, slots, heap, what they say, the judgement. -/
import Derived.Test.YthlcjaanmbjcaaaGreatKB10
set_option linter.all false
noncomputable section
namespace Go.Bw
open Go
inductive CV where
 |d (x:AV)
 |agg (xs:List CV)
 |bK (xs:List CV)
 |own (t off:Nat)
 |os (t n:Nat)
 |oe (t n off:Nat)
 |om (t:Nat)
 |fn (f:FuncId) (fs cs:List CV)
 |ba (ty:TypeId) (x:CV)
structure au where
 b:Nat->Option Nat
 s:Nat->Nat->Option (Option Addr×Nat)
def au.le (L L':au):Prop:=(∀t x,L.b t=some x->L'.b t=some x)/\∀t n x,L.s t n=some x->L'.s t n=some x
theorem au.le.refl (L:au):L.le L:=⟨λ_ _ h=>h,λ_ _ _ h=>h⟩
theorem au.le.trans {L L' L'':au} (h:L.le L') (g:L'.le L''):L.le L'':=⟨λt x hx=>g.1 t x (h.1 t x hx),λt n x hx=>g.2 t n x (h.2 t n x hx)⟩
mutual
def aw (L:au):CV->AV->Prop
 | .d x,y=>y=x
 | .agg xs,y=>∃ys,y= .agg ys/\aC L xs ys
 | .bK xs,y=>∃ys,y= .bK ys/\aC L xs ys
 | .own t o,y=>∃b t',L.b t=some b/\y= .own t' b o
 | .os t n,y=>∃a c t',L.s t n=some (a,c)/\y= .os t' a n c
 | .oe t n o,y=>∃a c t',L.s t n=some (a,c)/\y= .oe t' (.slice a n c) o
 | .om t,y=>∃b t',L.b t=some b/\y= .om t' b
 | .fn f fs cs,y=>∃us vs,y= .fn f us vs/\aC L fs us/\aC L cs vs
 | .ba t x,y=>∃u,y= .ba t u/\aw L x u
def aC (L:au):List CV->List AV->Prop
 |[],ys=>ys=[]
 |x::xs,ys=>∃y r,ys=y::r/\aw L x y/\aC L xs r
end
section
variable {L L':au}
mutual
theorem aw.mono (h:L.le L'):∀{x:CV} {y:AV},aw L x y->aw L' x y
 | .d x,_,h1=>by simp only[aw]at h1⊢;exact h1
 | .agg xs,_,h1=>by simp only[aw]at h1⊢;obtain⟨ys,e,h2⟩:=h1;exact⟨ys,e,aC.mono h h2⟩
 | .bK xs,_,h1=>by simp only[aw]at h1⊢;obtain⟨ys,e,h2⟩:=h1;exact⟨ys,e,aC.mono h h2⟩
 | .own t o,_,h1=>by simp only[aw]at h1⊢;obtain⟨b,t',e,h2⟩:=h1;exact⟨b,t',h.1 _ _ e,h2⟩
 | .os t n,_,h1=>by simp only[aw]at h1⊢;obtain⟨a,c,t',e,h2⟩:=h1;exact⟨a,c,t',h.2 _ _ _ e,h2⟩
 | .oe t n o,_,h1=>by simp only[aw]at h1⊢;obtain⟨a,c,t',e,h2⟩:=h1;exact⟨a,c,t',h.2 _ _ _ e,h2⟩
 | .om t,_,h1=>by simp only[aw]at h1⊢;obtain⟨b,t',e,h2⟩:=h1;exact⟨b,t',h.1 _ _ e,h2⟩
 | .fn f fs cs,_,h1=>by simp only[aw]at h1⊢;obtain⟨us,vs,e,h2,h3⟩:=h1;exact⟨us,vs,e,aC.mono h h2,aC.mono h h3⟩
 | .ba t x,_,h1=>by simp only[aw]at h1⊢;obtain⟨u,e,h2⟩:=h1;exact⟨u,e,aw.mono h h2⟩
theorem aC.mono (h:L.le L'):∀{x:List CV} {y:List AV},aC L x y->aC L' x y
 |[],_,h1=>by simp only[aC]at h1⊢;exact h1
 |_::_,_,h1=>by simp only[aC]at h1⊢;obtain⟨y,r,e,h2,h3⟩:=h1;exact⟨y,r,e,aw.mono h h2,aC.mono h h3⟩
end
theorem aC.length:∀{xs:List CV} {ys:List AV},aC L xs ys->ys.length=xs.length
 |[],_,h=>by simp only[aC]at h;simp[h]
 |_::_,_,h=>by simp only[aC]at h;obtain⟨y,r,rfl,_,h⟩:=h;simp[aC.length h]
theorem aC.nth:∀{xs:List CV} {ys:List AV} {n:Nat} {x:CV},aC L xs ys->Bw.nth xs n=some x->∃y,Bw.nth ys n=some y/\aw L x y
 |[],_,_,_,_,h=>by simp[Bw.nth]at h
 |y::_,ys,0,x,hr,h=>by
  simp only[aC]at hr;obtain⟨v,r,rfl,h1,_⟩:=hr;simp only[Bw.nth,ao]at h;subst h;exact⟨v,by simp[Bw.nth],h1⟩
 |_::xs,ys,n+1,x,hr,h=>by
  simp only[aC]at hr;obtain⟨v,r,rfl,_,h2⟩:=hr;simp only[Bw.nth]at h;obtain⟨u,h3,h4⟩:=aC.nth h2 h;exact⟨u,by simpa[Bw.nth]using h3,h4⟩
theorem aC.drop:∀(n:Nat) {xs:List CV} {ys:List AV},aC L xs ys->aC L (xs.drop n) (ys.drop n)
 |0,_,_,h=>by simpa using h
 |n+1,[],_,h=>by simp only[aC]at h;subst h;simp[aC]
 |n+1,_::_,_,h=>by simp only[aC]at h;obtain⟨v,r,rfl,_,h⟩:=h;simpa using aC.drop n h
theorem aC.take:∀(n:Nat) {xs:List CV} {ys:List AV},aC L xs ys->aC L (xs.take n) (ys.take n)
 |0,_,_,_=>by simp[aC]
 |n+1,[],_,h=>by simp only[aC]at h;subst h;simp[aC]
 |n+1,_::_,_,h=>by simp only[aC]at h;obtain⟨v,r,rfl,h1,h⟩:=h;simp only[uU,aC];exact⟨v,_,rfl,h1,aC.take n h⟩
theorem aC.append:∀{xs xs':List CV} {ys ys':List AV},aC L xs ys->aC L xs' ys'->aC L (xs++xs') (ys++ys')
 |[],_,_,_,h,g=>by simp only[aC]at h;subst h;simpa using g
 |_::_,_,_,_,h,g=>by simp only[aC]at h;obtain⟨v,r,rfl,h1,h⟩:=h;simp only[gT,aC];exact⟨v,_,rfl,h1,aC.append h g⟩
theorem fi:∀(xs:List AV),aC L (xs.map .d) xs
 |[]=>by simp[aC]
 |x::r=>by simp only[cA,aC,aw];exact⟨_,_,rfl,rfl,fi r⟩
def eg:List CV->Option (List AV)
 |[]=>some []
 | .d x::r=>match eg r with
  |some xs=>some (x::xs)
  |none=>none
 |_::_=>none
theorem jk:∀{xs:List CV} {ys zs:List AV},eg xs=some zs->aC L xs ys->ys=zs
 |[],ys,zs,h,hr=>by simp only[eg,ao]at h;simp only[aC]at hr;rw[hr,<-h]
 |x::r,ys,zs,h,hr=>by
  cases x<;>simp only[eg]at h<;>try (cases h;done)
  split at h
  ·rename_i zs' h1;simp only[ao]at h;simp only[aC]at hr;obtain⟨v,r',rfl,h2,h3⟩:=hr;simp only[aw]at h2;rw[h2,jk h1 h3,h]
  ·cases h
def od (xs:List CV):CV:=match eg xs with
 |some ys=> .d (.agg ys)
 |none=> .agg xs
theorem se {xs:List CV} {ys:List AV} (h:aC L xs ys):aw L (od xs) (.agg ys):=by
 unfold od;split
 ·rename_i zs hz;simp only[aw];rw[jk hz h]
 ·simp only[aw];exact⟨ys,rfl,h⟩
def xJ (xs:List CV):CV:=match eg xs with
 |some ys=> .d (.bK ys)
 |none=> .bK xs
theorem CI {xs:List CV} {ys:List AV} (h:aC L xs ys):aw L (xJ xs) (.bK ys):=by
 unfold xJ;split
 ·rename_i zs hz;simp only[aw];rw[jk hz h]
 ·simp only[aw];exact⟨ys,rfl,h⟩
end
def Tr.put {D:Type}:Nat->Tr D->Nat->Option D->Tr D
 |0,_,_,_=> .lf
 |f+1,.lf,n,y=> @Bool.rec (λ_=>Tr D) (@Bool.rec (λ_=>Tr D) (.nd none .lf (Tr.put f .lf (Nat.pred (fv n)) y)) (.nd none (Tr.put f .lf (fv n) y) .lf) (Nat.beq (gr n) 1)) (.nd y .lf .lf) (Nat.beq n 0)
 |f+1,.nd x l r,n,y=> @Bool.rec (λ_=>Tr D) (@Bool.rec (λ_=>Tr D) (.nd x l (Tr.put f r (Nat.pred (fv n)) y)) (.nd x (Tr.put f l (fv n) y) r) (Nat.beq (gr n) 1)) (.nd y l r) (Nat.beq n 0)
theorem Tr.Oe {D:Type} (t:Tr D) (n:Nat) (y:Option D):Tr.put 0 t n y= .lf:=rfl
theorem Tr.tn {D:Type} (f n:Nat) (y:Option D):Tr.put (f+1) .lf n y=match Nat.beq n 0 with
  |true=> .nd y .lf .lf
  |false=>match Nat.beq (gr n) 1 with
   |true=> .nd none (Tr.put f .lf (fv n) y) .lf
   |false=> .nd none .lf (Tr.put f .lf (Nat.pred (fv n)) y):=by
 rw[Tr.put]
 all_goals cases Nat.beq n 0
 all_goals first|rfl|(cases Nat.beq (gr n) 1<;>rfl)
theorem Tr.tp {D:Type} (f:Nat) (x:Option D) (l r:Tr D) (n:Nat) (y:Option D):Tr.put (f+1) (.nd x l r) n y=match Nat.beq n 0 with
  |true=> .nd y l r
  |false=>match Nat.beq (gr n) 1 with
   |true=> .nd x (Tr.put f l (fv n) y) r
   |false=> .nd x l (Tr.put f r (Nat.pred (fv n)) y):=by
 rw[Tr.put]
 all_goals cases Nat.beq n 0
 all_goals first|rfl|(cases Nat.beq (gr n) 1<;>rfl)
def Tr.bY {D R:Type}:Nat->Tr D->Nat->Option D->(Tr D->R)->R
 |0,_,_,_,k=>k .lf
 |f+1,.lf,n,y,k=> @Bool.rec (λ_=>R) (@Bool.rec (λ_=>R) (Tr.bY f .lf (Nat.pred (fv n)) y λr=>k (.nd none .lf r)) (Tr.bY f .lf (fv n) y λl=>k (.nd none l .lf)) (Nat.beq (gr n) 1)) (k (.nd y .lf .lf)) (Nat.beq n 0)
 |f+1,.nd x l r,n,y,k=> @Bool.rec (λ_=>R) (@Bool.rec (λ_=>R) (Tr.bY f r (Nat.pred (fv n)) y λr=>k (.nd x l r)) (Tr.bY f l (fv n) y λl=>k (.nd x l r)) (Nat.beq (gr n) 1)) (k (.nd y l r)) (Nat.beq n 0)
theorem Tr.cN {D R:Type}:∀(f:Nat) (t:Tr D) (n:Nat) (y:Option D) (k:Tr D->R),Tr.bY f t n y k=k (Tr.put f t n y)
 |0,_,_,_,_=>rfl
 |f+1,.lf,n,y,k=>by
  rw[Tr.tn,Tr.bY];cases Nat.beq n 0 with
  |true=>rfl
  |false=>cases Nat.beq (gr n) 1<;>exact Tr.cN f _ _ _ _
 |f+1,.nd x l r,n,y,k=>by
  rw[Tr.tp,Tr.bY];cases Nat.beq n 0 with
  |true=>rfl
  |false=>cases Nat.beq (gr n) 1<;>exact Tr.cN f _ _ _ _
theorem eO {n m:Nat} (h:Nat.beq n m=false):n≠m:=λe=>by subst e;rw[rR]at h;cases h
theorem Tr.put_comm {D:Type}:∀(f:Nat) (t:Tr D) (n m:Nat) (y z:Option D),n≠m->Tr.put f (Tr.put f t n y) m z=Tr.put f (Tr.put f t m z) n y
 |0,_,_,_,_,_,_=>rfl
 |f+1,t,n,m,y,z,hne=>by
  have ih:=λ(t:Tr D) (n m:Nat) (y z:Option D) (h:n≠m)=>Tr.put_comm f t n m y z h;have hL:∀n m:Nat,n≠m->Nat.beq n 0=false->Nat.beq m 0=false->Nat.beq (Nat.mod n 2) 1=true->Nat.beq (Nat.mod m 2) 1=true->Nat.div n 2≠Nat.div m 2:=by
   intro n m h h1 h2 h3 h4;have h3:=bf h3;have h4:=bf h4;change n%2=1 at h3;change m%2=1 at h4;change ¬n/2=m/2;omega
  have hR:∀n m:Nat,n≠m->Nat.beq n 0=false->Nat.beq m 0=false->Nat.beq (Nat.mod n 2) 1=false->Nat.beq (Nat.mod m 2) 1=false->Nat.pred (Nat.div n 2)≠Nat.pred (Nat.div m 2):=by
   intro n m h h1 h2 h3 h4;have h1:=eO h1;have h2:=eO h2;have h3:=eO h3;have h4:=eO h4;change ¬n%2=1 at h3;change ¬m%2=1 at h4;change ¬n/2-1=m/2-1;omega
  cases h1:Nat.beq n 0<;>cases h2:Nat.beq m 0<;>cases h3:Nat.beq (Nat.mod n 2) 1<;>cases h4:Nat.beq (Nat.mod m 2) 1<;>cases t<;>simp only[Tr.tn,Tr.tp,iE,iF,h1,h2,h3,h4]<;>
   first
   |(rw[ih _ _ _ _ _ (hL n m hne h1 h2 h3 h4)];done)
   |(rw[ih _ _ _ _ _ (hR n m hne h1 h2 h3 h4)];done)
   |(exact absurd ((bf h1).trans (bf h2).symm) hne)
   |skip
theorem Tr.dA {D:Type}:∀(f:Nat) (t:Tr D) (n m:Nat) (y:Option D) (z:D),(Tr.put f t n y).get m=some z->(m=n/\y=some z)\/(m≠n/\t.get m=some z)
 |0,_,_,_,_,_,h=>by simp[Tr.Oe,Tr.gH]at h
 |f+1,.lf,n,m,y,z,h=>by
  simp only[Tr.tn,Tr.tp,iE,iF]at h;cases h0:Nat.beq n 0 with
  |true=>
   have:=bf h0;subst this;rw[h0]at h;simp only[Tr.kU,iE,iF]at h;cases hm:Nat.beq m 0 with
   |true=>rw[hm]at h;exact .inl ⟨bf hm,h⟩
   |false=>rw[hm]at h;simp only at h;cases hb:Nat.beq (Nat.mod m 2) 1<;>rw[hb]at h<;>cases h
  |false=>
   have hn:=eO h0;rw[h0]at h;simp only at h;cases h1:Nat.beq (Nat.mod n 2) 1 with
   |true=>
    rw[h1]at h;have h1:=bf h1;simp only[Tr.kU,iE,iF]at h;cases hm:Nat.beq m 0 with
    |true=>rw[hm]at h;cases h
    |false=>
     have hm:=eO hm;simp only[‹Nat.beq m 0=false›]at h;cases hb:Nat.beq (Nat.mod m 2) 1 with
     |true=>
      rw[hb]at h;have hb:=bf hb;rcases Tr.dA f .lf _ _ y z h with⟨h2,h3⟩|⟨_,h3⟩
      ·refine .inl ⟨?_,h3⟩;change n%2=1 at h1;change m%2=1 at hb;change m/2=n/2 at h2;omega
      ·simp[Tr.gH]at h3
     |false=>rw[hb]at h;cases h
   |false=>
    rw[h1]at h;have h1:=eO h1;simp only[Tr.kU,iE,iF]at h;cases hm:Nat.beq m 0 with
    |true=>rw[hm]at h;cases h
    |false=>
     have hm:=eO hm;simp only[‹Nat.beq m 0=false›]at h;cases hb:Nat.beq (Nat.mod m 2) 1 with
     |true=>rw[hb]at h;cases h
     |false=>
      rw[hb]at h;have hb:=eO hb;rcases Tr.dA f .lf _ _ y z h with⟨h2,h3⟩|⟨_,h3⟩
      ·refine .inl ⟨?_,h3⟩;change ¬n%2=1 at h1;change ¬m%2=1 at hb;change m/2-1=n/2-1 at h2;omega
      ·simp[Tr.gH]at h3
 |f+1,.nd x l r,n,m,y,z,h=>by
  simp only[Tr.tn,Tr.tp,iE,iF]at h;cases h0:Nat.beq n 0 with
  |true=>
   have:=bf h0;subst this;rw[h0]at h;simp only[Tr.kU,iE,iF]at h⊢;cases hm:Nat.beq m 0 with
   |true=>rw[hm]at h;exact .inl ⟨bf hm,h⟩
   |false=>rw[hm]at h;exact .inr ⟨eO hm,h⟩
  |false=>
   have hn:=eO h0;rw[h0]at h;simp only at h;cases h1:Nat.beq (Nat.mod n 2) 1 with
   |true=>
    rw[h1]at h;have h1:=bf h1;simp only[Tr.kU,iE,iF]at h⊢;cases hm:Nat.beq m 0 with
    |true=>rw[hm]at h;exact .inr ⟨λe=>hn (by rw[<-e];exact bf hm),h⟩
    |false=>
     rw[hm]at h;simp only at h⊢;have hm:=eO hm;cases hb:Nat.beq (Nat.mod m 2) 1 with
     |true=>
      rw[hb]at h;have hb:=bf hb;change n%2=1 at h1;change m%2=1 at hb;rcases Tr.dA f l _ _ y z h with⟨h2,h3⟩|⟨h2,h3⟩
      ·refine .inl ⟨?_,h3⟩;change m/2=n/2 at h2;omega
      ·refine .inr ⟨?_,h3⟩;change ¬m/2=n/2 at h2;omega
     |false=>
      rw[hb]at h;have hb:=eO hb;change n%2=1 at h1;change ¬m%2=1 at hb;exact .inr ⟨by omega,h⟩
   |false=>
    rw[h1]at h;have h1:=eO h1;simp only[Tr.kU,iE,iF]at h⊢;cases hm:Nat.beq m 0 with
    |true=>rw[hm]at h;exact .inr ⟨λe=>hn (by rw[<-e];exact bf hm),h⟩
    |false=>
     rw[hm]at h;simp only at h⊢;have hm:=eO hm;cases hb:Nat.beq (Nat.mod m 2) 1 with
     |true=>
      rw[hb]at h;have hb:=bf hb;change ¬n%2=1 at h1;change m%2=1 at hb;exact .inr ⟨by omega,h⟩
     |false=>
      rw[hb]at h;have hb:=eO hb;change ¬n%2=1 at h1;change ¬m%2=1 at hb;rcases Tr.dA f r _ _ y z h with⟨h2,h3⟩|⟨h2,h3⟩
      ·refine .inl ⟨?_,h3⟩;change m/2-1=n/2-1 at h2;omega
      ·refine .inr ⟨?_,h3⟩;change ¬m/2-1=n/2-1 at h2;omega
abbrev TS:=Tr CV
inductive aR where
 |box (cs:List CV)
 |row (e k:Nat) (rows:List (List AV))
 |map (es:List (Value×CV))
 |ir (cs:List AV)
 |fw (k:Nat) (rows:List (List AV))
 |set (l:List (List UInt8))
 |bL (l:List Int)
 |gone
structure Hp where
 e:Tr aR
 n:Nat
def gn (L:au):List (Value×CV)->List (Value×AV)->Prop
 |[],ys=>ys=[]
 |x::xs,ys=>∃y r,ys=y::r/\y.1=x.1/\aw L x.2 y.2/\gn L xs r
theorem gn.mono {L L':au} (h:L.le L'):∀{xs:List (Value×CV)} {ys:List (Value×AV)},gn L xs ys->gn L' xs ys
 |[],_,h1=>by simp only[gn]at h1⊢;exact h1
 |_::_,_,h1=>by simp only[gn]at h1⊢;obtain⟨y,r,e,h2,h3,h4⟩:=h1;exact⟨y,r,e,h2,h3.mono h,gn.mono h h4⟩
def OE (l:List (List UInt8)):List (Value×AV):=l.map λs=>(.string ⟨⟨s⟩⟩,.v (.bool true))
def dB (l:List Int):List (Value×AV):=l.map λn=>(.int .i64 n,.v (.bool true))
def iP (L:au) (i:Nat):aR->ag->Prop
 | .box cs,y=>∃b cs',L.b i=some b/\y= .box b cs'/\aC L cs cs'
 | .row e k rows,y=>(∃a c,L.s i rows.length=some (a,c)/\y= .row (.slice a rows.length c) e k rows)/\∀m,rows.length<m->L.s i m=none
 | .map es,y=>∃b es',L.b i=some b/\y= .map b es'/\gn L es es'
 | .ir cs,y=>∃b,L.b i=some b/\y= .fact (.ip cs) (.pointer (some ⟨b,0,none⟩))
 | .fw k rows,y=>∃a c,L.s i rows.length=some (a,c)/\y= .fact (.sl k rows) (.slice a rows.length c)
 | .set l,y=>∃b,L.b i=some b/\y= .map b (OE l)
 | .bL l,y=>∃b,L.b i=some b/\y= .map b (dB l)
 | .gone,_=>True
theorem iP.mono {L L':au} (h:L.le L') {i:Nat} (hi:L'.s i=L.s i) {x:aR} {y:ag} (hx:iP L i x y):iP L' i x y:=by
 cases x with
 |box cs=>obtain⟨b,cs',h1,h2,h3⟩:=hx;exact⟨b,cs',h.1 _ _ h1,h2,h3.mono h⟩
 |row e k rows=>obtain⟨⟨a,c,h1,h2⟩,h3⟩:=hx;exact⟨⟨a,c,by rw[hi];exact h1,h2⟩,λm hm=>by rw[hi];exact h3 m hm⟩
 |map es=>obtain⟨b,es',h1,h2,h3⟩:=hx;exact⟨b,es',h.1 _ _ h1,h2,h3.mono h⟩
 |ir cs=>obtain⟨b,h1,h2⟩:=hx;exact⟨b,h.1 _ _ h1,h2⟩
 |fw k rows=>obtain⟨a,c,h1,h2⟩:=hx;exact⟨a,c,h.2 _ _ _ h1,h2⟩
 |set l=>obtain⟨b,h1,h2⟩:=hx;exact⟨b,h.1 _ _ h1,h2⟩
 |bL l=>obtain⟨b,h1,h2⟩:=hx;exact⟨b,h.1 _ _ h1,h2⟩
 |gone=>trivial
def SS (L:au) (Z:TS) (s:Sl):Prop:=∀t x,Z.get t=some x->∃y,s t=some y/\aw L x y
theorem SS.mono {L L':au} (h:L.le L') {Z:TS} {s:Sl} (hs:SS L Z s):SS L' Z s:=λt x hx=>by
 obtain⟨y,h1,h2⟩:=hs t x hx;exact⟨y,h1,h2.mono h⟩
structure HS (L:au) (O:Hp) (ηB:List ag):Prop where
 en:∀i x,O.e.get i=some x->∃y,nth ηB i=some y/\iP L i x y
 len:ηB.length=O.n
 eC:∀t,O.n<=t->L.b t=none/\∀n,L.s t n=none
def br (Z:TS) (dst:Option Nat) (x:CV):TS:=match dst with
 |some d=>Tr.put 24 Z d (some x)
 |none=>Z
theorem SS.put {L:au} {Z:TS} {ZB:Sg} (h:SS L Z (look ZB)) (dst:Option Nat) {x:CV} {y:AV} (hx:aw L x y):SS L (br Z dst x) (look (ik dst y ZB)):=by
 cases dst with
 |none=>exact h
 |some d=>
  intro t z hz;rcases Tr.dA 24 Z d t (some x) z hz with⟨rfl,h1⟩|⟨hne,h1⟩
  ·cases h1;exact⟨y,by simp[ik,look],hx⟩
  ·obtain⟨u,h2,h3⟩:=h t z h1;refine⟨u,?_,h3⟩;have:Nat.beq d t=false:=by cases hb:Nat.beq d t with
    |false=>rfl
    |true=>exact absurd (bf hb).symm hne
   simp only[ik,look,this];exact h2
inductive DE where
 |norm
 |exit (id:Nat)
 |ret
 |aD (x:CV)
def DE.inst (L:au):DE->AE->Prop
 | .norm,e=>e= .norm
 | .exit i,e=>e= .exit i
 | .ret,e=>e= .ret
 | .aD x,e=>∃y,e= .aD y/\aw L x y
abbrev DQ:=DE->TS->Hp->Prop
def DE.sl (e:DE) (Z:TS):TS:=match e with
 | .aD _=> .lf
 |_=>Z
def au.ei (K:Nat) (L L':au):Prop:=∀t,t<K->(∀x,L.b t=some x->L'.b t=some x)/\∀n x,L.s t n=some x->L'.s t n=some x
theorem au.ei.refl (K:Nat) (L:au):au.ei K L L:=λ_ _=>⟨λ_ h=>h,λ_ _ h=>h⟩
theorem au.ei.trans {K:Nat} {L L' L'':au} (h:au.ei K L L') (g:au.ei K L' L''):au.ei K L L'':=λt ht=>⟨λx hx=>(g t ht).1 x ((h t ht).1 x hx),λn x hx=>(g t ht).2 n x ((h t ht).2 n x hx)⟩
theorem au.le.toK {L L':au} (h:L.le L') (K:Nat):au.ei K L L':=λt _=>⟨h.1 t,h.2 t⟩
theorem au.ei.less {K K':Nat} {L L':au} (h:au.ei K L L') (hk:K'<=K):au.ei K' L L':=λt ht=>h t (kE ht hk)
def lift (K:Nat) (L:au) (Q:DQ):AQ:=λe ZB ηB=>∃L' d Z O,au.ei K L L'/\DE.inst L' d e/\SS L' Z (look ZB)/\HS L' O ηB/\Q d Z O
theorem lH {K:Nat} {L L':au} (h:au.ei K L L') {Q Q':DQ} (hq:∀e Z O,Q e Z O->Q' e Z O) {e:AE} {ZB:Sg} {ηB:List ag} (hl:lift K L' Q e ZB ηB):lift K L Q' e ZB ηB:=by
 obtain⟨L1,d,Z,O,h1,h2,h3,h4,h5⟩:=hl;exact⟨L1,d,Z,O,h.trans h1,h2,h3,h4,hq _ _ _ h5⟩
def DC (E:Env) (N K:Nat) (c:Code) (Q:DQ) (Z:TS) (O:Hp):Prop:=∀L ZB ηB,SS L Z (look ZB)->HS L O ηB->bg E.toCx N c (lift K L Q) ZB ηB
def DO (E:Env) (N K:Nat) (all rest:List Oper) (Q:DQ) (Z:TS) (O:Hp):Prop:=∀L ZB ηB,SS L Z (look ZB)->HS L O ηB->aQ E.toCx N all.toArray rest (lift K L Q) ZB ηB
abbrev DE.then (next:TS->Hp->Prop) (Q:DQ):DQ:=λe Z O=>match e with
 | .norm=>next Z O
 | .exit i=>Q (.exit i) Z O
 | .ret=>Q .ret Z O
 | .aD x=>Q (.aD x) Z O
abbrev DE.inBlock (id:Nat) (Q:DQ):DQ:=λe Z O=>match e with
 | .norm=>Q .norm Z O
 | .exit i=>match Nat.beq i id with
  |true=>Q .norm Z O
  |false=>Q (.exit i) Z O
 | .ret=>Q .ret Z O
 | .aD x=>Q (.aD x) Z O
section
variable {E:Env} {N K:Nat} {Q:DQ} {Z:TS} {O:Hp}
theorem mQ {L:au} {d:DE} {e:AE} {ZB:Sg} {ηB:List ag} (h:DE.inst L d e) (hs:SS L Z (look ZB)) (hh:HS L O ηB) (hq:Q d Z O):lift K L Q e ZB ηB:=⟨L,d,Z,O,.refl K L,h,hs,hh,hq⟩
theorem DC.skip (h:Q .norm Z O):DC E N K .skip Q Z O:=λL ZB ηB hs hh=>bg.skip (mQ (d:= .norm) rfl hs hh h)
theorem DC.exit {id:Nat} (h:Q (.exit id) Z O):DC E N K (.exit id) Q Z O:=λL ZB ηB hs hh=>bg.exit (mQ (d:= .exit id) rfl hs hh h)
theorem DC.ret (h:Q .ret Z O):DC E N K .ret Q Z O:=λL ZB ηB hs hh=>bg.ret (mQ (d:= .ret) rfl hs hh h)
theorem DC.label {l:Nat} (h:Q .norm Z O):DC E N K (.label l) Q Z O:=λL ZB ηB hs hh=>bg.label (mQ (d:= .norm) rfl hs hh h)
theorem DC.mono {c:Code} {Q':DQ} (h:DC E N K c Q Z O) (hq:∀e Z O,Q e Z O->Q' e Z O):DC E N K c Q' Z O:=λL ZB ηB hs hh=>
 bg.mono (h L ZB ηB hs hh) λ_ _ _ hl=>lH (.refl K L) hq hl
theorem DC.seq {x y:Code} (h:DC E N K x (DE.then (DC E N K y Q) Q) Z O):DC E N K (.seq x y) Q Z O:=λL ZB ηB hs hh=>by
 refine bg.seq (bg.mono (h L ZB ηB hs hh) ?_);rintro e ZB' OB' ⟨L',d,Z',O',h1,h2,h3,h4,h5⟩;cases d with
 |norm=>simp only[DE.inst]at h2;subst h2;exact bg.mono (h5 L' ZB' OB' h3 h4) λ_ _ _ hl=>lH h1 (λ_ _ _ h=>h) hl
 |exit i=>simp only[DE.inst]at h2;subst h2;exact⟨L',.exit i,Z',O',h1,rfl,h3,h4,h5⟩
 |ret=>simp only[DE.inst]at h2;subst h2;exact⟨L',.ret,Z',O',h1,rfl,h3,h4,h5⟩
 |aD x=>obtain⟨y,rfl,h2⟩:=h2;exact⟨L',.aD x,Z',O',h1,⟨y,rfl,h2⟩,h3,h4,h5⟩
theorem DC.block {id:Nat} {c:Code} (h:DC E N K c (DE.inBlock id Q) Z O):DC E N K (.block id c) Q Z O:=λL ZB ηB hs hh=>by
 refine bg.block (bg.mono (h L ZB ηB hs hh) ?_);rintro e ZB' OB' ⟨L',d,Z',O',h1,h2,h3,h4,h5⟩;cases d with
 |norm=>simp only[DE.inst]at h2;subst h2;exact⟨L',.norm,Z',O',h1,rfl,h3,h4,h5⟩
 |exit i=>
  simp only[DE.inst]at h2;subst h2;simp only[DE.inBlock]at h5;simp only[AE.inBlock];cases hb:Nat.beq i id with
  |true=>rw[hb]at h5;exact⟨L',.norm,Z',O',h1,rfl,h3,h4,h5⟩
  |false=>rw[hb]at h5;exact⟨L',.exit i,Z',O',h1,rfl,h3,h4,h5⟩
 |ret=>simp only[DE.inst]at h2;subst h2;exact⟨L',.ret,Z',O',h1,rfl,h3,h4,h5⟩
 |aD x=>obtain⟨y,rfl,h2⟩:=h2;exact⟨L',.aD x,Z',O',h1,⟨y,rfl,h2⟩,h3,h4,h5⟩
theorem DC.region {id:Nat} {l:List Oper} (h:DO E N K l l Q Z O):DC E N K (.region id l.toArray false) Q Z O:=λL ZB ηB hs hh=>bg.region (h L ZB ηB hs hh)
theorem DO.nil {all:List Oper} (h:Q .norm Z O):DO E N K all [] Q Z O:=λL ZB ηB hs hh=>aQ.nil (mQ (d:= .norm) rfl hs hh h)
theorem DO.mono {all rest:List Oper} {Q':DQ} (h:DO E N K all rest Q Z O) (hq:Q=Q'):DO E N K all rest Q' Z O:=hq▸h
def aL (Z:TS):Operand->Option CV
 | .tmp t=>Z.get t
 | .const v=>some (.d (.v v))
 | .global g=>some (.d (.v (.pointer (some ⟨g,0,none⟩))))
 | .func f=>some (.d (.v (.func (.func f) #[] #[])))
theorem bz {L:au} {s:Sl} (hs:SS L Z s) {o:Operand} {x:CV} (h:aL Z o=some x):∃y,ev s o=some y/\aw L x y:=by
 cases o with
 |tmp t=>exact hs t x h
 |const v=>simp only[aL,ao]at h;subst h;exact⟨_,rfl,rfl⟩
 |global g=>simp only[aL,ao]at h;subst h;exact⟨_,rfl,rfl⟩
 |func f=>simp only[aL,ao]at h;subst h;exact⟨_,rfl,rfl⟩
theorem DC.cond {c:Operand} {x y:Code} {t:Bool} (hc:aL Z c=some (.d (.v (.bool t)))) (h1:t=true->DC E N K x Q Z O) (h2:t=false->DC E N K y Q Z O):DC E N K (.cond c x y) Q Z O:=
 λL ZB ηB hs hh=>by
  obtain⟨z,h3,h4⟩:=bz hs hc;simp only[aw]at h4;subst h4;exact bg.cond h3 (λht=>h1 ht L ZB ηB hs hh) (λht=>h2 ht L ZB ηB hs hh)
theorem DC.N7 {c:Nat} {x y:Code} {t:Bool} (hc:Z.get c=some (.d (.v (.bool t)))) (h1:t=true->DC E N K x Q (Tr.put 24 Z c (some (.d (.v (.bool true))))) O)
  (h2:t=false->DC E N K y Q (Tr.put 24 Z c (some (.d (.v (.bool false))))) O):DC E N K (.cond (.tmp c) x y) Q Z O:=by
 refine DC.cond hc (λht=>?_) (λht=>?_)
 all_goals
  subst ht;intro L ZB ηB hs hh
  first|refine h1 rfl L ZB ηB ?_ hh|refine h2 rfl L ZB ηB ?_ hh
  intro u z hz;rcases Tr.dA 24 Z c u _ z hz with⟨rfl,h3⟩|⟨_,h3⟩
  ·cases h3;exact hs _ _ hc
  ·exact hs _ _ h3
mutual
def gx (m:Nat):CV->Bool
 | .d _=>true
 | .agg xs=>lj m xs
 | .bK xs=>lj m xs
 | .own t _=>Nat.blt t m
 | .os t _=>Nat.blt t m
 | .oe t _ _=>Nat.blt t m
 | .om t=>Nat.blt t m
 | .fn _ fs cs=>match lj m fs with
  |true=>lj m cs
  |false=>false
 | .ba _ x=>gx m x
def lj (m:Nat):List CV->Bool
 |[]=>true
 |x::r=>match gx m x with
  |true=>lj m r
  |false=>false
end
def zX (m:Nat):aR->Bool
 | .box cs=>lj m cs
 | .map es=>es.all λp=>gx m p.2
 |_=>true
def au.cut (L:au) (m:Nat):au:=⟨λt=>if t<m then L.b t else none,λt n=>if t<m then L.s t n else none⟩
mutual
theorem aw.cut {L:au} {m:Nat}:∀{x:CV} {y:AV},gx m x=true->aw L x y->aw (L.cut m) x y
 | .d x,_,_,h1=>by simp only[aw]at h1⊢;exact h1
 | .agg xs,_,h,h1=>by simp only[aw]at h1⊢;obtain⟨ys,e,h2⟩:=h1;exact⟨ys,e,aC.cut (by simpa[gx]using h) h2⟩
 | .bK xs,_,h,h1=>by simp only[aw]at h1⊢;obtain⟨ys,e,h2⟩:=h1;exact⟨ys,e,aC.cut (by simpa[gx]using h) h2⟩
 | .own t o,_,h,h1=>by simp only[aw]at h1⊢;obtain⟨b,t',e,h2⟩:=h1;exact⟨b,t',by simp only[gx,iy]at h;simp[au.cut,h,e],h2⟩
 | .os t n,_,h,h1=>by simp only[aw]at h1⊢;obtain⟨a,c,t',e,h2⟩:=h1;exact⟨a,c,t',by simp only[gx,iy]at h;simp[au.cut,h,e],h2⟩
 | .oe t n o,_,h,h1=>by simp only[aw]at h1⊢;obtain⟨a,c,t',e,h2⟩:=h1;exact⟨a,c,t',by simp only[gx,iy]at h;simp[au.cut,h,e],h2⟩
 | .om t,_,h,h1=>by simp only[aw]at h1⊢;obtain⟨b,t',e,h2⟩:=h1;exact⟨b,t',by simp only[gx,iy]at h;simp[au.cut,h,e],h2⟩
 | .fn f fs cs,_,h,h1=>by
  simp only[gx]at h;split at h
  ·rename_i h0;simp only[aw]at h1⊢;obtain⟨us,vs,e,h2,h3⟩:=h1;exact⟨us,vs,e,aC.cut h0 h2,aC.cut h h3⟩
  ·cases h
 | .ba t x,_,h,h1=>by simp only[aw]at h1⊢;obtain⟨u,e,h2⟩:=h1;exact⟨u,e,aw.cut (by simpa[gx]using h) h2⟩
theorem aC.cut {L:au} {m:Nat}:∀{x:List CV} {y:List AV},lj m x=true->aC L x y->aC (L.cut m) x y
 |[],_,_,h1=>by simp only[aC]at h1⊢;exact h1
 |_::_,_,h,h1=>by
  simp only[lj]at h;split at h
  ·rename_i h0;simp only[aC]at h1⊢;obtain⟨y,r,e,h2,h3⟩:=h1;exact⟨y,r,e,aw.cut h0 h2,aC.cut h h3⟩
  ·cases h
end
theorem gn.cut {L:au} {m:Nat}:∀{xs:List (Value×CV)} {ys:List (Value×AV)},(xs.all λp=>gx m p.2)=true->gn L xs ys->gn (L.cut m) xs ys
 |[],_,_,h1=>by simp only[gn]at h1⊢;exact h1
 |_::_,_,h,h1=>by
  simp only[gS,bn]at h;simp only[gn]at h1⊢;obtain⟨y,r,e,h2,h3,h4⟩:=h1;exact⟨y,r,e,h2,h3.cut h.1,gn.cut h.2 h4⟩
theorem iP.cut {L:au} {m i:Nat} (hi:i<m) {x:aR} {y:ag} (hb:zX m x=true) (hx:iP L i x y):iP (L.cut m) i x y:=by
 have h1:(L.cut m).b i=L.b i:=by simp[au.cut,hi]
 have h2:∀n,(L.cut m).s i n=L.s i n:=λn=>by simp[au.cut,hi]
 cases x with
 |box cs=>obtain⟨b,cs',h3,h4,h5⟩:=hx;exact⟨b,cs',h1.trans h3,h4,h5.cut hb⟩
 |row e k rows=>obtain⟨⟨a,c,h3,h4⟩,h5⟩:=hx;exact⟨⟨a,c,(h2 _).trans h3,h4⟩,λn hn=>(h2 n).trans (h5 n hn)⟩
 |map es=>obtain⟨b,es',h3,h4,h5⟩:=hx;exact⟨b,es',h1.trans h3,h4,h5.cut hb⟩
 |ir cs=>obtain⟨b,h3,h4⟩:=hx;exact⟨b,h1.trans h3,h4⟩
 |fw k rows=>obtain⟨a,c,h3,h4⟩:=hx;exact⟨a,c,(h2 _).trans h3,h4⟩
 |set l=>obtain⟨b,h3,h4⟩:=hx;exact⟨b,h1.trans h3,h4⟩
 |bL l=>obtain⟨b,h3,h4⟩:=hx;exact⟨b,h1.trans h3,h4⟩
 |gone=>trivial
def dF (m:Nat):List Nat->TS->Option (List (Nat×CV))
 |[],_=>some []
 |t::ts,Z=>match Z.get t,dF m ts Z with
  |some x,some r=>match gx m x with
   |true=>some ((t,x)::r)
   |false=>none
  |_,_=>none
def lu:List (Nat×CV)->TS
 |[]=> .lf
 |(t,x)::r=>Tr.put 24 (lu r) t (some x)
theorem vX {L:au} {m:Nat} {s:Sl} (hs:SS L Z s):∀{ts:List Nat} {l:List (Nat×CV)},dF m ts Z=some l->SS (L.cut m) (lu l) s
 |[],_,h=>by simp only[dF,ao]at h;subst h;intro t x hx;simp[lu,Tr.gH]at hx
 |t::ts,l,h=>by
  simp only[dF]at h;split at h
  ·rename_i x r h1 h2;split at h
   ·rename_i h0;simp only[ao]at h;subst h;intro u z hz;rcases Tr.dA 24 _ t u _ z hz with⟨rfl,h3⟩|⟨_,h3⟩
    ·cases h3;obtain⟨y,h4,h5⟩:=hs _ _ h1;exact⟨y,h4,h5.cut h0⟩
    ·exact vX hs h2 u z h3
   ·cases h
  ·cases h
def pU (m:Nat) (e:Tr aR):Nat->Option (List aR)
 |0=>some []
 |i+1=>match pU m e i,e.get i with
  |some l,some x=>match zX m x with
   |true=>some (l++[x])
   |false=>none
  |some l,none=>some (l++[.gone])
  |none,_=>none
def gK (m:Nat) (O:Hp):Option (List aR):=pU m O.e m
def kn:Nat->List aR->Tr aR
 |_,[]=> .lf
 |i,x::r=>Tr.put 24 (kn (i+1) r) i (some x)
def gP (l:List aR):Hp:=⟨kn 0 l,l.length⟩
theorem EG:∀{l:List aR} {i j:Nat} {x:aR},(kn i l).get j=some x->i<=j/\l[j-i]? =some x
 |[],i,j,x,h=>by simp[kn,Tr.gH]at h
 |y::r,i,j,x,h=>by
  simp only[kn]at h;rcases Tr.dA 24 _ i j _ x h with⟨rfl,h1⟩|⟨hne,h1⟩
  ·cases h1;simp
  ·obtain⟨h2,h3⟩:=EG h1;refine⟨by omega,?_⟩;rw[show j-i=(j-(i+1))+1 by omega];simpa using h3
theorem sa {m:Nat} {e:Tr aR}:∀{n:Nat} {l:List aR},pU m e n=some l->l.length=n/\∀i x,l[i]? =some x->x= .gone\/(e.get i=some x/\zX m x=true)
 |0,l,h=>by simp only[pU,ao]at h;subst h;simp
 |n+1,l,h=>by
  simp only[pU]at h;split at h
  ·rename_i l' x h1 h2;split at h
   ·rename_i h0;simp only[ao]at h;subst h;obtain⟨h3,h4⟩:=sa h1;refine⟨by simp[h3],λi y hy=>?_⟩;rw[Sd]at hy;split at hy
    ·exact h4 i y hy
    ·rename_i hi;rw[Se]at hy;split at hy
     ·cases hy;right;rw[<-h2];exact⟨by congr 1;omega,h0⟩
     ·cases hy
   ·cases h
  ·rename_i l' h1 h2;simp only[ao]at h;subst h;obtain⟨h3,h4⟩:=sa h1;refine⟨by simp[h3],λi y hy=>?_⟩;rw[Sd]at hy;split at hy
   ·exact h4 i y hy
   ·rw[Se]at hy;split at hy
    ·cases hy;exact .inl rfl
    ·cases hy
  ·cases h
theorem D6 {L:au} {m:Nat} {ηB:List ag} (hh:HS L O ηB) (hm:m<=O.n) {l:List aR} (h:gK m O=some l):HS (L.cut m) (gP l) (ηB.take m):=by
 obtain⟨h1,h2⟩:=sa h;refine⟨λi x hx=>?_,by simp[gP,h1,hh.len,hm],λt ht=>?_⟩
 ·obtain⟨_,h3⟩:=EG hx;simp only[JS]at h3;have hi:i<m:=by rw[<-h1];exact(cT.1 h3).1
  have hlt:i<ηB.length:=by rw[hh.len];omega
  have hn:nth (ηB.take m) i=nth ηB i:=by rw[bP,bP,gV,cV hi]
  rw[hn];rcases h2 i x h3 with rfl|⟨h4,h5⟩
  ·exact⟨ηB[i],by rw[bP];simp[hlt],trivial⟩
  ·obtain⟨y,h6,h7⟩:=hh.en i x h4;exact⟨y,h6,h7.cut hi h5⟩
 ·have:¬t<m:=by simp only[gP,h1]at ht;omega
  simp[au.cut,this]
theorem au.EH {L:au} {m:Nat} (hm:K<=m):au.ei K L (L.cut m):=λt ht=>by
 have:t<m:=by omega
 simp[au.cut,this]
theorem DC.loop {c:Code} (ts:List Nat) (m:Nat) (I:Nat->List (Nat×CV)->List aR->Prop) (n:Nat) (hK:K<=m) {l:List (Nat×CV)} {es:List aR} (hm:m<=O.n) (hp:dF m ts Z=some l) (he:gK m O=some es) (h0:I n l es)
  (round:∀n l es,I n l es->DC E N K c (DE.then (λZ1 O1=>∃n',n'<n/\∃l' es',m<=O1.n/\dF m ts Z1=some l'/\gK m O1=some es'/\I n' l' es') Q) (lu l) (gP es)):DC E N K (.loop c) Q Z O:=λL ZB ηB hs hh=>by
 refine bg.loop (λn ZB ηB=>∃L1 l es,au.ei K L L1/\SS L1 (lu l) (look ZB)/\HS L1 (gP es) (ηB.take m)/\I n l es) n ⟨L.cut m,l,es,au.EH hK,vX hs hp,D6 hh hm he,h0⟩ ?_;rintro n ZB1 OB1 ⟨L1,l1,es1,h1,h2,h3,h4⟩;refine bg.gM (dm.sub (List.take_sublist m OB1)) (bg.mono (round n l1 es1 h4 L1 ZB1 _ h2 h3) ?_);rintro e ZB2 OB2 ⟨L2,d,Z2,O2,g1,g2,g3,g4,g5⟩;cases d with
 |norm=>
  simp only[DE.inst]at g2;subst g2;obtain⟨n',hn,l',es',q1,q2,q3,q4⟩:=g5;exact⟨n',hn,L2.cut m,l',es',(h1.trans g1).trans (au.EH hK),vX g3 q2,D6 g4 q1 q3,q4⟩
 |exit i=>simp only[DE.inst]at g2;subst g2;exact⟨L2,.exit i,Z2,O2,h1.trans g1,rfl,g3,g4,g5⟩
 |ret=>simp only[DE.inst]at g2;subst g2;exact⟨L2,.ret,Z2,O2,h1.trans g1,rfl,g3,g4,g5⟩
 |aD x=>obtain⟨y,rfl,g2⟩:=g2;exact⟨L2,.aD x,Z2,O2,h1.trans g1,⟨y,rfl,g2⟩,g3,g4,g5⟩
def kO (E:Env) (N K:Nat) (c:Code) (Q:DQ):Nat->TS->Hp->Prop
 |0=>λ_ _=>False
 |n+1=>DC E N K c (DE.then (kO E N K c Q n) Q)
theorem DC.rounds {c:Code} (n:Nat) (h:kO E N K c Q n Z O):DC E N K (.loop c) Q Z O:=λL ZB ηB hs hh=>by
 refine bg.rounds n ?_;have key:∀n L1 Z O ZB ηB,au.ei K L L1->SS L1 Z (look ZB)->HS L1 O ηB->kO E N K c Q n Z O->sO E.toCx N c (lift K L Q) n ZB ηB:=by
  intro n
  induction n with
  |zero=>intro L1 Z O ZB ηB _ _ _ h;exact h.elim
  |succ n ih=>
   intro L1 Z O ZB ηB h1 h2 h3 h4;refine bg.mono (h4 L1 ZB ηB h2 h3) ?_;rintro e ZB2 OB2 ⟨L2,d,Z2,O2,g1,g2,g3,g4,g5⟩;cases d with
   |norm=>simp only[DE.inst]at g2;subst g2;exact ih L2 Z2 O2 _ _ (h1.trans g1) g3 g4 g5
   |exit i=>simp only[DE.inst]at g2;subst g2;exact⟨L2,.exit i,Z2,O2,h1.trans g1,rfl,g3,g4,g5⟩
   |ret=>simp only[DE.inst]at g2;subst g2;exact⟨L2,.ret,Z2,O2,h1.trans g1,rfl,g3,g4,g5⟩
   |aD x=>obtain⟨y,rfl,g2⟩:=g2;exact⟨L2,.aD x,Z2,O2,h1.trans g1,⟨y,rfl,g2⟩,g3,g4,g5⟩
 exact key n L Z O ZB ηB (.refl K L) hs hh h
end
theorem bp.mono {C:Cx} {N:Nat} {o:Oper} {s s':Sl} {O:List ag} {x:AV} (h:bp C N o s O x) (hs:∀t∈tmpsOf o,∀y,s t=some y->s' t=some y):bp C N o s' O x:=
 λF w a h1 h2 h3 h4=>h F w a h1 h2 h3 λt ht y hy=>h4 t ht y (hs t ht y hy)
theorem bp.NC {C:Cx} {N:Nat} {o:Oper} {s s':Sl} {O:List ag} {x:AV} (h:bp C N o s' O x)
  (hs:∀F w a,bh C.G w F O->g8 w (Al F O) N a o s->g8 w (Al F O) N a o s'):bp C N o s O x:=
 λF w a h1 h2 h3 h4=>h F w a h1 h2 h3 (hs F w a h3 h4)
def cZ (Z:TS):Sl:=λt=>match Z.get t with
 |some (.d x)=>some x
 |_=>none
theorem gI {L:au} {Z:TS} {s:Sl} (hs:SS L Z s) {t:Nat} {x:AV} (h:cZ Z t=some x):s t=some x:=by
 unfold cZ at h;split at h
 ·rename_i y hy;simp only[ao]at h;subst h;obtain⟨z,h1,h2⟩:=hs t _ hy;simp only[aw]at h2;subst h2;exact h1
 ·cases h
def aN (E:Env) (N:Nat) (o:Oper) (Z:TS) (O:Hp) (x:CV):Prop:=∀L s ηB,SS L Z s->HS L O ηB->∃y,aw L x y/\bp E.toCx N o s ηB y
section
variable {E:Env} {N K:Nat} {Q:DQ} {Z:TS} {O:Hp} {o:Oper} {x:CV} {all rest:List Oper}
theorem DO.ko (hg:o.guard=none) (hd:bE N o.dst=true) (h:aN E N o Z O x) (k:DO E N K all rest Q (br Z o.dst x) O):DO E N K all (o::rest) Q Z O:=λL ZB ηB hs hh=>by
 obtain⟨y,h1,h2⟩:=h L _ ηB hs hh;exact aQ.ko hg hd h2 (k L _ ηB (hs.put o.dst h1) hh)
theorem aN.bU {y:AV} (h:bU E.T (cZ Z) o.op=some y):aN E N o Z O (.d y):=λL s ηB hs _=>⟨y,rfl,(bp.bU h).mono λ_ _ _ hy=>gI hs hy⟩
theorem aN.dn {y:AV} (h:dn E.P E.T (cZ Z) o.op=some y):aN E N o Z O (.d y):=λL s ηB hs _=>⟨y,rfl,(bp.dn h).mono λ_ _ _ hy=>gI hs hy⟩
theorem aN.dS {y:AV} (h:dS E.P (cZ Z) o.op=some y):aN E N o Z O (.d y):=λL s ηB hs _=>⟨y,rfl,(bp.dS h).mono λ_ _ _ hy=>gI hs hy⟩
theorem aN.iq {y:AV} (h:iq E.G E.T (cZ Z) o.op=some y):aN E N o Z O (.d y):=λL s ηB hs _=>⟨y,rfl,(bp.iq h).mono λ_ _ _ hy=>gI hs hy⟩
def cO:CV->List CV
 | .agg xs=>xs
 | .d y=>(bD y).map .d
 |x=>[x]
theorem rZ {L:au} {x:CV} {y:AV} (h:aw L x y):aC L (cO x) (bD y):=by
 cases x with
 |d z=>simp only[aw]at h;subst h;exact fi _
 |agg xs=>simp only[aw]at h;obtain⟨ys,rfl,h⟩:=h;exact h
 |bK xs=>have h0:=h;simp only[aw]at h0;obtain⟨ys,rfl,_⟩:=h0;simp only[cO,bD,aC];exact⟨_,_,rfl,h,rfl⟩
 |own t n=>have h0:=h;simp only[aw]at h0;obtain⟨b,t',_,rfl⟩:=h0;simp only[cO,bD,aC];exact⟨_,_,rfl,h,rfl⟩
 |os t n=>have h0:=h;simp only[aw]at h0;obtain⟨a,c,t',_,rfl⟩:=h0;simp only[cO,bD,aC];exact⟨_,_,rfl,h,rfl⟩
 |oe t n m=>have h0:=h;simp only[aw]at h0;obtain⟨a,c,t',_,rfl⟩:=h0;simp only[cO,bD,aC];exact⟨_,_,rfl,h,rfl⟩
 |om t=>have h0:=h;simp only[aw]at h0;obtain⟨b,t',_,rfl⟩:=h0;simp only[cO,bD,aC];exact⟨_,_,rfl,h,rfl⟩
 |fn f fs cs=>have h0:=h;simp only[aw]at h0;obtain⟨us,vs,rfl,_⟩:=h0;simp only[cO,bD,aC];exact⟨_,_,rfl,h,rfl⟩
 |ba t z=>have h0:=h;simp only[aw]at h0;obtain⟨u,rfl,_⟩:=h0;simp only[cO,bD,aC];exact⟨_,_,rfl,h,rfl⟩
def me:List CV->List CV->Option (List CV)
 |xs,[]=>some xs
 |[],_::_=>none
 |_::xs,y::ys=>match me xs ys with
  |some r=>some (y::r)
  |none=>none
def iD:List CV->Nat->List CV->Option (List CV)
 |xs,0,ys=>me xs ys
 |[],_+1,_=>none
 |x::xs,n+1,ys=>match iD xs n ys with
  |some r=>some (x::r)
  |none=>none
theorem CJ {L:au}:∀{ys xs r:List CV} {us vs:List AV},me xs ys=some r->aC L xs us->aC L ys vs->∃r',ic us vs=some r'/\aC L r r'
 |[],xs,r,us,vs,h,hx,hy=>by
  simp only[aC]at hy;subst hy;cases xs<;>simp only[me,ao]at h<;>subst h
  ·simp only[aC]at hx;subst hx;exact⟨[],rfl,rfl⟩
  ·exact⟨us,by cases us<;>rfl,hx⟩
 |y::ys,[],r,us,vs,h,hx,hy=>by simp[me]at h
 |y::ys,x::xs,r,us,vs,h,hx,hy=>by
  simp only[me]at h;split at h
  ·rename_i r' h1;simp only[ao]at h;subst h;simp only[aC]at hx hy;obtain⟨u,ur,rfl,_,hx⟩:=hx;obtain⟨v,vr,rfl,hv,hy⟩:=hy;obtain⟨q,h2,h3⟩:=CJ h1 hx hy;exact⟨v::q,by simp[ic,h2],by simp only[aC];exact⟨_,_,rfl,hv,h3⟩⟩
  ·cases h
theorem rW {L:au}:∀{n:Nat} {xs ys r:List CV} {us vs:List AV},iD xs n ys=some r->aC L xs us->aC L ys vs->∃r',dM us n vs=some r'/\aC L r r'
 |0,xs,ys,r,us,vs,h,hx,hy=>by
  have h':me xs ys=some r:=by cases xs<;>exact h
  obtain⟨q,h1,h2⟩:=CJ h' hx hy;exact⟨q,by cases us<;>exact h1,h2⟩
 |n+1,[],ys,r,us,vs,h,hx,hy=>by simp[iD]at h
 |n+1,x::xs,ys,r,us,vs,h,hx,hy=>by
  simp only[iD]at h;split at h
  ·rename_i r' h1;simp only[ao]at h;subst h;simp only[aC]at hx;obtain⟨u,ur,rfl,hu,hx⟩:=hx;obtain⟨q,h2,h3⟩:=rW h1 hx hy;exact⟨u::q,by simp[dM,h2],by simp only[aC];exact⟨_,_,rfl,hu,h3⟩⟩
  ·cases h
def qc (fs:List (Nat×Nat×Nat×Bool)) (Z:TS):List CV->List (Nat×Operand)->Option (List CV)
 |cells,[]=>some cells
 |cells,(i,o)::rest=>match nth fs i,aL Z o with
  |some (off,_,k,_),some x=>match Nat.beq (cO x).length k,iD cells off (cO x)with
   |true,some cells'=>qc fs Z cells' rest
   |_,_=>none
  |_,_=>none
theorem CK {L:au} {s:Sl} (hs:SS L Z s) {fs:List (Nat×Nat×Nat×Bool)}:∀{l:List (Nat×Operand)} {cells r:List CV} {us:List AV},qc fs Z cells l=some r->aC L cells us->∃r',jz fs s us l=some r'/\aC L r r'
 |[],cells,r,us,h,hr=>by simp only[qc,ao]at h;subst h;exact⟨us,rfl,hr⟩
 |(i,p)::l,cells,r,us,h,hr=>by
  simp only[qc]at h;split at h
  ·rename_i off t k g x h1 h2;split at h
   ·rename_i cells' h3 h4;obtain⟨y,h5,h6⟩:=bz hs h2;have h7:=rZ h6;obtain⟨q,h8,h9⟩:=rW h4 hr h7;obtain⟨r',h10,h11⟩:=CK hs h h9;refine⟨r',?_,h11⟩;simp only[jz,h1,h5,h7.length,h3,h8,h10]
   ·cases h
  ·cases h
def mq (Z:TS):List Operand->Option (List CV)
 |[]=>some []
 |o::r=>match aL Z o,mq Z r with
  |some x,some xs=>some (x::xs)
  |_,_=>none
theorem mZ {L:au} {s:Sl} (hs:SS L Z s):∀{os:List Operand} {xs:List CV},mq Z os=some xs->∃ys,fF s os=some ys/\aC L xs ys
 |[],_,h=>by simp only[mq,ao]at h;subst h;exact⟨[],rfl,rfl⟩
 |o::os,xs,h=>by
  simp only[mq]at h;split at h
  ·rename_i x ys h1 h2;simp only[ao]at h;subst h;obtain⟨y,h3,h4⟩:=bz hs h1;obtain⟨zs,h5,h6⟩:=mZ hs h2;exact⟨y::zs,by simp[fF,h3,h5],by simp only[aC];exact⟨_,_,rfl,h4,h6⟩⟩
  ·cases h
def la:List CV->Bool
 |[]=>false
 | .d _::r=>la r
 |_::_=>true
theorem vw {L:au}:∀{xs:List CV} {ys:List AV},la xs=true->aC L xs ys->ke ys=none
 |[],_,h,_=>by simp[la]at h
 |x::r,ys,h,hr=>by
  simp only[aC]at hr;obtain⟨y,r',rfl,h1,h2⟩:=hr;cases x with
  |d z=>
   simp only[la]at h;have:=vw h h2;cases y<;>simp[ke,this]
  |agg xs=>simp only[aw]at h1;obtain⟨ys,rfl,_⟩:=h1;rfl
  |bK xs=>simp only[aw]at h1;obtain⟨ys,rfl,_⟩:=h1;rfl
  |own t n=>simp only[aw]at h1;obtain⟨b,t',_,rfl⟩:=h1;rfl
  |os t n=>simp only[aw]at h1;obtain⟨a,c,t',_,rfl⟩:=h1;rfl
  |oe t n m=>simp only[aw]at h1;obtain⟨a,c,t',_,rfl⟩:=h1;rfl
  |om t=>simp only[aw]at h1;obtain⟨b,t',_,rfl⟩:=h1;rfl
  |fn f fs cs=>simp only[aw]at h1;obtain⟨us,vs,rfl,_⟩:=h1;rfl
  |ba t z=>simp only[aw]at h1;obtain⟨u,rfl,_⟩:=h1;rfl
def kq (T:bt) (Z:TS):Op->Option CV
 | .move x=>aL Z x
 | .assign x=>aL Z x
 | .pick c a b=>match aL Z c with
  |some (.d (.v (.bool true)))=>aL Z a
  |some (.d (.v (.bool false)))=>aL Z b
  |_=>none
 | .extract x i=>match aL Z x with
  |some (.bK xs)=>nth xs i
  |_=>none
 | .field t x f=>match aL Z x,aM T t with
  |some (.agg xs),some ⟨.struct fs,_,_,_⟩=>match nth fs f with
   |some (o,_,k,g)=>match g with
    |true=>some (od ((xs.drop o).take k))
    |false=>nth xs o
   |none=>none
  |_,_=>none
 | .fieldAddr t x f=>match aM T t with
  |some ⟨.struct fs,_,_,_⟩=>match nth fs f with
   |some (off,_,_,_)=>match aL Z x with
    |some (.own t o)=>some (.own t (o+off))
    |some (.oe t n o)=>some (.oe t n (o+off))
    |_=>none
   |none=>none
  |_=>none
 | .nilCheck x=>match aL Z x with
  |some (.own t o)=>some (.own t o)
  |some (.oe t n o)=>some (.oe t n o)
  |some (.fn f fs cs)=>some (.fn f fs cs)
  |_=>none
 | .makeInterface t x=>match aL Z x,aM T t with
  |some _,some ⟨.iface,_,_,_⟩=>none
  |some y,some _=>some (.ba t y)
  |_,_=>none
 | .typeAssert x _ t ok=>match aL Z x,aM T t with
  |some (.ba _ _),some ⟨.iface,_,_,_⟩=>none
  |some (.ba u y),some _=>match Nat.beq u t,ok with
   |true,true=>some (.bK [y,.d (.v (.bool true))])
   |true,false=>some y
   |false,_=>none
  |_,_=>none
 | .makeFunc (.func f) first caps=>match mq Z first.toList,mq Z caps.toList with
  |some fs,some cs=>match la fs,la cs with
   |false,false=>none
   |_,_=>some (.fn f fs cs)
  |_,_=>none
 | .build t parts=>match aM T t with
  |some ⟨.struct fs,_,_,z⟩=>match qc fs Z ((z.map .v).map .d) parts.toList with
   |some cells=>some (od cells)
   |none=>none
  |_=>none
 |_=>none
theorem Ez {L:au} {s:Sl} (hs:SS L Z s) {T:bt} {op:Op} (h:kq T Z op=some x):∃y,bU T s op=some y/\aw L x y:=by
 unfold kq at h;split at h
 ·exact bz hs h
 ·exact bz hs h
 ·rename_i c a b;split at h
  ·rename_i hc;obtain⟨y,h1,h2⟩:=bz hs hc;simp only[aw]at h2;subst h2;obtain⟨z,h3,h4⟩:=bz hs h;exact⟨z,by simp only[bU,h1,h3],h4⟩
  ·rename_i hc;obtain⟨y,h1,h2⟩:=bz hs hc;simp only[aw]at h2;subst h2;obtain⟨z,h3,h4⟩:=bz hs h;exact⟨z,by simp only[bU,h1,h3],h4⟩
  ·cases h
 ·rename_i y i;split at h
  ·rename_i xs hy;obtain⟨z,h1,h2⟩:=bz hs hy;simp only[aw]at h2;obtain⟨ys,rfl,h2⟩:=h2;obtain⟨u,h3,h4⟩:=h2.nth h;exact⟨u,by simp only[bU,h1,h3],h4⟩
  ·cases h
 ·rename_i t y f;split at h
  ·rename_i xs fs _ _ _ hy ht;split at h
   ·rename_i off ft k g hf;obtain⟨z,h1,h2⟩:=bz hs hy;simp only[aw]at h2;obtain⟨ys,rfl,h2⟩:=h2;split at h
    ·simp only[ao]at h;subst h;exact⟨_,by simp only[bU,h1,ht,hf,og],se ((h2.drop off).take k)⟩
    ·obtain⟨u,h3,h4⟩:=h2.nth h;exact⟨u,by simp only[bU,h1,ht,hf,og,h3],h4⟩
   ·cases h
  ·cases h
 ·rename_i t y f;split at h
  ·rename_i fs _ _ _ ht;split at h
   ·rename_i off ft k g hf;split at h
    ·rename_i tg o hy;simp only[ao]at h;subst h;obtain⟨z,h1,h2⟩:=bz hs hy;simp only[aw]at h2;obtain⟨b,t',h2,rfl⟩:=h2;exact⟨.own t' b (o+off),by simp only[bU,ht,hf,h1],by simp only[aw];exact⟨b,t',h2,rfl⟩⟩
    ·rename_i tg n o hy;simp only[ao]at h;subst h;obtain⟨z,h1,h2⟩:=bz hs hy;simp only[aw]at h2;obtain⟨a,c,t',h2,rfl⟩:=h2;exact⟨.oe t' (.slice a n c) (o+off),by simp only[bU,ht,hf,h1],by simp only[aw];exact⟨a,c,t',h2,rfl⟩⟩
    ·cases h
   ·cases h
  ·cases h
 ·rename_i y;split at h
  ·rename_i tg o hy;simp only[ao]at h;subst h;obtain⟨z,h1,h2⟩:=bz hs hy;have h3:=h2;simp only[aw]at h3;obtain⟨b,t',_,rfl⟩:=h3;exact⟨_,by simp only[bU,h1],h2⟩
  ·rename_i tg n o hy;simp only[ao]at h;subst h;obtain⟨z,h1,h2⟩:=bz hs hy;have h3:=h2;simp only[aw]at h3;obtain⟨a,c,t',_,rfl⟩:=h3;exact⟨_,by simp only[bU,h1],h2⟩
  ·rename_i f fs cs hy;simp only[ao]at h;subst h;obtain⟨z,h1,h2⟩:=bz hs hy;have h3:=h2;simp only[aw]at h3;obtain⟨us,vs,rfl,_⟩:=h3;exact⟨_,by simp only[bU,h1],h2⟩
  ·cases h
 ·rename_i t y;split at h
  ·cases h
  ·rename_i u i hne hy ht;simp only[ao]at h;subst h;obtain⟨z,h1,h2⟩:=bz hs hy;refine⟨.ba t z,?_,by simp only[aw];exact⟨z,rfl,h2⟩⟩;simp only[bU,h1,ht]
  ·cases h
 ·rename_i y xt t ok;split at h
  ·cases h
  ·rename_i u y' i hne hy ht;obtain⟨z,h1,h2⟩:=bz hs hy;simp only[aw]at h2;obtain⟨z',rfl,h2⟩:=h2;have key:bU T s (.typeAssert y xt t ok)=(match(generalizing:=false) Nat.beq u t,ok with
     |true,true=>some (AV.bK [z',.v (.bool true)])
     |true,false=>some z'
     |false,_=>none):=by
    simp only[bU,h1,ht];rfl
   rw[key];cases hb:Nat.beq u t with
   |false=>rw[hb]at h;cases h
   |true=>
    rw[hb]at h;cases ok with
    |true=>
     simp only[ao]at h;subst h;refine⟨_,rfl,?_⟩;simp only[aw,aC];exact⟨_,rfl,_,_,rfl,h2,_,_,rfl,rfl,rfl⟩
    |false=>
     simp only[ao]at h;subst h;exact⟨_,rfl,h2⟩
  ·cases h
 ·rename_i f first caps
  split at h
  ·rename_i fs cs h1 h2;obtain⟨us,h3,h4⟩:=mZ hs h1;obtain⟨vs,h5,h6⟩:=mZ hs h2;split at h
   ·cases h
   ·rename_i hne;simp only[ao]at h;subst h;refine⟨.fn f us vs,?_,by simp only[aw];exact⟨us,vs,rfl,h4,h6⟩⟩;simp only[bU,h3,h5];cases hr:la fs with
    |true=>rw[vw hr h4]
    |false=>cases hr':la cs with
     |true=>rw[vw hr' h6];cases ke us<;>rfl
     |false=>exact(hne hr hr').elim
  ·cases h
 ·rename_i t parts;split at h
  ·rename_i fs _ _ z ht;split at h
   ·rename_i cells hf;simp only[ao]at h;subst h;obtain⟨r',h1,h2⟩:=CK hs hf (fi _);exact⟨.agg r',by simp only[bU,ht,h1],se h2⟩
   ·cases h
  ·cases h
 ·cases h
theorem aN.kq (h:kq E.T Z o.op=some x):aN E N o Z O x:=λL s ηB hs _=>by
 obtain⟨y,h1,h2⟩:=Ez hs h;exact⟨y,h2,bp.bU h1⟩
def tI (T:bt) (t:TypeId) (cs:List CV) (o:Nat):Option CV:=
 match aM T t with
 |some ⟨d,k,_,_⟩=>match d.agg with
  |true=>match Nat.ble k (cs.drop o).length with
   |true=>some (od ((cs.drop o).take k))
   |false=>none
  |false=>nth cs o
 |none=>none
theorem vv:∀{l:List AV} {n:Nat},n<=l.length->fits l n=true
 |_,0,_=>by simp[fits]
 |[],n+1,h=>by simp at h
 |_::r,n+1,h=>by simp only[fits];exact vv (by simpa using h)
theorem KL {L:au} {T:bt} {t:TypeId} {cs:List CV} {us:List AV} {off:Nat} (h:tI T t cs off=some x) (hc:aC L cs us):∃y,fD T t us off=some y/\aw L x y:=by
 unfold tI at h;split at h
 ·rename_i d k b z ht;split at h
  ·rename_i hd;split at h
   ·rename_i hle;simp only[ao]at h;subst h;have hle:=cM hle;refine⟨.agg ((us.drop off).take k),?_,se ((hc.drop off).take k)⟩;simp only[fD,ht,hd];rw[vv (by rw[(hc.drop off).length];exact hle)]
   ·cases h
  ·rename_i hd;obtain⟨y,h1,h2⟩:=hc.nth h;exact⟨y,by simp only[fD,ht,hd,h1],h2⟩
 ·cases h
theorem CL {p:Operand} (h:aL Z p=some x) (hx:∀y,x≠ .d y):∃t,p= .tmp t/\Z.get t=some x:=by
 cases p with
 |tmp t=>exact⟨t,rfl,h⟩
 |const v=>simp only[aL,ao]at h;exact(hx _ h.symm).elim
 |global g=>simp only[aL,ao]at h;exact(hx _ h.symm).elim
 |func f=>simp only[aL,ao]at h;exact(hx _ h.symm).elim
theorem aN.load {t:TypeId} {p:Operand} {i off:Nat} {cs:List CV} (ho:o.op= .load t p) (hp:aL Z p=some (.own i off)) (hi:O.e.get i=some (.box cs)) (hl:tI E.T t cs off=some x):aN E N o Z O x:=λL s ηB hs hh=>by
 obtain⟨y,h1,h2⟩:=bz hs hp;simp only[aw]at h2;obtain⟨b,t',h3,rfl⟩:=h2;obtain⟨z,h4,h5⟩:=hh.en i _ hi;obtain⟨b',cs',h6,rfl,h7⟩:=h5;rw[h3]at h6;cases h6;obtain⟨q,h8,h9⟩:=KL hl h7;exact⟨q,h9,bp.kv (D5 ho (by rw[ea (by simp[ho,Op.operands])];exact h1) h4 h8)⟩
def ee (s:Sl) (t:Nat) (x:AV):Sl:=λu=>if u=t then some x else s u
theorem bp.known {C:Cx} {s:Sl} {ηB:List ag} {t:Nat} {x:AV} {y z:AV} (h:bp C N o (ee s t z) ηB x) (ht:s t=some y) (hk:∀F w v,bh C.G w F ηB->Rel w (Al F ηB) y v->Rel w (Al F ηB) z v):bp C N o s ηB x:=
 h.NC λF w a hh hs u hu q hq=>by
  unfold ee at hq;split at hq
  ·rename_i hut;subst hut;simp only[ao]at hq;subst hq;obtain⟨h1,h2⟩:=hs u hu y ht;exact⟨h1,hk F w _ hh h2⟩
  ·exact hs u hu q hq
theorem lO {G:Gl} {w:World} {F:Nat->Prop} {ηB:List ag} (hh:bh G w F ηB) {i:Nat} {x:AV} {v:Value} (h:nth ηB i=some (.fact x v)):Rel w (Al F ηB) x v:=fg hh h
theorem Rel.xh {w:World} {A:Nat->Prop} {cs:List AV} {b:Nat} (off:Nat) (h:Rel w A (.ip cs) (.pointer (some ⟨b,0,none⟩))):Rel w A (.ip (cs.drop off)) (.pointer (some ⟨b,off,none⟩)):=by
 simp only[Rel]at h⊢;obtain⟨b',o',vs,e1,e2,e3,e4⟩:=h;cases e1;exact⟨b,off,vs.drop off,rfl,e2,e3.drop off,λj u hj=>by rw[o8]at hj;have:=e4 _ _ hj;simpa using this⟩
theorem aN.N9 {t:TypeId} {p:Operand} {i off:Nat} {cs:List AV} {y:AV} (ho:o.op= .load t p) (hp:aL Z p=some (.own i off)) (hi:O.e.get i=some (.ir cs)) (hl:fD E.T t (cs.drop off) 0=some y):aN E N o Z O (.d y):=λL s ηB hs hh=>by
 obtain⟨u,rfl,hu⟩:=CL hp (λ_ h=>by cases h);obtain⟨z,h1,h2⟩:=hs u _ hu;simp only[aw]at h2;obtain⟨b,t',h3,rfl⟩:=h2;obtain⟨z,h4,h5⟩:=hh.en i _ hi;obtain⟨b',h6,rfl⟩:=h5;rw[h3]at h6;cases h6;refine⟨y,rfl,bp.known (t:=u) (z:= .ip (cs.drop off)) (bp.bU ?_) h1 λF w v hH hr=>?_⟩
 ·rw[ho];unfold fD at hl;simp only[Bw.bU,ev,ee,if_true];split at hl
  ·rename_i d k b z ht;simp only[ht];simp only[List.drop_zero]at hl;rw[<-hl];cases d.agg<;>rfl
  ·cases hl
 ·simp only[Rel]at hr;subst hr;exact(lO hH h4).xh off
theorem aN.len {t:TypeId} {p:Operand} {i n e k sz by':Nat} {z:List Value} (ho:o.op= .call {callee:= .builtin .len,args:= #[p],argTypes:= #[t]}) (hp:aL Z p=some (.os i n)) (ht:aM E.T t=some ⟨.slice e k,sz,by',z⟩):aN E N o Z O (.d (.v (.int .i64 (n:Int)))):=λL s ηB hs _=>by
 obtain⟨y,h1,h2⟩:=bz hs hp;simp only[aw]at h2;obtain⟨a,c,t',h3,rfl⟩:=h2;exact⟨_,rfl,bp.len ho h1 (by simp[mj,ht])⟩
theorem aN.OD {t:TypeId} {p:Operand} {y:AV} {n:Int} (ho:o.op= .call {callee:= .builtin .len,args:= #[p],argTypes:= #[t]}) (hp:aL Z p=some (.d y)) (hl:mj E.T t y=some n):aN E N o Z O (.d (.v (.int .i64 n))):=λL s ηB hs _=>by
 obtain⟨z,h1,h2⟩:=bz hs hp;simp only[aw]at h2;subst h2;exact⟨_,rfl,bp.len ho h1 hl⟩
theorem aN.FD {t:TypeId} {p ix:Operand} {i n e k sz by':Nat} {z:List Value} {rows:List (List AV)} {kd:IntKind} {m:Int} (j:Nat) (ho:o.op= .indexAddr t p ix) (hp:aL Z p=some (.os i n)) (hi:O.e.get i=some (.row e k rows)) (hn:n=rows.length)
  (ht:aM E.T t=some ⟨.slice e k,sz,by',z⟩) (hix:aL Z ix=some (.d (.v (.int kd m)))) (hm:m=(j:Int)) (hj:j<rows.length):aN E N o Z O (.oe i n (j*k)):=λL s ηB hs hh=>by
 obtain⟨y,h1,h2⟩:=bz hs hp;simp only[aw]at h2;obtain⟨a,c,t',h3,rfl⟩:=h2;obtain⟨y',h4,h5⟩:=bz hs hix;simp only[aw]at h5;subst h5;obtain⟨q,h6,h7⟩:=hh.en i _ hi;obtain⟨⟨a',c',h8,rfl⟩,_⟩:=h7;subst hn;rw[h3]at h8;cases h8;refine⟨.oe i (.slice a rows.length c) (j*k),by simp only[aw];exact⟨a,c,i,h3,rfl⟩,?_⟩;exact bp.kv (KM ho j ht (by rw[ea (by simp[ho,Op.operands])];exact h1) h6 (by rw[ea (by simp[ho,Op.operands])];exact h4) hm hj)
theorem aN.EA {t:TypeId} {p:Operand} {i n m e k:Nat} {rows:List (List AV)} {r:List AV} {y:AV} (j off:Nat) (ho:o.op= .load t p) (hp:aL Z p=some (.oe i n m)) (hi:O.e.get i=some (.row e k rows)) (hn:n=rows.length) (hm:m=j*k+off) (hr:rows[j]? =some r)
  (hl:fD E.T t r off=some y):aN E N o Z O (.d y):=λL s ηB hs hh=>by
 obtain⟨z,h1,h2⟩:=bz hs hp;simp only[aw]at h2;obtain⟨a,c,t',h3,rfl⟩:=h2;obtain⟨q,h6,h7⟩:=hh.en i _ hi;obtain⟨⟨a',c',h8,rfl⟩,_⟩:=h7;subst hn;rw[h3]at h8;cases h8;exact⟨y,rfl,bp.kv (Kr ho j off (by rw[ea (by simp[ho,Op.operands])];exact h1) hm h6 hr hl)⟩
theorem aN.OC {t:TypeId} {p ix:Operand} {i n e k sz by':Nat} {z:List Value} {rows:List (List AV)} {r:List AV} {kd:IntKind} {m:Int} (j:Nat) (ho:o.op= .indexAddr t p ix) (hp:aL Z p=some (.os i n)) (hi:O.e.get i=some (.fw k rows)) (hn:n=rows.length)
  (ht:aM E.T t=some ⟨.slice e k,sz,by',z⟩) (hix:aL Z ix=some (.d (.v (.int kd m)))) (hm:m=(j:Int)) (hr:rows[j]? =some r):aN E N o Z O (.d (.ip r)):=λL s ηB hs hh=>by
 obtain⟨u,rfl,hu⟩:=CL hp (λ_ h=>by cases h);obtain⟨y,h1,h2⟩:=hs u _ hu;simp only[aw]at h2;obtain⟨a,c,t',h3,rfl⟩:=h2;obtain⟨q,h6,h7⟩:=hh.en i _ hi;obtain⟨a',c',h8,rfl⟩:=h7;subst hn;rw[h3]at h8;cases h8;obtain⟨y',h4,h5⟩:=bz hs hix;simp only[aw]at h5;subst h5;subst hm;refine⟨.ip r,rfl,bp.known (t:=u) (z:= .sl k rows) ?_ h1 λF w v hH hrl=>?_⟩
 ·refine bp.dn (E:=E) ?_;have hev:ev (ee s u (.sl k rows)) ix=some (.v (.int kd (j:Int))):=by
   cases ix with
   |tmp q=>
    simp only[ev,ee]at h4⊢;split
    ·rename_i hq;subst hq;rw[h1]at h4;cases h4
    ·exact h4
   |const v=>exact h4
   |global g=>exact h4
   |func f=>exact h4
  have hnat:jB (some (.v (.int kd (j:Int))))=some j:=rfl;rw[ho];simp only[Bw.dn,hev,hnat,ht,rR,bP];simp[ev,ee,hr]
 ·simp only[Rel]at hrl;subst hrl;exact lO hH h6
