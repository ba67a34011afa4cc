/- An abstract machine over the program logic: its values name own blocks by tags, so that its steps can be computed. First part: values, slots, heap, what they say, the judgement. -/
import Derived.Test.YtfgnmgbiijpkiaaGreatKB10
set_option linter.all false
noncomputable section
namespace Go.Bw
open Go
inductive CV where
 |d (x:AV)
 |agg (xs:List CV)
 |bN (xs:List CV)
 |own (t off:Nat)
 |os (t n:Nat)
 |oe (t n off:Nat)
 |om (t:Nat)
 |fn (f:FuncId) (fs cs:List CV)
 |bB (ty:TypeId) (x:CV)
structure aH where
 b:Nat->Option Nat
 s:Nat->Nat->Option (Option Addr×Nat)
def aH.le (L L':aH):Prop:=(∀t x,L.b t=some x->L'.b t=some x)/\∀t n x,L.s t n=some x->L'.s t n=some x
theorem aH.le.refl (L:aH):L.le L:=⟨λ_ _ h=>h,λ_ _ _ h=>h⟩
theorem aH.le.trans {L L' L'':aH} (h:L.le L') (g:L'.le L''):L.le L'':=⟨λt x hx=>g.1 t x (h.1 t x hx),λt n x hx=>g.2 t n x (h.2 t n x hx)⟩
mutual
def aI (L:aH):CV->AV->Prop
 | .d x,y=>y=x
 | .agg xs,y=>∃ys,y= .agg ys/\aS L xs ys
 | .bN xs,y=>∃ys,y= .bN ys/\aS L xs ys
 | .own t o,y=>∃b t',L.b t=some b/\y= .own t' b o
 | .os t n,y=>∃a c t',L.s t n=some (a,c)/\y= .os t' a n c
 | .oe t n o,y=>∃a c t',L.s t n=some (a,c)/\y= .oe t' (.slice a n c) o
 | .om t,y=>∃b t',L.b t=some b/\y= .om t' b
 | .fn f fs cs,y=>∃us vs,y= .fn f us vs/\aS L fs us/\aS L cs vs
 | .bB t x,y=>∃u,y= .bB t u/\aI L x u
def aS (L:aH):List CV->List AV->Prop
 |[],ys=>ys=[]
 |x::xs,ys=>∃y r,ys=y::r/\aI L x y/\aS L xs r
end
section
variable {L L':aH}
mutual
theorem aI.mono (h:L.le L'):∀{x:CV} {y:AV},aI L x y->aI L' x y
 | .d x,_,h1=>by simp only[aI]at h1⊢;exact h1
 | .agg xs,_,h1=>by simp only[aI]at h1⊢;obtain⟨ys,e,h2⟩:=h1;exact⟨ys,e,aS.mono h h2⟩
 | .bN xs,_,h1=>by simp only[aI]at h1⊢;obtain⟨ys,e,h2⟩:=h1;exact⟨ys,e,aS.mono h h2⟩
 | .own t o,_,h1=>by simp only[aI]at h1⊢;obtain⟨b,t',e,h2⟩:=h1;exact⟨b,t',h.1 _ _ e,h2⟩
 | .os t n,_,h1=>by simp only[aI]at h1⊢;obtain⟨a,c,t',e,h2⟩:=h1;exact⟨a,c,t',h.2 _ _ _ e,h2⟩
 | .oe t n o,_,h1=>by simp only[aI]at h1⊢;obtain⟨a,c,t',e,h2⟩:=h1;exact⟨a,c,t',h.2 _ _ _ e,h2⟩
 | .om t,_,h1=>by simp only[aI]at h1⊢;obtain⟨b,t',e,h2⟩:=h1;exact⟨b,t',h.1 _ _ e,h2⟩
 | .fn f fs cs,_,h1=>by simp only[aI]at h1⊢;obtain⟨us,vs,e,h2,h3⟩:=h1;exact⟨us,vs,e,aS.mono h h2,aS.mono h h3⟩
 | .bB t x,_,h1=>by simp only[aI]at h1⊢;obtain⟨u,e,h2⟩:=h1;exact⟨u,e,aI.mono h h2⟩
theorem aS.mono (h:L.le L'):∀{x:List CV} {y:List AV},aS L x y->aS L' x y
 |[],_,h1=>by simp only[aS]at h1⊢;exact h1
 |_::_,_,h1=>by simp only[aS]at h1⊢;obtain⟨y,r,e,h2,h3⟩:=h1;exact⟨y,r,e,aI.mono h h2,aS.mono h h3⟩
end
theorem aS.length:∀{xs:List CV} {ys:List AV},aS L xs ys->ys.length=xs.length
 |[],_,h=>by simp only[aS]at h;simp[h]
 |_::_,_,h=>by simp only[aS]at h;obtain⟨y,r,rfl,_,h⟩:=h;simp[aS.length h]
theorem aS.nth:∀{xs:List CV} {ys:List AV} {n:Nat} {x:CV},aS L xs ys->Bw.nth xs n=some x->∃y,Bw.nth ys n=some y/\aI L x y
 |[],_,_,_,_,h=>by simp[Bw.nth]at h
 |y::_,ys,0,x,hr,h=>by
  simp only[aS]at hr;obtain⟨v,r,rfl,h1,_⟩:=hr;simp only[Bw.nth,aE]at h;subst h;exact⟨v,by simp[Bw.nth],h1⟩
 |_::xs,ys,n+1,x,hr,h=>by
  simp only[aS]at hr;obtain⟨v,r,rfl,_,h2⟩:=hr;simp only[Bw.nth]at h;obtain⟨u,h3,h4⟩:=aS.nth h2 h;exact⟨u,by simpa[Bw.nth]using h3,h4⟩
theorem aS.drop:∀(n:Nat) {xs:List CV} {ys:List AV},aS L xs ys->aS L (xs.drop n) (ys.drop n)
 |0,_,_,h=>by simpa using h
 |n+1,[],_,h=>by simp only[aS]at h;subst h;simp[aS]
 |n+1,_::_,_,h=>by simp only[aS]at h;obtain⟨v,r,rfl,_,h⟩:=h;simpa using aS.drop n h
theorem aS.take:∀(n:Nat) {xs:List CV} {ys:List AV},aS L xs ys->aS L (xs.take n) (ys.take n)
 |0,_,_,_=>by simp[aS]
 |n+1,[],_,h=>by simp only[aS]at h;subst h;simp[aS]
 |n+1,_::_,_,h=>by simp only[aS]at h;obtain⟨v,r,rfl,h1,h⟩:=h;simp only[xN,aS];exact⟨v,_,rfl,h1,aS.take n h⟩
theorem aS.append:∀{xs xs':List CV} {ys ys':List AV},aS L xs ys->aS L xs' ys'->aS L (xs++xs') (ys++ys')
 |[],_,_,_,h,g=>by simp only[aS]at h;subst h;simpa using g
 |_::_,_,_,_,h,g=>by simp only[aS]at h;obtain⟨v,r,rfl,h1,h⟩:=h;simp only[lE,aS];exact⟨v,_,rfl,h1,aS.append h g⟩
theorem gA:∀(xs:List AV),aS L (xs.map .d) xs
 |[]=>by simp[aS]
 |x::r=>by simp only[dP,aS,aI];exact⟨_,_,rfl,rfl,gA r⟩
def fq:List CV->Option (List AV)
 |[]=>some []
 | .d x::r=>match fq r with
  |some xs=>some (x::xs)
  |none=>none
 |_::_=>none
theorem mF:∀{xs:List CV} {ys zs:List AV},fq xs=some zs->aS L xs ys->ys=zs
 |[],ys,zs,h,hr=>by simp only[fq,aE]at h;simp only[aS]at hr;rw[hr,<-h]
 |x::r,ys,zs,h,hr=>by
  cases x<;>simp only[fq]at h<;>try (cases h;done)
  split at h
  ·rename_i zs' h1;simp only[aE]at h;simp only[aS]at hr;obtain⟨v,r',rfl,h2,h3⟩:=hr;simp only[aI]at h2;rw[h2,mF h1 h3,h]
  ·cases h
def uh (xs:List CV):CV:=match fq xs with
 |some ys=> .d (.agg ys)
 |none=> .agg xs
theorem yH {xs:List CV} {ys:List AV} (h:aS L xs ys):aI L (uh xs) (.agg ys):=by
 unfold uh;split
 ·rename_i zs hz;simp only[aI];rw[mF hz h]
 ·simp only[aI];exact⟨ys,rfl,h⟩
def Fi (xs:List CV):CV:=match fq xs with
 |some ys=> .d (.bN ys)
 |none=> .bN xs
theorem Kv {xs:List CV} {ys:List AV} (h:aS L xs ys):aI L (Fi xs) (.bN ys):=by
 unfold Fi;split
 ·rename_i zs hz;simp only[aI];rw[mF hz h]
 ·simp only[aI];exact⟨ys,rfl,h⟩
end
def Tr.put {D:Type}:Nat->Tr D->Nat->Option D->Tr D
 |0,_,_,_=> .lf
 |f+1,.lf,n,y=> @Bool.rec (λ_=>Tr D) (@Bool.rec (λ_=>Tr D) (.nd none .lf (Tr.put f .lf (Nat.pred (ij n)) y)) (.nd none (Tr.put f .lf (ij n) y) .lf) (Nat.beq (jM n) 1)) (.nd y .lf .lf) (Nat.beq n 0)
 |f+1,.nd x l r,n,y=> @Bool.rec (λ_=>Tr D) (@Bool.rec (λ_=>Tr D) (.nd x l (Tr.put f r (Nat.pred (ij n)) y)) (.nd x (Tr.put f l (ij n) y) r) (Nat.beq (jM n) 1)) (.nd y l r) (Nat.beq n 0)
theorem Tr.aah {D:Type} (t:Tr D) (n:Nat) (y:Option D):Tr.put 0 t n y= .lf:=rfl
theorem Tr.AL {D:Type} (f n:Nat) (y:Option D):Tr.put (f+1) .lf n y=match Nat.beq n 0 with
  |true=> .nd y .lf .lf
  |false=>match Nat.beq (jM n) 1 with
   |true=> .nd none (Tr.put f .lf (ij n) y) .lf
   |false=> .nd none .lf (Tr.put f .lf (Nat.pred (ij n)) y):=by
 rw[Tr.put]
 all_goals cases Nat.beq n 0
 all_goals first|rfl|(cases Nat.beq (jM n) 1<;>rfl)
theorem Tr.AM {D:Type} (f:Nat) (x:Option D) (l r:Tr D) (n:Nat) (y:Option D):Tr.put (f+1) (.nd x l r) n y=match Nat.beq n 0 with
  |true=> .nd y l r
  |false=>match Nat.beq (jM n) 1 with
   |true=> .nd x (Tr.put f l (ij n) y) r
   |false=> .nd x l (Tr.put f r (Nat.pred (ij n)) y):=by
 rw[Tr.put]
 all_goals cases Nat.beq n 0
 all_goals first|rfl|(cases Nat.beq (jM n) 1<;>rfl)
def Tr.cD {D R:Type}:Nat->Tr D->Nat->Option D->(Tr D->R)->R
 |0,_,_,_,k=>k .lf
 |f+1,.lf,n,y,k=> @Bool.rec (λ_=>R) (@Bool.rec (λ_=>R) (Tr.cD f .lf (Nat.pred (ij n)) y λr=>k (.nd none .lf r)) (Tr.cD f .lf (ij n) y λl=>k (.nd none l .lf)) (Nat.beq (jM n) 1)) (k (.nd y .lf .lf)) (Nat.beq n 0)
 |f+1,.nd x l r,n,y,k=> @Bool.rec (λ_=>R) (@Bool.rec (λ_=>R) (Tr.cD f r (Nat.pred (ij n)) y λr=>k (.nd x l r)) (Tr.cD f l (ij n) y λl=>k (.nd x l r)) (Nat.beq (jM n) 1)) (k (.nd y l r)) (Nat.beq n 0)
theorem Tr.dE {D R:Type}:∀(f:Nat) (t:Tr D) (n:Nat) (y:Option D) (k:Tr D->R),Tr.cD f t n y k=k (Tr.put f t n y)
 |0,_,_,_,_=>rfl
 |f+1,.lf,n,y,k=>by
  rw[Tr.AL,Tr.cD];cases Nat.beq n 0 with
  |true=>rfl
  |false=>cases Nat.beq (jM n) 1<;>exact Tr.dE f _ _ _ _
 |f+1,.nd x l r,n,y,k=>by
  rw[Tr.AM,Tr.cD];cases Nat.beq n 0 with
  |true=>rfl
  |false=>cases Nat.beq (jM n) 1<;>exact Tr.dE f _ _ _ _
theorem gx {n m:Nat} (h:Nat.beq n m=false):n≠m:=λe=>by subst e;rw[u4]at h;cases h
theorem Tr.put_comm {D:Type}:∀(f:Nat) (t:Tr D) (n m:Nat) (y z:Option D),n≠m->Tr.put f (Tr.put f t n y) m z=Tr.put f (Tr.put f t m z) n y
 |0,_,_,_,_,_,_=>rfl
 |f+1,t,n,m,y,z,hne=>by
  have ih:=λ(t:Tr D) (n m:Nat) (y z:Option D) (h:n≠m)=>Tr.put_comm f t n m y z h;have hL:∀n m:Nat,n≠m->Nat.beq n 0=false->Nat.beq m 0=false->Nat.beq (Nat.mod n 2) 1=true->Nat.beq (Nat.mod m 2) 1=true->Nat.div n 2≠Nat.div m 2:=by
   intro n m h h1 h2 h3 h4;have h3:=bE h3;have h4:=bE h4;change n%2=1 at h3;change m%2=1 at h4;change ¬n/2=m/2;omega
  have hR:∀n m:Nat,n≠m->Nat.beq n 0=false->Nat.beq m 0=false->Nat.beq (Nat.mod n 2) 1=false->Nat.beq (Nat.mod m 2) 1=false->Nat.pred (Nat.div n 2)≠Nat.pred (Nat.div m 2):=by
   intro n m h h1 h2 h3 h4;have h1:=gx h1;have h2:=gx h2;have h3:=gx h3;have h4:=gx h4;change ¬n%2=1 at h3;change ¬m%2=1 at h4;change ¬n/2-1=m/2-1;omega
  cases h1:Nat.beq n 0<;>cases h2:Nat.beq m 0<;>cases h3:Nat.beq (Nat.mod n 2) 1<;>cases h4:Nat.beq (Nat.mod m 2) 1<;>cases t<;>simp only[Tr.AL,Tr.AM,lW,lX,h1,h2,h3,h4]<;>
   first
   |(rw[ih _ _ _ _ _ (hL n m hne h1 h2 h3 h4)];done)
   |(rw[ih _ _ _ _ _ (hR n m hne h1 h2 h3 h4)];done)
   |(exact absurd ((bE h1).trans (bE h2).symm) hne)
   |skip
theorem Tr.ep {D:Type}:∀(f:Nat) (t:Tr D) (n m:Nat) (y:Option D) (z:D),(Tr.put f t n y).get m=some z->(m=n/\y=some z)\/(m≠n/\t.get m=some z)
 |0,_,_,_,_,_,h=>by simp[Tr.aah,Tr.jD]at h
 |f+1,.lf,n,m,y,z,h=>by
  simp only[Tr.AL,Tr.AM,lW,lX]at h;cases h0:Nat.beq n 0 with
  |true=>
   have:=bE h0;subst this;rw[h0]at h;simp only[Tr.pI,lW,lX]at h;cases hm:Nat.beq m 0 with
   |true=>rw[hm]at h;exact .inl ⟨bE hm,h⟩
   |false=>rw[hm]at h;simp only at h;cases hb:Nat.beq (Nat.mod m 2) 1<;>rw[hb]at h<;>cases h
  |false=>
   have hn:=gx h0;rw[h0]at h;simp only at h;cases h1:Nat.beq (Nat.mod n 2) 1 with
   |true=>
    rw[h1]at h;have h1:=bE h1;simp only[Tr.pI,lW,lX]at h;cases hm:Nat.beq m 0 with
    |true=>rw[hm]at h;cases h
    |false=>
     have hm:=gx hm;simp only[‹Nat.beq m 0=false›]at h;cases hb:Nat.beq (Nat.mod m 2) 1 with
     |true=>
      rw[hb]at h;have hb:=bE hb;rcases Tr.ep f .lf _ _ y z h with⟨h2,h3⟩|⟨_,h3⟩
      ·refine .inl ⟨?_,h3⟩;change n%2=1 at h1;change m%2=1 at hb;change m/2=n/2 at h2;omega
      ·simp[Tr.jD]at h3
     |false=>rw[hb]at h;cases h
   |false=>
    rw[h1]at h;have h1:=gx h1;simp only[Tr.pI,lW,lX]at h;cases hm:Nat.beq m 0 with
    |true=>rw[hm]at h;cases h
    |false=>
     have hm:=gx hm;simp only[‹Nat.beq m 0=false›]at h;cases hb:Nat.beq (Nat.mod m 2) 1 with
     |true=>rw[hb]at h;cases h
     |false=>
      rw[hb]at h;have hb:=gx hb;rcases Tr.ep f .lf _ _ y z h with⟨h2,h3⟩|⟨_,h3⟩
      ·refine .inl ⟨?_,h3⟩;change ¬n%2=1 at h1;change ¬m%2=1 at hb;change m/2-1=n/2-1 at h2;omega
      ·simp[Tr.jD]at h3
 |f+1,.nd x l r,n,m,y,z,h=>by
  simp only[Tr.AL,Tr.AM,lW,lX]at h;cases h0:Nat.beq n 0 with
  |true=>
   have:=bE h0;subst this;rw[h0]at h;simp only[Tr.pI,lW,lX]at h⊢;cases hm:Nat.beq m 0 with
   |true=>rw[hm]at h;exact .inl ⟨bE hm,h⟩
   |false=>rw[hm]at h;exact .inr ⟨gx hm,h⟩
  |false=>
   have hn:=gx h0;rw[h0]at h;simp only at h;cases h1:Nat.beq (Nat.mod n 2) 1 with
   |true=>
    rw[h1]at h;have h1:=bE h1;simp only[Tr.pI,lW,lX]at h⊢;cases hm:Nat.beq m 0 with
    |true=>rw[hm]at h;exact .inr ⟨λe=>hn (by rw[<-e];exact bE hm),h⟩
    |false=>
     rw[hm]at h;simp only at h⊢;have hm:=gx hm;cases hb:Nat.beq (Nat.mod m 2) 1 with
     |true=>
      rw[hb]at h;have hb:=bE hb;change n%2=1 at h1;change m%2=1 at hb;rcases Tr.ep f l _ _ y z h with⟨h2,h3⟩|⟨h2,h3⟩
      ·refine .inl ⟨?_,h3⟩;change m/2=n/2 at h2;omega
      ·refine .inr ⟨?_,h3⟩;change ¬m/2=n/2 at h2;omega
     |false=>
      rw[hb]at h;have hb:=gx hb;change n%2=1 at h1;change ¬m%2=1 at hb;exact .inr ⟨by omega,h⟩
   |false=>
    rw[h1]at h;have h1:=gx h1;simp only[Tr.pI,lW,lX]at h⊢;cases hm:Nat.beq m 0 with
    |true=>rw[hm]at h;exact .inr ⟨λe=>hn (by rw[<-e];exact bE hm),h⟩
    |false=>
     rw[hm]at h;simp only at h⊢;have hm:=gx hm;cases hb:Nat.beq (Nat.mod m 2) 1 with
     |true=>
      rw[hb]at h;have hb:=bE hb;change ¬n%2=1 at h1;change m%2=1 at hb;exact .inr ⟨by omega,h⟩
     |false=>
      rw[hb]at h;have hb:=gx hb;change ¬n%2=1 at h1;change ¬m%2=1 at hb;rcases Tr.ep f r _ _ y z h with⟨h2,h3⟩|⟨h2,h3⟩
      ·refine .inl ⟨?_,h3⟩;change m/2-1=n/2-1 at h2;omega
      ·refine .inr ⟨?_,h3⟩;change ¬m/2-1=n/2-1 at h2;omega
abbrev TS:=Tr CV
inductive bm where
 |box (cs:List CV)
 |row (e k:Nat) (rows:List (List AV))
 |map (es:List (Value×CV))
 |lv (cs:List AV)
 |iq (k:Nat) (rows:List (List AV))
 |set (l:List (List UInt8))
 |jL (l:List Int)
 |gone
structure Hp where
 e:Tr bm
 n:Nat
def jG (L:aH):List (Value×CV)->List (Value×AV)->Prop
 |[],ys=>ys=[]
 |x::xs,ys=>∃y r,ys=y::r/\y.1=x.1/\aI L x.2 y.2/\jG L xs r
theorem jG.mono {L L':aH} (h:L.le L'):∀{xs:List (Value×CV)} {ys:List (Value×AV)},jG L xs ys->jG L' xs ys
 |[],_,h1=>by simp only[jG]at h1⊢;exact h1
 |_::_,_,h1=>by simp only[jG]at h1⊢;obtain⟨y,r,e,h2,h3,h4⟩:=h1;exact⟨y,r,e,h2,h3.mono h,jG.mono h h4⟩
def acv (l:List (List UInt8)):List (Value×AV):=l.map λs=>(.string ⟨⟨s⟩⟩,.v (.bool true))
def q9 (l:List Int):List (Value×AV):=l.map λn=>(.int .i64 n,.v (.bool true))
def k9 (L:aH) (i:Nat):bm->aq->Prop
 | .box cs,y=>∃b cs',L.b i=some b/\y= .box b cs'/\aS L cs cs'
 | .row e k rows,y=>(∃a c,L.s i rows.length=some (a,c)/\y= .row (.slice a rows.length c) e k rows)/\∀m,rows.length<m->L.s i m=none
 | .map es,y=>∃b es',L.b i=some b/\y= .map b es'/\jG L es es'
 | .lv cs,y=>∃b,L.b i=some b/\y= .fact (.ip cs) (.pointer (some ⟨b,0,none⟩))
 | .iq k rows,y=>∃a c,L.s i rows.length=some (a,c)/\y= .fact (.sl k rows) (.slice a rows.length c)
 | .set l,y=>∃b,L.b i=some b/\y= .map b (acv l)
 | .jL l,y=>∃b,L.b i=some b/\y= .map b (q9 l)
 | .gone,_=>True
theorem k9.mono {L L':aH} (h:L.le L') {i:Nat} (hi:L'.s i=L.s i) {x:bm} {y:aq} (hx:k9 L i x y):k9 L' i x y:=by
 cases x with
 |box cs=>obtain⟨b,cs',h1,h2,h3⟩:=hx;exact⟨b,cs',h.1 _ _ h1,h2,h3.mono h⟩
 |row e k rows=>obtain⟨⟨a,c,h1,h2⟩,h3⟩:=hx;exact⟨⟨a,c,by rw[hi];exact h1,h2⟩,λm hm=>by rw[hi];exact h3 m hm⟩
 |map es=>obtain⟨b,es',h1,h2,h3⟩:=hx;exact⟨b,es',h.1 _ _ h1,h2,h3.mono h⟩
 |lv cs=>obtain⟨b,h1,h2⟩:=hx;exact⟨b,h.1 _ _ h1,h2⟩
 |iq k rows=>obtain⟨a,c,h1,h2⟩:=hx;exact⟨a,c,h.2 _ _ _ h1,h2⟩
 |set l=>obtain⟨b,h1,h2⟩:=hx;exact⟨b,h.1 _ _ h1,h2⟩
 |jL l=>obtain⟨b,h1,h2⟩:=hx;exact⟨b,h.1 _ _ h1,h2⟩
 |gone=>trivial
def SS (L:aH) (Z:TS) (s:Sl):Prop:=∀t x,Z.get t=some x->∃y,s t=some y/\aI L x y
theorem SS.mono {L L':aH} (h:L.le L') {Z:TS} {s:Sl} (hs:SS L Z s):SS L' Z s:=λt x hx=>by
 obtain⟨y,h1,h2⟩:=hs t x hx;exact⟨y,h1,h2.mono h⟩
structure HS (L:aH) (O:Hp) (OB:List aq):Prop where
 en:∀i x,O.e.get i=some x->∃y,nth OB i=some y/\k9 L i x y
 len:OB.length=O.n
 fJ:∀t,O.n<=t->L.b t=none/\∀n,L.s t n=none
def bW (Z:TS) (dst:Option Nat) (x:CV):TS:=match dst with
 |some d=>Tr.put 24 Z d (some x)
 |none=>Z
theorem SS.put {L:aH} {Z:TS} {ZB:Sg} (h:SS L Z (look ZB)) (dst:Option Nat) {x:CV} {y:AV} (hx:aI L x y):SS L (bW Z dst x) (look (lk dst y ZB)):=by
 cases dst with
 |none=>exact h
 |some d=>
  intro t z hz;rcases Tr.ep 24 Z d t (some x) z hz with⟨rfl,h1⟩|⟨hne,h1⟩
  ·cases h1;exact⟨y,by simp[lk,look],hx⟩
  ·obtain⟨u,h2,h3⟩:=h t z h1;refine⟨u,?_,h3⟩;have:Nat.beq d t=false:=by cases hb:Nat.beq d t with
    |false=>rfl
    |true=>exact absurd (bE hb).symm hne
   simp only[lk,look,this];exact h2
inductive DE where
 |norm
 |exit (id:Nat)
 |ret
 |aO (x:CV)
def DE.inst (L:aH):DE->AE->Prop
 | .norm,e=>e= .norm
 | .exit i,e=>e= .exit i
 | .ret,e=>e= .ret
 | .aO x,e=>∃y,e= .aO y/\aI L x y
abbrev DQ:=DE->TS->Hp->Prop
def DE.sl (e:DE) (Z:TS):TS:=match e with
 | .aO _=> .lf
 |_=>Z
def aH.fK (K:Nat) (L L':aH):Prop:=∀t,t<K->(∀x,L.b t=some x->L'.b t=some x)/\∀n x,L.s t n=some x->L'.s t n=some x
theorem aH.fK.refl (K:Nat) (L:aH):aH.fK K L L:=λ_ _=>⟨λ_ h=>h,λ_ _ h=>h⟩
theorem aH.fK.trans {K:Nat} {L L' L'':aH} (h:aH.fK K L L') (g:aH.fK K L' L''):aH.fK K L L'':=λt ht=>⟨λx hx=>(g t ht).1 x ((h t ht).1 x hx),λn x hx=>(g t ht).2 n x ((h t ht).2 n x hx)⟩
theorem aH.le.toK {L L':aH} (h:L.le L') (K:Nat):aH.fK K L L':=λt _=>⟨h.1 t,h.2 t⟩
theorem aH.fK.less {K K':Nat} {L L':aH} (h:aH.fK K L L') (hk:K'<=K):aH.fK K' L L':=λt ht=>h t (nM ht hk)
def lift (K:Nat) (L:aH) (Q:DQ):AQ:=λe ZB OB=>∃L' d Z O,aH.fK K L L'/\DE.inst L' d e/\SS L' Z (look ZB)/\HS L' O OB/\Q d Z O
theorem qm {K:Nat} {L L':aH} (h:aH.fK K L L') {Q Q':DQ} (hq:∀e Z O,Q e Z O->Q' e Z O) {e:AE} {ZB:Sg} {OB:List aq} (hl:lift K L' Q e ZB OB):lift K L Q' e ZB OB:=by
 obtain⟨L1,d,Z,O,h1,h2,h3,h4,h5⟩:=hl;exact⟨L1,d,Z,O,h.trans h1,h2,h3,h4,hq _ _ _ h5⟩
def DC (E:Env) (N K:Nat) (c:Code) (Q:DQ) (Z:TS) (O:Hp):Prop:=∀L ZB OB,SS L Z (look ZB)->HS L O OB->bK E.toCx N c (lift K L Q) ZB OB
def DO (E:Env) (N K:Nat) (all rest:List Oper) (Q:DQ) (Z:TS) (O:Hp):Prop:=∀L ZB OB,SS L Z (look ZB)->HS L O OB->bo E.toCx N all.toArray rest (lift K L Q) ZB OB
abbrev DE.then (next:TS->Hp->Prop) (Q:DQ):DQ:=λe Z O=>match e with
 | .norm=>next Z O
 | .exit i=>Q (.exit i) Z O
 | .ret=>Q .ret Z O
 | .aO x=>Q (.aO x) Z O
abbrev DE.inBlock (id:Nat) (Q:DQ):DQ:=λe Z O=>match e with
 | .norm=>Q .norm Z O
 | .exit i=>match Nat.beq i id with
  |true=>Q .norm Z O
  |false=>Q (.exit i) Z O
 | .ret=>Q .ret Z O
 | .aO x=>Q (.aO x) Z O
section
variable {E:Env} {N K:Nat} {Q:DQ} {Z:TS} {O:Hp}
theorem so {L:aH} {d:DE} {e:AE} {ZB:Sg} {OB:List aq} (h:DE.inst L d e) (hs:SS L Z (look ZB)) (hh:HS L O OB) (hq:Q d Z O):lift K L Q e ZB OB:=⟨L,d,Z,O,.refl K L,h,hs,hh,hq⟩
theorem DC.skip (h:Q .norm Z O):DC E N K .skip Q Z O:=λL ZB OB hs hh=>bK.skip (so (d:= .norm) rfl hs hh h)
theorem DC.exit {id:Nat} (h:Q (.exit id) Z O):DC E N K (.exit id) Q Z O:=λL ZB OB hs hh=>bK.exit (so (d:= .exit id) rfl hs hh h)
theorem DC.ret (h:Q .ret Z O):DC E N K .ret Q Z O:=λL ZB OB hs hh=>bK.ret (so (d:= .ret) rfl hs hh h)
theorem DC.label {l:Nat} (h:Q .norm Z O):DC E N K (.label l) Q Z O:=λL ZB OB hs hh=>bK.label (so (d:= .norm) rfl hs hh h)
theorem DC.mono {c:Code} {Q':DQ} (h:DC E N K c Q Z O) (hq:∀e Z O,Q e Z O->Q' e Z O):DC E N K c Q' Z O:=λL ZB OB hs hh=>
 bK.mono (h L ZB OB hs hh) λ_ _ _ hl=>qm (.refl K L) hq hl
theorem DC.seq {x y:Code} (h:DC E N K x (DE.then (DC E N K y Q) Q) Z O):DC E N K (.seq x y) Q Z O:=λL ZB OB hs hh=>by
 refine bK.seq (bK.mono (h L ZB OB hs hh) ?_);rintro e ZB' OB' ⟨L',d,σ',O',h1,h2,h3,h4,h5⟩;cases d with
 |norm=>simp only[DE.inst]at h2;subst h2;exact bK.mono (h5 L' ZB' OB' h3 h4) λ_ _ _ hl=>qm h1 (λ_ _ _ h=>h) hl
 |exit i=>simp only[DE.inst]at h2;subst h2;exact⟨L',.exit i,σ',O',h1,rfl,h3,h4,h5⟩
 |ret=>simp only[DE.inst]at h2;subst h2;exact⟨L',.ret,σ',O',h1,rfl,h3,h4,h5⟩
 |aO x=>obtain⟨y,rfl,h2⟩:=h2;exact⟨L',.aO x,σ',O',h1,⟨y,rfl,h2⟩,h3,h4,h5⟩
theorem DC.block {id:Nat} {c:Code} (h:DC E N K c (DE.inBlock id Q) Z O):DC E N K (.block id c) Q Z O:=λL ZB OB hs hh=>by
 refine bK.block (bK.mono (h L ZB OB hs hh) ?_);rintro e ZB' OB' ⟨L',d,σ',O',h1,h2,h3,h4,h5⟩;cases d with
 |norm=>simp only[DE.inst]at h2;subst h2;exact⟨L',.norm,σ',O',h1,rfl,h3,h4,h5⟩
 |exit i=>
  simp only[DE.inst]at h2;subst h2;simp only[DE.inBlock]at h5;simp only[AE.inBlock];cases hb:Nat.beq i id with
  |true=>rw[hb]at h5;exact⟨L',.norm,σ',O',h1,rfl,h3,h4,h5⟩
  |false=>rw[hb]at h5;exact⟨L',.exit i,σ',O',h1,rfl,h3,h4,h5⟩
 |ret=>simp only[DE.inst]at h2;subst h2;exact⟨L',.ret,σ',O',h1,rfl,h3,h4,h5⟩
 |aO x=>obtain⟨y,rfl,h2⟩:=h2;exact⟨L',.aO x,σ',O',h1,⟨y,rfl,h2⟩,h3,h4,h5⟩
theorem DC.region {id:Nat} {l:List Oper} (h:DO E N K l l Q Z O):DC E N K (.region id l.toArray false) Q Z O:=λL ZB OB hs hh=>bK.region (h L ZB OB hs hh)
theorem DO.nil {all:List Oper} (h:Q .norm Z O):DO E N K all [] Q Z O:=λL ZB OB hs hh=>bo.nil (so (d:= .norm) rfl hs hh h)
theorem DO.mono {all rest:List Oper} {Q':DQ} (h:DO E N K all rest Q Z O) (hq:Q=Q'):DO E N K all rest Q' Z O:=hq▸h
def a6 (Z:TS):Operand->Option CV
 | .tmp t=>Z.get t
 | .const v=>some (.d (.v v))
 | .global g=>some (.d (.v (.pointer (some ⟨g,0,none⟩))))
 | .func f=>some (.d (.v (.func (.func f) #[] #[])))
theorem cg {L:aH} {s:Sl} (hs:SS L Z s) {o:Operand} {x:CV} (h:a6 Z o=some x):∃y,ev s o=some y/\aI L x y:=by
 cases o with
 |tmp t=>exact hs t x h
 |const v=>simp only[a6,aE]at h;subst h;exact⟨_,rfl,rfl⟩
 |global g=>simp only[a6,aE]at h;subst h;exact⟨_,rfl,rfl⟩
 |func f=>simp only[a6,aE]at h;subst h;exact⟨_,rfl,rfl⟩
theorem DC.cond {c:Operand} {x y:Code} {t:Bool} (hc:a6 Z c=some (.d (.v (.bool t)))) (h1:t=true->DC E N K x Q Z O) (h2:t=false->DC E N K y Q Z O):DC E N K (.cond c x y) Q Z O:=
 λL ZB OB hs hh=>by
  obtain⟨z,h3,h4⟩:=cg hs hc;simp only[aI]at h4;subst h4;exact bK.cond h3 (λht=>h1 ht L ZB OB hs hh) (λht=>h2 ht L ZB OB hs hh)
theorem DC.aaa {c:Nat} {x y:Code} {t:Bool} (hc:Z.get c=some (.d (.v (.bool t)))) (h1:t=true->DC E N K x Q (Tr.put 24 Z c (some (.d (.v (.bool true))))) O)
  (h2:t=false->DC E N K y Q (Tr.put 24 Z c (some (.d (.v (.bool false))))) O):DC E N K (.cond (.tmp c) x y) Q Z O:=by
 refine DC.cond hc (λht=>?_) (λht=>?_)
 all_goals
  subst ht;intro L ZB OB hs hh
  first|refine h1 rfl L ZB OB ?_ hh|refine h2 rfl L ZB OB ?_ hh
  intro u z hz;rcases Tr.ep 24 Z c u _ z hz with⟨rfl,h3⟩|⟨_,h3⟩
  ·cases h3;exact hs _ _ hc
  ·exact hs _ _ h3
mutual
def jR (m:Nat):CV->Bool
 | .d _=>true
 | .agg xs=>pX m xs
 | .bN xs=>pX m xs
 | .own t _=>Nat.blt t m
 | .os t _=>Nat.blt t m
 | .oe t _ _=>Nat.blt t m
 | .om t=>Nat.blt t m
 | .fn _ fs cs=>match pX m fs with
  |true=>pX m cs
  |false=>false
 | .bB _ x=>jR m x
def pX (m:Nat):List CV->Bool
 |[]=>true
 |x::r=>match jR m x with
  |true=>pX m r
  |false=>false
end
def I' (m:Nat):bm->Bool
 | .box cs=>pX m cs
 | .map es=>es.all λp=>jR m p.2
 |_=>true
def aH.cut (L:aH) (m:Nat):aH:=⟨λt=>if t<m then L.b t else none,λt n=>if t<m then L.s t n else none⟩
mutual
theorem aI.cut {L:aH} {m:Nat}:∀{x:CV} {y:AV},jR m x=true->aI L x y->aI (L.cut m) x y
 | .d x,_,_,h1=>by simp only[aI]at h1⊢;exact h1
 | .agg xs,_,h,h1=>by simp only[aI]at h1⊢;obtain⟨ys,e,h2⟩:=h1;exact⟨ys,e,aS.cut (by simpa[jR]using h) h2⟩
 | .bN xs,_,h,h1=>by simp only[aI]at h1⊢;obtain⟨ys,e,h2⟩:=h1;exact⟨ys,e,aS.cut (by simpa[jR]using h) h2⟩
 | .own t o,_,h,h1=>by simp only[aI]at h1⊢;obtain⟨b,t',e,h2⟩:=h1;exact⟨b,t',by simp only[jR,lF]at h;simp[aH.cut,h,e],h2⟩
 | .os t n,_,h,h1=>by simp only[aI]at h1⊢;obtain⟨a,c,t',e,h2⟩:=h1;exact⟨a,c,t',by simp only[jR,lF]at h;simp[aH.cut,h,e],h2⟩
 | .oe t n o,_,h,h1=>by simp only[aI]at h1⊢;obtain⟨a,c,t',e,h2⟩:=h1;exact⟨a,c,t',by simp only[jR,lF]at h;simp[aH.cut,h,e],h2⟩
 | .om t,_,h,h1=>by simp only[aI]at h1⊢;obtain⟨b,t',e,h2⟩:=h1;exact⟨b,t',by simp only[jR,lF]at h;simp[aH.cut,h,e],h2⟩
 | .fn f fs cs,_,h,h1=>by
  simp only[jR]at h;split at h
  ·rename_i h0;simp only[aI]at h1⊢;obtain⟨us,vs,e,h2,h3⟩:=h1;exact⟨us,vs,e,aS.cut h0 h2,aS.cut h h3⟩
  ·cases h
 | .bB t x,_,h,h1=>by simp only[aI]at h1⊢;obtain⟨u,e,h2⟩:=h1;exact⟨u,e,aI.cut (by simpa[jR]using h) h2⟩
theorem aS.cut {L:aH} {m:Nat}:∀{x:List CV} {y:List AV},pX m x=true->aS L x y->aS (L.cut m) x y
 |[],_,_,h1=>by simp only[aS]at h1⊢;exact h1
 |_::_,_,h,h1=>by
  simp only[pX]at h;split at h
  ·rename_i h0;simp only[aS]at h1⊢;obtain⟨y,r,e,h2,h3⟩:=h1;exact⟨y,r,e,aI.cut h0 h2,aS.cut h h3⟩
  ·cases h
end
theorem jG.cut {L:aH} {m:Nat}:∀{xs:List (Value×CV)} {ys:List (Value×AV)},(xs.all λp=>jR m p.2)=true->jG L xs ys->jG (L.cut m) xs ys
 |[],_,_,h1=>by simp only[jG]at h1⊢;exact h1
 |_::_,_,h,h1=>by
  simp only[kR,bL]at h;simp only[jG]at h1⊢;obtain⟨y,r,e,h2,h3,h4⟩:=h1;exact⟨y,r,e,h2,h3.cut h.1,jG.cut h.2 h4⟩
theorem k9.cut {L:aH} {m i:Nat} (hi:i<m) {x:bm} {y:aq} (hb:I' m x=true) (hx:k9 L i x y):k9 (L.cut m) i x y:=by
 have h1:(L.cut m).b i=L.b i:=by simp[aH.cut,hi]
 have h2:∀n,(L.cut m).s i n=L.s i n:=λn=>by simp[aH.cut,hi]
 cases x with
 |box cs=>obtain⟨b,cs',h3,h4,h5⟩:=hx;exact⟨b,cs',h1.trans h3,h4,h5.cut hb⟩
 |row e k rows=>obtain⟨⟨a,c,h3,h4⟩,h5⟩:=hx;exact⟨⟨a,c,(h2 _).trans h3,h4⟩,λn hn=>(h2 n).trans (h5 n hn)⟩
 |map es=>obtain⟨b,es',h3,h4,h5⟩:=hx;exact⟨b,es',h1.trans h3,h4,h5.cut hb⟩
 |lv cs=>obtain⟨b,h3,h4⟩:=hx;exact⟨b,h1.trans h3,h4⟩
 |iq k rows=>obtain⟨a,c,h3,h4⟩:=hx;exact⟨a,c,(h2 _).trans h3,h4⟩
 |set l=>obtain⟨b,h3,h4⟩:=hx;exact⟨b,h1.trans h3,h4⟩
 |jL l=>obtain⟨b,h3,h4⟩:=hx;exact⟨b,h1.trans h3,h4⟩
 |gone=>trivial
def eL (m:Nat):List Nat->TS->Option (List (Nat×CV))
 |[],_=>some []
 |t::ts,Z=>match Z.get t,eL m ts Z with
  |some x,some r=>match jR m x with
   |true=>some ((t,x)::r)
   |false=>none
  |_,_=>none
def p8:List (Nat×CV)->TS
 |[]=> .lf
 |(t,x)::r=>Tr.put 24 (p8 r) t (some x)
theorem Dj {L:aH} {m:Nat} {s:Sl} (hs:SS L Z s):∀{ts:List Nat} {l:List (Nat×CV)},eL m ts Z=some l->SS (L.cut m) (p8 l) s
 |[],_,h=>by simp only[eL,aE]at h;subst h;intro t x hx;simp[p8,Tr.jD]at hx
 |t::ts,l,h=>by
  simp only[eL]at h;split at h
  ·rename_i x r h1 h2;split at h
   ·rename_i h0;simp only[aE]at h;subst h;intro u z hz;rcases Tr.ep 24 _ t u _ z hz with⟨rfl,h3⟩|⟨_,h3⟩
    ·cases h3;obtain⟨y,h4,h5⟩:=hs _ _ h1;exact⟨y,h4,h5.cut h0⟩
    ·exact Dj hs h2 u z h3
   ·cases h
  ·cases h
def wh (m:Nat) (e:Tr bm):Nat->Option (List bm)
 |0=>some []
 |i+1=>match wh m e i,e.get i with
  |some l,some x=>match I' m x with
   |true=>some (l++[x])
   |false=>none
  |some l,none=>some (l++[.gone])
  |none,_=>none
def kv (m:Nat) (O:Hp):Option (List bm):=wh m O.e m
def nG:Nat->List bm->Tr bm
 |_,[]=> .lf
 |i,x::r=>Tr.put 24 (nG (i+1) r) i (some x)
def gF (l:List bm):Hp:=⟨nG 0 l,l.length⟩
theorem Ng:∀{l:List bm} {i j:Nat} {x:bm},(nG i l).get j=some x->i<=j/\l[j-i]? =some x
 |[],i,j,x,h=>by simp[nG,Tr.jD]at h
 |y::r,i,j,x,h=>by
  simp only[nG]at h;rcases Tr.ep 24 _ i j _ x h with⟨rfl,h1⟩|⟨hne,h1⟩
  ·cases h1;simp
  ·obtain⟨h2,h3⟩:=Ng h1;refine⟨by omega,?_⟩;rw[show j-i=(j-(i+1))+1 by omega];simpa using h3
theorem yB {m:Nat} {e:Tr bm}:∀{n:Nat} {l:List bm},wh m e n=some l->l.length=n/\∀i x,l[i]? =some x->x= .gone\/(e.get i=some x/\I' m x=true)
 |0,l,h=>by simp only[wh,aE]at h;subst h;simp
 |n+1,l,h=>by
  simp only[wh]at h;split at h
  ·rename_i l' x h1 h2;split at h
   ·rename_i h0;simp only[aE]at h;subst h;obtain⟨h3,h4⟩:=yB h1;refine⟨by simp[h3],λi y hy=>?_⟩;rw[adl]at hy;split at hy
    ·exact h4 i y hy
    ·rename_i hi;rw[adm]at hy;split at hy
     ·cases hy;right;rw[<-h2];exact⟨by congr 1;omega,h0⟩
     ·cases hy
   ·cases h
  ·rename_i l' h1 h2;simp only[aE]at h;subst h;obtain⟨h3,h4⟩:=yB h1;refine⟨by simp[h3],λi y hy=>?_⟩;rw[adl]at hy;split at hy
   ·exact h4 i y hy
   ·rw[adm]at hy;split at hy
    ·cases hy;exact .inl rfl
    ·cases hy
  ·cases h
theorem LS {L:aH} {m:Nat} {OB:List aq} (hh:HS L O OB) (hm:m<=O.n) {l:List bm} (h:kv m O=some l):HS (L.cut m) (gF l) (OB.take m):=by
 obtain⟨h1,h2⟩:=yB h;refine⟨λi x hx=>?_,by simp[gF,h1,hh.len,hm],λt ht=>?_⟩
 ·obtain⟨_,h3⟩:=Ng hx;simp only[Ur]at h3;have hi:i<m:=by rw[<-h1];exact(cr.1 h3).1
  have hlt:i<OB.length:=by rw[hh.len];omega
  have hn:nth (OB.take m) i=nth OB i:=by rw[cq,cq,jq,dj hi]
  rw[hn];rcases h2 i x h3 with rfl|⟨h4,h5⟩
  ·exact⟨OB[i],by rw[cq];simp[hlt],trivial⟩
  ·obtain⟨y,h6,h7⟩:=hh.en i x h4;exact⟨y,h6,h7.cut hi h5⟩
 ·have:¬t<m:=by simp only[gF,h1]at ht;omega
  simp[aH.cut,this]
theorem aH.Nh {L:aH} {m:Nat} (hm:K<=m):aH.fK K L (L.cut m):=λt ht=>by
 have:t<m:=by omega
 simp[aH.cut,this]
theorem DC.loop {c:Code} (ts:List Nat) (m:Nat) (I:Nat->List (Nat×CV)->List bm->Prop) (n:Nat) (hK:K<=m) {l:List (Nat×CV)} {es:List bm} (hm:m<=O.n) (hp:eL m ts Z=some l) (he:kv m O=some es) (h0:I n l es)
  (round:∀n l es,I n l es->DC E N K c (DE.then (λσ1 η1=>∃n',n'<n/\∃l' es',m<=η1.n/\eL m ts σ1=some l'/\kv m η1=some es'/\I n' l' es') Q) (p8 l) (gF es)):DC E N K (.loop c) Q Z O:=λL ZB OB hs hh=>by
 refine bK.loop (λn ZB OB=>∃L1 l es,aH.fK K L L1/\SS L1 (p8 l) (look ZB)/\HS L1 (gF es) (OB.take m)/\I n l es) n ⟨L.cut m,l,es,aH.Nh hK,Dj hs hp,LS hh hm he,h0⟩ ?_;rintro n ZB1 OB1 ⟨L1,l1,es1,h1,h2,h3,h4⟩;refine bK.kE (ez.sub (List.take_sublist m OB1)) (bK.mono (round n l1 es1 h4 L1 ZB1 _ h2 h3) ?_);rintro e ZB2 OB2 ⟨L2,d,Z2,η2,g1,g2,g3,g4,g5⟩;cases d with
 |norm=>
  simp only[DE.inst]at g2;subst g2;obtain⟨n',hn,l',es',q1,q2,q3,q4⟩:=g5;exact⟨n',hn,L2.cut m,l',es',(h1.trans g1).trans (aH.Nh hK),Dj g3 q2,LS g4 q1 q3,q4⟩
 |exit i=>simp only[DE.inst]at g2;subst g2;exact⟨L2,.exit i,Z2,η2,h1.trans g1,rfl,g3,g4,g5⟩
 |ret=>simp only[DE.inst]at g2;subst g2;exact⟨L2,.ret,Z2,η2,h1.trans g1,rfl,g3,g4,g5⟩
 |aO x=>obtain⟨y,rfl,g2⟩:=g2;exact⟨L2,.aO x,Z2,η2,h1.trans g1,⟨y,rfl,g2⟩,g3,g4,g5⟩
def pt (E:Env) (N K:Nat) (c:Code) (Q:DQ):Nat->TS->Hp->Prop
 |0=>λ_ _=>False
 |n+1=>DC E N K c (DE.then (pt E N K c Q n) Q)
theorem DC.rounds {c:Code} (n:Nat) (h:pt E N K c Q n Z O):DC E N K (.loop c) Q Z O:=λL ZB OB hs hh=>by
 refine bK.rounds n ?_;have key:∀n L1 Z O ZB OB,aH.fK K L L1->SS L1 Z (look ZB)->HS L1 O OB->pt E N K c Q n Z O->Ao E.toCx N c (lift K L Q) n ZB OB:=by
  intro n
  induction n with
  |zero=>intro L1 Z O ZB OB _ _ _ h;exact h.elim
  |succ n ih=>
   intro L1 Z O ZB OB h1 h2 h3 h4;refine bK.mono (h4 L1 ZB OB h2 h3) ?_;rintro e ZB2 OB2 ⟨L2,d,Z2,η2,g1,g2,g3,g4,g5⟩;cases d with
   |norm=>simp only[DE.inst]at g2;subst g2;exact ih L2 Z2 η2 _ _ (h1.trans g1) g3 g4 g5
   |exit i=>simp only[DE.inst]at g2;subst g2;exact⟨L2,.exit i,Z2,η2,h1.trans g1,rfl,g3,g4,g5⟩
   |ret=>simp only[DE.inst]at g2;subst g2;exact⟨L2,.ret,Z2,η2,h1.trans g1,rfl,g3,g4,g5⟩
   |aO x=>obtain⟨y,rfl,g2⟩:=g2;exact⟨L2,.aO x,Z2,η2,h1.trans g1,⟨y,rfl,g2⟩,g3,g4,g5⟩
 exact key n L Z O ZB OB (.refl K L) hs hh h
end
theorem bV.mono {C:Cx} {N:Nat} {o:Oper} {s s':Sl} {O:List aq} {x:AV} (h:bV C N o s O x) (hs:∀t∈tmpsOf o,∀y,s t=some y->s' t=some y):bV C N o s' O x:=
 λF w a h1 h2 h3 h4=>h F w a h1 h2 h3 λt ht y hy=>h4 t ht y (hs t ht y hy)
theorem bV.Y9 {C:Cx} {N:Nat} {o:Oper} {s s':Sl} {O:List aq} {x:AV} (h:bV C N o s' O x)
  (hs:∀F w a,bD C.G w F O->la w (Al F O) N a o s->la w (Al F O) N a o s'):bV C N o s O x:=
 λF w a h1 h2 h3 h4=>h F w a h1 h2 h3 (hs F w a h3 h4)
def ee (Z:TS):Sl:=λt=>match Z.get t with
 |some (.d x)=>some x
 |_=>none
theorem kt {L:aH} {Z:TS} {s:Sl} (hs:SS L Z s) {t:Nat} {x:AV} (h:ee Z t=some x):s t=some x:=by
 unfold ee at h;split at h
 ·rename_i y hy;simp only[aE]at h;subst h;obtain⟨z,h1,h2⟩:=hs t _ hy;simp only[aI]at h2;subst h2;exact h1
 ·cases h
def bg (E:Env) (N:Nat) (o:Oper) (Z:TS) (O:Hp) (x:CV):Prop:=∀L s OB,SS L Z s->HS L O OB->∃y,aI L x y/\bV E.toCx N o s OB y
section
variable {E:Env} {N K:Nat} {Q:DQ} {Z:TS} {O:Hp} {o:Oper} {x:CV} {all rest:List Oper}
theorem DO.oH (hg:o.guard=none) (hd:ck N o.dst=true) (h:bg E N o Z O x) (k:DO E N K all rest Q (bW Z o.dst x) O):DO E N K all (o::rest) Q Z O:=λL ZB OB hs hh=>by
 obtain⟨y,h1,h2⟩:=h L _ OB hs hh;exact bo.oH hg hd h2 (k L _ OB (hs.put o.dst h1) hh)
theorem bg.cB {y:AV} (h:cB E.T (ee Z) o.op=some y):bg E N o Z O (.d y):=λL s OB hs _=>⟨y,rfl,(bV.cB h).mono λ_ _ _ hy=>kt hs hy⟩
theorem bg.ed {y:AV} (h:ed E.P E.T (ee Z) o.op=some y):bg E N o Z O (.d y):=λL s OB hs _=>⟨y,rfl,(bV.ed h).mono λ_ _ _ hy=>kt hs hy⟩
theorem bg.eS {y:AV} (h:eS E.P (ee Z) o.op=some y):bg E N o Z O (.d y):=λL s OB hs _=>⟨y,rfl,(bV.eS h).mono λ_ _ _ hy=>kt hs hy⟩
theorem bg.lu {y:AV} (h:lu E.G E.T (ee Z) o.op=some y):bg E N o Z O (.d y):=λL s OB hs _=>⟨y,rfl,(bV.lu h).mono λ_ _ _ hy=>kt hs hy⟩
def dF:CV->List CV
 | .agg xs=>xs
 | .d y=>(cf y).map .d
 |x=>[x]
theorem xZ {L:aH} {x:CV} {y:AV} (h:aI L x y):aS L (dF x) (cf y):=by
 cases x with
 |d z=>simp only[aI]at h;subst h;exact gA _
 |agg xs=>simp only[aI]at h;obtain⟨ys,rfl,h⟩:=h;exact h
 |bN xs=>have h0:=h;simp only[aI]at h0;obtain⟨ys,rfl,_⟩:=h0;simp only[dF,cf,aS];exact⟨_,_,rfl,h,rfl⟩
 |own t n=>have h0:=h;simp only[aI]at h0;obtain⟨b,t',_,rfl⟩:=h0;simp only[dF,cf,aS];exact⟨_,_,rfl,h,rfl⟩
 |os t n=>have h0:=h;simp only[aI]at h0;obtain⟨a,c,t',_,rfl⟩:=h0;simp only[dF,cf,aS];exact⟨_,_,rfl,h,rfl⟩
 |oe t n m=>have h0:=h;simp only[aI]at h0;obtain⟨a,c,t',_,rfl⟩:=h0;simp only[dF,cf,aS];exact⟨_,_,rfl,h,rfl⟩
 |om t=>have h0:=h;simp only[aI]at h0;obtain⟨b,t',_,rfl⟩:=h0;simp only[dF,cf,aS];exact⟨_,_,rfl,h,rfl⟩
 |fn f fs cs=>have h0:=h;simp only[aI]at h0;obtain⟨us,vs,rfl,_⟩:=h0;simp only[dF,cf,aS];exact⟨_,_,rfl,h,rfl⟩
 |bB t z=>have h0:=h;simp only[aI]at h0;obtain⟨u,rfl,_⟩:=h0;simp only[dF,cf,aS];exact⟨_,_,rfl,h,rfl⟩
def re:List CV->List CV->Option (List CV)
 |xs,[]=>some xs
 |[],_::_=>none
 |_::xs,y::ys=>match re xs ys with
  |some r=>some (y::r)
  |none=>none
def lU:List CV->Nat->List CV->Option (List CV)
 |xs,0,ys=>re xs ys
 |[],_+1,_=>none
 |x::xs,n+1,ys=>match lU xs n ys with
  |some r=>some (x::r)
  |none=>none
theorem Kw {L:aH}:∀{ys xs r:List CV} {us vs:List AV},re xs ys=some r->aS L xs us->aS L ys vs->∃r',lb us vs=some r'/\aS L r r'
 |[],xs,r,us,vs,h,hx,hy=>by
  simp only[aS]at hy;subst hy;cases xs<;>simp only[re,aE]at h<;>subst h
  ·simp only[aS]at hx;subst hx;exact⟨[],rfl,rfl⟩
  ·exact⟨us,by cases us<;>rfl,hx⟩
 |y::ys,[],r,us,vs,h,hx,hy=>by simp[re]at h
 |y::ys,x::xs,r,us,vs,h,hx,hy=>by
  simp only[re]at h;split at h
  ·rename_i r' h1;simp only[aE]at h;subst h;simp only[aS]at hx hy;obtain⟨u,ur,rfl,_,hx⟩:=hx;obtain⟨v,vr,rfl,hv,hy⟩:=hy;obtain⟨q,h2,h3⟩:=Kw h1 hx hy;exact⟨v::q,by simp[lb,h2],by simp only[aS];exact⟨_,_,rfl,hv,h3⟩⟩
  ·cases h
theorem xV {L:aH}:∀{n:Nat} {xs ys r:List CV} {us vs:List AV},lU xs n ys=some r->aS L xs us->aS L ys vs->∃r',eU us n vs=some r'/\aS L r r'
 |0,xs,ys,r,us,vs,h,hx,hy=>by
  have h':re xs ys=some r:=by cases xs<;>exact h
  obtain⟨q,h1,h2⟩:=Kw h' hx hy;exact⟨q,by cases us<;>exact h1,h2⟩
 |n+1,[],ys,r,us,vs,h,hx,hy=>by simp[lU]at h
 |n+1,x::xs,ys,r,us,vs,h,hx,hy=>by
  simp only[lU]at h;split at h
  ·rename_i r' h1;simp only[aE]at h;subst h;simp only[aS]at hx;obtain⟨u,ur,rfl,hu,hx⟩:=hx;obtain⟨q,h2,h3⟩:=xV h1 hx hy;exact⟨u::q,by simp[eU,h2],by simp only[aS];exact⟨_,_,rfl,hu,h3⟩⟩
  ·cases h
def wF (fs:List (Nat×Nat×Nat×Bool)) (Z:TS):List CV->List (Nat×Operand)->Option (List CV)
 |cells,[]=>some cells
 |cells,(i,o)::rest=>match nth fs i,a6 Z o with
  |some (off,_,k,_),some x=>match Nat.beq (dF x).length k,lU cells off (dF x)with
   |true,some cells'=>wF fs Z cells' rest
   |_,_=>none
  |_,_=>none
theorem Kx {L:aH} {s:Sl} (hs:SS L Z s) {fs:List (Nat×Nat×Nat×Bool)}:∀{l:List (Nat×Operand)} {cells r:List CV} {us:List AV},wF fs Z cells l=some r->aS L cells us->∃r',ng fs s us l=some r'/\aS L r r'
 |[],cells,r,us,h,hr=>by simp only[wF,aE]at h;subst h;exact⟨us,rfl,hr⟩
 |(i,p)::l,cells,r,us,h,hr=>by
  simp only[wF]at h;split at h
  ·rename_i off t k g x h1 h2;split at h
   ·rename_i cells' h3 h4;obtain⟨y,h5,h6⟩:=cg hs h2;have h7:=xZ h6;obtain⟨q,h8,h9⟩:=xV h4 hr h7;obtain⟨r',h10,h11⟩:=Kx hs h h9;refine⟨r',?_,h11⟩;simp only[ng,h1,h5,h7.length,h3,h8,h10]
   ·cases h
  ·cases h
def rK (Z:TS):List Operand->Option (List CV)
 |[]=>some []
 |o::r=>match a6 Z o,rK Z r with
  |some x,some xs=>some (x::xs)
  |_,_=>none
theorem sB {L:aH} {s:Sl} (hs:SS L Z s):∀{os:List Operand} {xs:List CV},rK Z os=some xs->∃ys,iM s os=some ys/\aS L xs ys
 |[],_,h=>by simp only[rK,aE]at h;subst h;exact⟨[],rfl,rfl⟩
 |o::os,xs,h=>by
  simp only[rK]at h;split at h
  ·rename_i x ys h1 h2;simp only[aE]at h;subst h;obtain⟨y,h3,h4⟩:=cg hs h1;obtain⟨zs,h5,h6⟩:=sB hs h2;exact⟨y::zs,by simp[iM,h3,h5],by simp only[aS];exact⟨_,_,rfl,h4,h6⟩⟩
  ·cases h
def pN:List CV->Bool
 |[]=>false
 | .d _::r=>pN r
 |_::_=>true
theorem CF {L:aH}:∀{xs:List CV} {ys:List AV},pN xs=true->aS L xs ys->oA ys=none
 |[],_,h,_=>by simp[pN]at h
 |x::r,ys,h,hr=>by
  simp only[aS]at hr;obtain⟨y,r',rfl,h1,h2⟩:=hr;cases x with
  |d z=>
   simp only[pN]at h;have:=CF h h2;cases y<;>simp[oA,this]
  |agg xs=>simp only[aI]at h1;obtain⟨ys,rfl,_⟩:=h1;rfl
  |bN xs=>simp only[aI]at h1;obtain⟨ys,rfl,_⟩:=h1;rfl
  |own t n=>simp only[aI]at h1;obtain⟨b,t',_,rfl⟩:=h1;rfl
  |os t n=>simp only[aI]at h1;obtain⟨a,c,t',_,rfl⟩:=h1;rfl
  |oe t n m=>simp only[aI]at h1;obtain⟨a,c,t',_,rfl⟩:=h1;rfl
  |om t=>simp only[aI]at h1;obtain⟨b,t',_,rfl⟩:=h1;rfl
  |fn f fs cs=>simp only[aI]at h1;obtain⟨us,vs,rfl,_⟩:=h1;rfl
  |bB t z=>simp only[aI]at h1;obtain⟨u,rfl,_⟩:=h1;rfl
def oJ (T:bX) (Z:TS):Op->Option CV
 | .move x=>a6 Z x
 | .assign x=>a6 Z x
 | .pick c a b=>match a6 Z c with
  |some (.d (.v (.bool true)))=>a6 Z a
  |some (.d (.v (.bool false)))=>a6 Z b
  |_=>none
 | .extract x i=>match a6 Z x with
  |some (.bN xs)=>nth xs i
  |_=>none
 | .field t x f=>match a6 Z x,a7 T t with
  |some (.agg xs),some ⟨.struct fs,_,_,_⟩=>match nth fs f with
   |some (o,_,k,g)=>match g with
    |true=>some (uh ((xs.drop o).take k))
    |false=>nth xs o
   |none=>none
  |_,_=>none
 | .fieldAddr t x f=>match a7 T t with
  |some ⟨.struct fs,_,_,_⟩=>match nth fs f with
   |some (off,_,_,_)=>match a6 Z x with
    |some (.own t o)=>some (.own t (o+off))
    |some (.oe t n o)=>some (.oe t n (o+off))
    |_=>none
   |none=>none
  |_=>none
 | .nilCheck x=>match a6 Z x with
  |some (.own t o)=>some (.own t o)
  |some (.oe t n o)=>some (.oe t n o)
  |some (.fn f fs cs)=>some (.fn f fs cs)
  |_=>none
 | .makeInterface t x=>match a6 Z x,a7 T t with
  |some _,some ⟨.iface,_,_,_⟩=>none
  |some y,some _=>some (.bB t y)
  |_,_=>none
 | .typeAssert x _ t ok=>match a6 Z x,a7 T t with
  |some (.bB _ _),some ⟨.iface,_,_,_⟩=>none
  |some (.bB u y),some _=>match Nat.beq u t,ok with
   |true,true=>some (.bN [y,.d (.v (.bool true))])
   |true,false=>some y
   |false,_=>none
  |_,_=>none
 | .makeFunc (.func f) first caps=>match rK Z first.toList,rK Z caps.toList with
  |some fs,some cs=>match pN fs,pN cs with
   |false,false=>none
   |_,_=>some (.fn f fs cs)
  |_,_=>none
 | .build t parts=>match a7 T t with
  |some ⟨.struct fs,_,_,z⟩=>match wF fs Z ((z.map .v).map .d) parts.toList with
   |some cells=>some (uh cells)
   |none=>none
  |_=>none
 |_=>none
theorem Na {L:aH} {s:Sl} (hs:SS L Z s) {T:bX} {op:Op} (h:oJ T Z op=some x):∃y,cB T s op=some y/\aI L x y:=by
 unfold oJ at h;split at h
 ·exact cg hs h
 ·exact cg hs h
 ·rename_i c a b;split at h
  ·rename_i hc;obtain⟨y,h1,h2⟩:=cg hs hc;simp only[aI]at h2;subst h2;obtain⟨z,h3,h4⟩:=cg hs h;exact⟨z,by simp only[cB,h1,h3],h4⟩
  ·rename_i hc;obtain⟨y,h1,h2⟩:=cg hs hc;simp only[aI]at h2;subst h2;obtain⟨z,h3,h4⟩:=cg hs h;exact⟨z,by simp only[cB,h1,h3],h4⟩
  ·cases h
 ·rename_i y i;split at h
  ·rename_i xs hy;obtain⟨z,h1,h2⟩:=cg hs hy;simp only[aI]at h2;obtain⟨ys,rfl,h2⟩:=h2;obtain⟨u,h3,h4⟩:=h2.nth h;exact⟨u,by simp only[cB,h1,h3],h4⟩
  ·cases h
 ·rename_i t y f;split at h
  ·rename_i xs fs _ _ _ hy ht;split at h
   ·rename_i off ft k g hf;obtain⟨z,h1,h2⟩:=cg hs hy;simp only[aI]at h2;obtain⟨ys,rfl,h2⟩:=h2;split at h
    ·simp only[aE]at h;subst h;exact⟨_,by simp only[cB,h1,ht,hf,ui],yH ((h2.drop off).take k)⟩
    ·obtain⟨u,h3,h4⟩:=h2.nth h;exact⟨u,by simp only[cB,h1,ht,hf,ui,h3],h4⟩
   ·cases h
  ·cases h
 ·rename_i t y f;split at h
  ·rename_i fs _ _ _ ht;split at h
   ·rename_i off ft k g hf;split at h
    ·rename_i tg o hy;simp only[aE]at h;subst h;obtain⟨z,h1,h2⟩:=cg hs hy;simp only[aI]at h2;obtain⟨b,t',h2,rfl⟩:=h2;exact⟨.own t' b (o+off),by simp only[cB,ht,hf,h1],by simp only[aI];exact⟨b,t',h2,rfl⟩⟩
    ·rename_i tg n o hy;simp only[aE]at h;subst h;obtain⟨z,h1,h2⟩:=cg hs hy;simp only[aI]at h2;obtain⟨a,c,t',h2,rfl⟩:=h2;exact⟨.oe t' (.slice a n c) (o+off),by simp only[cB,ht,hf,h1],by simp only[aI];exact⟨a,c,t',h2,rfl⟩⟩
    ·cases h
   ·cases h
  ·cases h
 ·rename_i y;split at h
  ·rename_i tg o hy;simp only[aE]at h;subst h;obtain⟨z,h1,h2⟩:=cg hs hy;have h3:=h2;simp only[aI]at h3;obtain⟨b,t',_,rfl⟩:=h3;exact⟨_,by simp only[cB,h1],h2⟩
  ·rename_i tg n o hy;simp only[aE]at h;subst h;obtain⟨z,h1,h2⟩:=cg hs hy;have h3:=h2;simp only[aI]at h3;obtain⟨a,c,t',_,rfl⟩:=h3;exact⟨_,by simp only[cB,h1],h2⟩
  ·rename_i f fs cs hy;simp only[aE]at h;subst h;obtain⟨z,h1,h2⟩:=cg hs hy;have h3:=h2;simp only[aI]at h3;obtain⟨us,vs,rfl,_⟩:=h3;exact⟨_,by simp only[cB,h1],h2⟩
  ·cases h
 ·rename_i t y;split at h
  ·cases h
  ·rename_i u i hne hy ht;simp only[aE]at h;subst h;obtain⟨z,h1,h2⟩:=cg hs hy;refine⟨.bB t z,?_,by simp only[aI];exact⟨z,rfl,h2⟩⟩;simp only[cB,h1,ht]
  ·cases h
 ·rename_i y xt t ok;split at h
  ·cases h
  ·rename_i u y' i hne hy ht;obtain⟨z,h1,h2⟩:=cg hs hy;simp only[aI]at h2;obtain⟨z',rfl,h2⟩:=h2;have key:cB T s (.typeAssert y xt t ok)=(match(generalizing:=false) Nat.beq u t,ok with
     |true,true=>some (AV.bN [z',.v (.bool true)])
     |true,false=>some z'
     |false,_=>none):=by
    simp only[cB,h1,ht];rfl
   rw[key];cases hb:Nat.beq u t with
   |false=>rw[hb]at h;cases h
   |true=>
    rw[hb]at h;cases ok with
    |true=>
     simp only[aE]at h;subst h;refine⟨_,rfl,?_⟩;simp only[aI,aS];exact⟨_,rfl,_,_,rfl,h2,_,_,rfl,rfl,rfl⟩
    |false=>
     simp only[aE]at h;subst h;exact⟨_,rfl,h2⟩
  ·cases h
 ·rename_i f first caps
  split at h
  ·rename_i fs cs h1 h2;obtain⟨us,h3,h4⟩:=sB hs h1;obtain⟨vs,h5,h6⟩:=sB hs h2;split at h
   ·cases h
   ·rename_i hne;simp only[aE]at h;subst h;refine⟨.fn f us vs,?_,by simp only[aI];exact⟨us,vs,rfl,h4,h6⟩⟩;simp only[cB,h3,h5];cases hr:pN fs with
    |true=>rw[CF hr h4]
    |false=>cases hr':pN cs with
     |true=>rw[CF hr' h6];cases oA us<;>rfl
     |false=>exact(hne hr hr').elim
  ·cases h
 ·rename_i t parts;split at h
  ·rename_i fs _ _ z ht;split at h
   ·rename_i cells hf;simp only[aE]at h;subst h;obtain⟨r',h1,h2⟩:=Kx hs hf (gA _);exact⟨.agg r',by simp only[cB,ht,h1],yH h2⟩
   ·cases h
  ·cases h
 ·cases h
theorem bg.oJ (h:oJ E.T Z o.op=some x):bg E N o Z O x:=λL s OB hs _=>by
 obtain⟨y,h1,h2⟩:=Na hs h;exact⟨y,h2,bV.cB h1⟩
def A0 (T:bX) (t:TypeId) (cs:List CV) (o:Nat):Option CV:=
 match a7 T t with
 |some ⟨d,k,_,_⟩=>match d.agg with
  |true=>match Nat.ble k (cs.drop o).length with
   |true=>some (uh ((cs.drop o).take k))
   |false=>none
  |false=>nth cs o
 |none=>none
theorem CD:∀{l:List AV} {n:Nat},n<=l.length->fits l n=true
 |_,0,_=>by simp[fits]
 |[],n+1,h=>by simp at h
 |_::r,n+1,h=>by simp only[fits];exact CD (by simpa using h)
theorem VA {L:aH} {T:bX} {t:TypeId} {cs:List CV} {us:List AV} {off:Nat} (h:A0 T t cs off=some x) (hc:aS L cs us):∃y,iG T t us off=some y/\aI L x y:=by
 unfold A0 at h;split at h
 ·rename_i d k b z ht;split at h
  ·rename_i hd;split at h
   ·rename_i hle;simp only[aE]at h;subst h;have hle:=dD hle;refine⟨.agg ((us.drop off).take k),?_,yH ((hc.drop off).take k)⟩;simp only[iG,ht,hd];rw[CD (by rw[(hc.drop off).length];exact hle)]
   ·cases h
  ·rename_i hd;obtain⟨y,h1,h2⟩:=hc.nth h;exact⟨y,by simp only[iG,ht,hd,h1],h2⟩
 ·cases h
theorem Ky {p:Operand} (h:a6 Z p=some x) (hx:∀y,x≠ .d y):∃t,p= .tmp t/\Z.get t=some x:=by
 cases p with
 |tmp t=>exact⟨t,rfl,h⟩
 |const v=>simp only[a6,aE]at h;exact(hx _ h.symm).elim
 |global g=>simp only[a6,aE]at h;exact(hx _ h.symm).elim
 |func f=>simp only[a6,aE]at h;exact(hx _ h.symm).elim
theorem bg.load {t:TypeId} {p:Operand} {i off:Nat} {cs:List CV} (ho:o.op= .load t p) (hp:a6 Z p=some (.own i off)) (hi:O.e.get i=some (.box cs)) (hl:A0 E.T t cs off=some x):bg E N o Z O x:=λL s OB hs hh=>by
 obtain⟨y,h1,h2⟩:=cg hs hp;simp only[aI]at h2;obtain⟨b,t',h3,rfl⟩:=h2;obtain⟨z,h4,h5⟩:=hh.en i _ hi;obtain⟨b',cs',h6,rfl,h7⟩:=h5;rw[h3]at h6;cases h6;obtain⟨q,h8,h9⟩:=VA hl h7;exact⟨q,h9,bV.oK (LR ho (by rw[fB (by simp[ho,Op.operands])];exact h1) h4 h8)⟩
def fF (s:Sl) (t:Nat) (x:AV):Sl:=λu=>if u=t then some x else s u
theorem bV.known {C:Cx} {s:Sl} {OB:List aq} {t:Nat} {x:AV} {y z:AV} (h:bV C N o (fF s t z) OB x) (ht:s t=some y) (hk:∀F w v,bD C.G w F OB->Rel w (Al F OB) y v->Rel w (Al F OB) z v):bV C N o s OB x:=
 h.Y9 λF w a hh hs u hu q hq=>by
  unfold fF at hq;split at hq
  ·rename_i hut;subst hut;simp only[aE]at hq;subst hq;obtain⟨h1,h2⟩:=hs u hu y ht;exact⟨h1,hk F w _ hh h2⟩
  ·exact hs u hu q hq
theorem qI {G:Gl} {w:World} {F:Nat->Prop} {OB:List aq} (hh:bD G w F OB) {i:Nat} {x:AV} {v:Value} (h:nth OB i=some (.fact x v)):Rel w (Al F OB) x v:=gG hh h
theorem Rel.EB {w:World} {A:Nat->Prop} {cs:List AV} {b:Nat} (off:Nat) (h:Rel w A (.ip cs) (.pointer (some ⟨b,0,none⟩))):Rel w A (.ip (cs.drop off)) (.pointer (some ⟨b,off,none⟩)):=by
 simp only[Rel]at h⊢;obtain⟨b',o',vs,e1,e2,e3,e4⟩:=h;cases e1;exact⟨b,off,vs.drop off,rfl,e2,e3.drop off,λj u hj=>by rw[u6]at hj;have:=e4 _ _ hj;simpa using this⟩
theorem bg.aac {t:TypeId} {p:Operand} {i off:Nat} {cs:List AV} {y:AV} (ho:o.op= .load t p) (hp:a6 Z p=some (.own i off)) (hi:O.e.get i=some (.lv cs)) (hl:iG E.T t (cs.drop off) 0=some y):bg E N o Z O (.d y):=λL s OB hs hh=>by
 obtain⟨u,rfl,hu⟩:=Ky hp (λ_ h=>by cases h);obtain⟨z,h1,h2⟩:=hs u _ hu;simp only[aI]at h2;obtain⟨b,t',h3,rfl⟩:=h2;obtain⟨z,h4,h5⟩:=hh.en i _ hi;obtain⟨b',h6,rfl⟩:=h5;rw[h3]at h6;cases h6;refine⟨y,rfl,bV.known (t:=u) (z:= .ip (cs.drop off)) (bV.cB ?_) h1 λF w v hH hr=>?_⟩
 ·rw[ho];unfold iG at hl;simp only[Bw.cB,ev,fF,if_true];split at hl
  ·rename_i d k b z ht;simp only[ht];simp only[List.drop_zero]at hl;rw[<-hl];cases d.agg<;>rfl
  ·cases hl
 ·simp only[Rel]at hr;subst hr;exact(qI hH h4).EB off
theorem bg.len {t:TypeId} {p:Operand} {i n e k sz by':Nat} {z:List Value} (ho:o.op= .call {callee:= .builtin .len,args:= #[p],argTypes:= #[t]}) (hp:a6 Z p=some (.os i n)) (ht:a7 E.T t=some ⟨.slice e k,sz,by',z⟩):bg E N o Z O (.d (.v (.int .i64 (n:Int)))):=λL s OB hs _=>by
 obtain⟨y,h1,h2⟩:=cg hs hp;simp only[aI]at h2;obtain⟨a,c,t',h3,rfl⟩:=h2;exact⟨_,rfl,bV.len ho h1 (by simp[rF,ht])⟩
theorem bg.acu {t:TypeId} {p:Operand} {y:AV} {n:Int} (ho:o.op= .call {callee:= .builtin .len,args:= #[p],argTypes:= #[t]}) (hp:a6 Z p=some (.d y)) (hl:rF E.T t y=some n):bg E N o Z O (.d (.v (.int .i64 n))):=λL s OB hs _=>by
 obtain⟨z,h1,h2⟩:=cg hs hp;simp only[aI]at h2;subst h2;exact⟨_,rfl,bV.len ho h1 hl⟩
theorem bg.OM {t:TypeId} {p ix:Operand} {i n e k sz by':Nat} {z:List Value} {rows:List (List AV)} {kd:IntKind} {m:Int} (j:Nat) (ho:o.op= .indexAddr t p ix) (hp:a6 Z p=some (.os i n)) (hi:O.e.get i=some (.row e k rows)) (hn:n=rows.length)
  (ht:a7 E.T t=some ⟨.slice e k,sz,by',z⟩) (hix:a6 Z ix=some (.d (.v (.int kd m)))) (hm:m=(j:Int)) (hj:j<rows.length):bg E N o Z O (.oe i n (j*k)):=λL s OB hs hh=>by
 obtain⟨y,h1,h2⟩:=cg hs hp;simp only[aI]at h2;obtain⟨a,c,t',h3,rfl⟩:=h2;obtain⟨y',h4,h5⟩:=cg hs hix;simp only[aI]at h5;subst h5;obtain⟨q,h6,h7⟩:=hh.en i _ hi;obtain⟨⟨a',c',h8,rfl⟩,_⟩:=h7;subst hn;rw[h3]at h8;cases h8;refine⟨.oe i (.slice a rows.length c) (j*k),by simp only[aI];exact⟨a,c,i,h3,rfl⟩,?_⟩;exact bV.oK (VB ho j ht (by rw[fB (by simp[ho,Op.operands])];exact h1) h6 (by rw[fB (by simp[ho,Op.operands])];exact h4) hm hj)
theorem bg.M4 {t:TypeId} {p:Operand} {i n m e k:Nat} {rows:List (List AV)} {r:List AV} {y:AV} (j off:Nat) (ho:o.op= .load t p) (hp:a6 Z p=some (.oe i n m)) (hi:O.e.get i=some (.row e k rows)) (hn:n=rows.length) (hm:m=j*k+off) (hr:rows[j]? =some r)
  (hl:iG E.T t r off=some y):bg E N o Z O (.d y):=λL s OB hs hh=>by
 obtain⟨z,h1,h2⟩:=cg hs hp;simp only[aI]at h2;obtain⟨a,c,t',h3,rfl⟩:=h2;obtain⟨q,h6,h7⟩:=hh.en i _ hi;obtain⟨⟨a',c',h8,rfl⟩,_⟩:=h7;subst hn;rw[h3]at h8;cases h8;exact⟨y,rfl,bV.oK (Ve ho j off (by rw[fB (by simp[ho,Op.operands])];exact h1) hm h6 hr hl)⟩
theorem bg.acs {t:TypeId} {p ix:Operand} {i n e k sz by':Nat} {z:List Value} {rows:List (List AV)} {r:List AV} {kd:IntKind} {m:Int} (j:Nat) (ho:o.op= .indexAddr t p ix) (hp:a6 Z p=some (.os i n)) (hi:O.e.get i=some (.iq k rows)) (hn:n=rows.length)
  (ht:a7 E.T t=some ⟨.slice e k,sz,by',z⟩) (hix:a6 Z ix=some (.d (.v (.int kd m)))) (hm:m=(j:Int)) (hr:rows[j]? =some r):bg E N o Z O (.d (.ip r)):=λL s OB hs hh=>by
 obtain⟨u,rfl,hu⟩:=Ky hp (λ_ h=>by cases h);obtain⟨y,h1,h2⟩:=hs u _ hu;simp only[aI]at h2;obtain⟨a,c,t',h3,rfl⟩:=h2;obtain⟨q,h6,h7⟩:=hh.en i _ hi;obtain⟨a',c',h8,rfl⟩:=h7;subst hn;rw[h3]at h8;cases h8;obtain⟨y',h4,h5⟩:=cg hs hix;simp only[aI]at h5;subst h5;subst hm;refine⟨.ip r,rfl,bV.known (t:=u) (z:= .sl k rows) ?_ h1 λF w v hH hrl=>?_⟩
 ·refine bV.ed (E:=E) ?_;have hev:ev (fF s u (.sl k rows)) ix=some (.v (.int kd (j:Int))):=by
   cases ix with
   |tmp q=>
    simp only[ev,fF]at h4⊢;split
    ·rename_i hq;subst hq;rw[h1]at h4;cases h4
    ·exact h4
   |const v=>exact h4
   |global g=>exact h4
   |func f=>exact h4
  have hnat:nz (some (.v (.int kd (j:Int))))=some j:=rfl;rw[ho];simp only[Bw.ed,hev,hnat,ht,u4,cq];simp[ev,fF,hr]
 ·simp only[Rel]at hrl;subst hrl;exact qI hH h6
