/- An abstract machine over the program logic: its values name own blocks by tags, so that its steps can be computed. First part: values, slots, heap, what they say, the judgement. -/
import Derived.Test.YtnocmolegijmkaaGreatKB10
set_option linter.all false
noncomputable section
namespace Go.Bw
open Go
inductive CV where
 |d (x:AV)
 |agg (xs:List CV)
 |bQ (xs:List CV)
 |own (t off:Nat)
 |os (t n:Nat)
 |oe (t n off:Nat)
 |om (t:Nat)
 |fn (f:FuncId) (fs cs:List CV)
 |bJ (ty:TypeId) (x:CV)
structure aN where
 b:Nat->Option Nat
 s:Nat->Nat->Option (Option Addr×Nat)
def aN.le (Z Z':aN):Prop:=(∀t x,Z.b t=some x->Z'.b t=some x)/\∀t n x,Z.s t n=some x->Z'.s t n=some x
theorem aN.le.refl (Z:aN):Z.le Z:=⟨λ_ _ h=>h,λ_ _ _ h=>h⟩
theorem aN.le.trans {Z Z' Z'':aN} (h:Z.le Z') (g:Z'.le Z''):Z.le Z'':=⟨λt x hx=>g.1 t x (h.1 t x hx),λt n x hx=>g.2 t n x (h.2 t n x hx)⟩
mutual
def aK (Z:aN):CV->AV->Prop
 | .d x,y=>y=x
 | .agg xs,y=>∃ys,y= .agg ys/\aR Z xs ys
 | .bQ xs,y=>∃ys,y= .bQ ys/\aR Z xs ys
 | .own t o,y=>∃b t',Z.b t=some b/\y= .own t' b o
 | .os t n,y=>∃a c t',Z.s t n=some (a,c)/\y= .os t' a n c
 | .oe t n o,y=>∃a c t',Z.s t n=some (a,c)/\y= .oe t' (.slice a n c) o
 | .om t,y=>∃b t',Z.b t=some b/\y= .om t' b
 | .fn f fs cs,y=>∃us vs,y= .fn f us vs/\aR Z fs us/\aR Z cs vs
 | .bJ t x,y=>∃u,y= .bJ t u/\aK Z x u
def aR (Z:aN):List CV->List AV->Prop
 |[],ys=>ys=[]
 |x::xs,ys=>∃y r,ys=y::r/\aK Z x y/\aR Z xs r
end
section
variable {Z Z':aN}
mutual
theorem aK.mono (h:Z.le Z'):∀{x:CV} {y:AV},aK Z x y->aK Z' x y
 | .d x,_,h1=>by simp only[aK]at h1⊢;exact h1
 | .agg xs,_,h1=>by simp only[aK]at h1⊢;obtain⟨ys,e,h2⟩:=h1;exact⟨ys,e,aR.mono h h2⟩
 | .bQ xs,_,h1=>by simp only[aK]at h1⊢;obtain⟨ys,e,h2⟩:=h1;exact⟨ys,e,aR.mono h h2⟩
 | .own t o,_,h1=>by simp only[aK]at h1⊢;obtain⟨b,t',e,h2⟩:=h1;exact⟨b,t',h.1 _ _ e,h2⟩
 | .os t n,_,h1=>by simp only[aK]at h1⊢;obtain⟨a,c,t',e,h2⟩:=h1;exact⟨a,c,t',h.2 _ _ _ e,h2⟩
 | .oe t n o,_,h1=>by simp only[aK]at h1⊢;obtain⟨a,c,t',e,h2⟩:=h1;exact⟨a,c,t',h.2 _ _ _ e,h2⟩
 | .om t,_,h1=>by simp only[aK]at h1⊢;obtain⟨b,t',e,h2⟩:=h1;exact⟨b,t',h.1 _ _ e,h2⟩
 | .fn f fs cs,_,h1=>by simp only[aK]at h1⊢;obtain⟨us,vs,e,h2,h3⟩:=h1;exact⟨us,vs,e,aR.mono h h2,aR.mono h h3⟩
 | .bJ t x,_,h1=>by simp only[aK]at h1⊢;obtain⟨u,e,h2⟩:=h1;exact⟨u,e,aK.mono h h2⟩
theorem aR.mono (h:Z.le Z'):∀{x:List CV} {y:List AV},aR Z x y->aR Z' x y
 |[],_,h1=>by simp only[aR]at h1⊢;exact h1
 |_::_,_,h1=>by simp only[aR]at h1⊢;obtain⟨y,r,e,h2,h3⟩:=h1;exact⟨y,r,e,aK.mono h h2,aR.mono h h3⟩
end
theorem aR.length:∀{xs:List CV} {ys:List AV},aR Z xs ys->ys.length=xs.length
 |[],_,h=>by simp only[aR]at h;simp[h]
 |_::_,_,h=>by simp only[aR]at h;obtain⟨y,r,rfl,_,h⟩:=h;simp[aR.length h]
theorem aR.nth:∀{xs:List CV} {ys:List AV} {n:Nat} {x:CV},aR Z xs ys->Bw.nth xs n=some x->∃y,Bw.nth ys n=some y/\aK Z x y
 |[],_,_,_,_,h=>by simp[Bw.nth]at h
 |y::_,ys,0,x,hr,h=>by
  simp only[aR]at hr;obtain⟨v,r,rfl,h1,_⟩:=hr;simp only[Bw.nth,aD]at h;subst h;exact⟨v,by simp[Bw.nth],h1⟩
 |_::xs,ys,n+1,x,hr,h=>by
  simp only[aR]at hr;obtain⟨v,r,rfl,_,h2⟩:=hr;simp only[Bw.nth]at h;obtain⟨u,h3,h4⟩:=aR.nth h2 h;exact⟨u,by simpa[Bw.nth]using h3,h4⟩
theorem aR.drop:∀(n:Nat) {xs:List CV} {ys:List AV},aR Z xs ys->aR Z (xs.drop n) (ys.drop n)
 |0,_,_,h=>by simpa using h
 |n+1,[],_,h=>by simp only[aR]at h;subst h;simp[aR]
 |n+1,_::_,_,h=>by simp only[aR]at h;obtain⟨v,r,rfl,_,h⟩:=h;simpa using aR.drop n h
theorem aR.take:∀(n:Nat) {xs:List CV} {ys:List AV},aR Z xs ys->aR Z (xs.take n) (ys.take n)
 |0,_,_,_=>by simp[aR]
 |n+1,[],_,h=>by simp only[aR]at h;subst h;simp[aR]
 |n+1,_::_,_,h=>by simp only[aR]at h;obtain⟨v,r,rfl,h1,h⟩:=h;simp only[xr,aR];exact⟨v,_,rfl,h1,aR.take n h⟩
theorem aR.append:∀{xs xs':List CV} {ys ys':List AV},aR Z xs ys->aR Z xs' ys'->aR Z (xs++xs') (ys++ys')
 |[],_,_,_,h,g=>by simp only[aR]at h;subst h;simpa using g
 |_::_,_,_,_,h,g=>by simp only[aR]at h;obtain⟨v,r,rfl,h1,h⟩:=h;simp only[jR,aR];exact⟨v,_,rfl,h1,aR.append h g⟩
theorem jb:∀(xs:List AV),aR Z (xs.map .d) xs
 |[]=>by simp[aR]
 |x::r=>by simp only[dj,aR,aK];exact⟨_,_,rfl,rfl,jb r⟩
def iG:List CV->Option (List AV)
 |[]=>some []
 | .d x::r=>match iG r with
  |some xs=>some (x::xs)
  |none=>none
 |_::_=>none
theorem pe:∀{xs:List CV} {ys zs:List AV},iG xs=some zs->aR Z xs ys->ys=zs
 |[],ys,zs,h,hr=>by simp only[iG,aD]at h;simp only[aR]at hr;rw[hr,<-h]
 |x::r,ys,zs,h,hr=>by
  cases x<;>simp only[iG]at h<;>try (cases h;done)
  split at h
  ·rename_i zs' h1;simp only[aD]at h;simp only[aR]at hr;obtain⟨v,r',rfl,h2,h3⟩:=hr;simp only[aK]at h2;rw[h2,pe h1 h3,h]
  ·cases h
def vG (xs:List CV):CV:=match iG xs with
 |some ys=> .d (.agg ys)
 |none=> .agg xs
theorem DZ {xs:List CV} {ys:List AV} (h:aR Z xs ys):aK Z (vG xs) (.agg ys):=by
 unfold vG;split
 ·rename_i zs hz;simp only[aK];rw[pe hz h]
 ·simp only[aK];exact⟨ys,rfl,h⟩
def J' (xs:List CV):CV:=match iG xs with
 |some ys=> .d (.bQ ys)
 |none=> .bQ xs
theorem Q2 {xs:List CV} {ys:List AV} (h:aR Z xs ys):aK Z (J' xs) (.bQ ys):=by
 unfold J';split
 ·rename_i zs hz;simp only[aK];rw[pe hz h]
 ·simp only[aK];exact⟨ys,rfl,h⟩
end
def Tr.put {D:Type}:Nat->Tr D->Nat->Option D->Tr D
 |0,_,_,_=> .lf
 |f+1,.lf,n,y=> @Bool.rec (λ_=>Tr D) (@Bool.rec (λ_=>Tr D) (.nd none .lf (Tr.put f .lf (Nat.pred (jk n)) y)) (.nd none (Tr.put f .lf (jk n) y) .lf) (Nat.beq (kH n) 1)) (.nd y .lf .lf) (Nat.beq n 0)
 |f+1,.nd x l r,n,y=> @Bool.rec (λ_=>Tr D) (@Bool.rec (λ_=>Tr D) (.nd x l (Tr.put f r (Nat.pred (jk n)) y)) (.nd x (Tr.put f l (jk n) y) r) (Nat.beq (kH n) 1)) (.nd y l r) (Nat.beq n 0)
theorem Tr.ag3 {D:Type} (t:Tr D) (n:Nat) (y:Option D):Tr.put 0 t n y= .lf:=rfl
theorem Tr.Fo {D:Type} (f n:Nat) (y:Option D):Tr.put (f+1) .lf n y=match Nat.beq n 0 with
  |true=> .nd y .lf .lf
  |false=>match Nat.beq (kH n) 1 with
   |true=> .nd none (Tr.put f .lf (jk n) y) .lf
   |false=> .nd none .lf (Tr.put f .lf (Nat.pred (jk n)) y):=by
 rw[Tr.put]
 all_goals cases Nat.beq n 0
 all_goals first|rfl|(cases Nat.beq (kH n) 1<;>rfl)
theorem Tr.Fp {D:Type} (f:Nat) (x:Option D) (l r:Tr D) (n:Nat) (y:Option D):Tr.put (f+1) (.nd x l r) n y=match Nat.beq n 0 with
  |true=> .nd y l r
  |false=>match Nat.beq (kH n) 1 with
   |true=> .nd x (Tr.put f l (jk n) y) r
   |false=> .nd x l (Tr.put f r (Nat.pred (jk n)) y):=by
 rw[Tr.put]
 all_goals cases Nat.beq n 0
 all_goals first|rfl|(cases Nat.beq (kH n) 1<;>rfl)
def Tr.cY {D R:Type}:Nat->Tr D->Nat->Option D->(Tr D->R)->R
 |0,_,_,_,k=>k .lf
 |f+1,.lf,n,y,k=> @Bool.rec (λ_=>R) (@Bool.rec (λ_=>R) (Tr.cY f .lf (Nat.pred (jk n)) y λr=>k (.nd none .lf r)) (Tr.cY f .lf (jk n) y λl=>k (.nd none l .lf)) (Nat.beq (kH n) 1)) (k (.nd y .lf .lf)) (Nat.beq n 0)
 |f+1,.nd x l r,n,y,k=> @Bool.rec (λ_=>R) (@Bool.rec (λ_=>R) (Tr.cY f r (Nat.pred (jk n)) y λr=>k (.nd x l r)) (Tr.cY f l (jk n) y λl=>k (.nd x l r)) (Nat.beq (kH n) 1)) (k (.nd y l r)) (Nat.beq n 0)
theorem Tr.ee {D R:Type}:∀(f:Nat) (t:Tr D) (n:Nat) (y:Option D) (k:Tr D->R),Tr.cY f t n y k=k (Tr.put f t n y)
 |0,_,_,_,_=>rfl
 |f+1,.lf,n,y,k=>by
  rw[Tr.Fo,Tr.cY];cases Nat.beq n 0 with
  |true=>rfl
  |false=>cases Nat.beq (kH n) 1<;>exact Tr.ee f _ _ _ _
 |f+1,.nd x l r,n,y,k=>by
  rw[Tr.Fp,Tr.cY];cases Nat.beq n 0 with
  |true=>rfl
  |false=>cases Nat.beq (kH n) 1<;>exact Tr.ee f _ _ _ _
theorem iB {n m:Nat} (h:Nat.beq n m=false):n≠m:=λe=>by subst e;rw[Dr]at h;cases h
theorem Tr.put_comm {D:Type}:∀(f:Nat) (t:Tr D) (n m:Nat) (y z:Option D),n≠m->Tr.put f (Tr.put f t n y) m z=Tr.put f (Tr.put f t m z) n y
 |0,_,_,_,_,_,_=>rfl
 |f+1,t,n,m,y,z,hne=>by
  have ih:=λ(t:Tr D) (n m:Nat) (y z:Option D) (h:n≠m)=>Tr.put_comm f t n m y z h;have hL:∀n m:Nat,n≠m->Nat.beq n 0=false->Nat.beq m 0=false->Nat.beq (Nat.mod n 2) 1=true->Nat.beq (Nat.mod m 2) 1=true->Nat.div n 2≠Nat.div m 2:=by
   intro n m h h1 h2 h3 h4;have h3:=bK h3;have h4:=bK h4;change n%2=1 at h3;change m%2=1 at h4;change ¬n/2=m/2;omega
  have hR:∀n m:Nat,n≠m->Nat.beq n 0=false->Nat.beq m 0=false->Nat.beq (Nat.mod n 2) 1=false->Nat.beq (Nat.mod m 2) 1=false->Nat.pred (Nat.div n 2)≠Nat.pred (Nat.div m 2):=by
   intro n m h h1 h2 h3 h4;have h1:=iB h1;have h2:=iB h2;have h3:=iB h3;have h4:=iB h4;change ¬n%2=1 at h3;change ¬m%2=1 at h4;change ¬n/2-1=m/2-1;omega
  cases h1:Nat.beq n 0<;>cases h2:Nat.beq m 0<;>cases h3:Nat.beq (Nat.mod n 2) 1<;>cases h4:Nat.beq (Nat.mod m 2) 1<;>cases t<;>simp only[Tr.Fo,Tr.Fp,mn,mo,h1,h2,h3,h4]<;>
   first
   |(rw[ih _ _ _ _ _ (hL n m hne h1 h2 h3 h4)];done)
   |(rw[ih _ _ _ _ _ (hR n m hne h1 h2 h3 h4)];done)
   |(exact absurd ((bK h1).trans (bK h2).symm) hne)
   |skip
theorem Tr.fi {D:Type}:∀(f:Nat) (t:Tr D) (n m:Nat) (y:Option D) (z:D),(Tr.put f t n y).get m=some z->(m=n/\y=some z)\/(m≠n/\t.get m=some z)
 |0,_,_,_,_,_,h=>by simp[Tr.ag3,Tr.kY]at h
 |f+1,.lf,n,m,y,z,h=>by
  simp only[Tr.Fo,Tr.Fp,mn,mo]at h;cases h0:Nat.beq n 0 with
  |true=>
   have:=bK h0;subst this;rw[h0]at h;simp only[Tr.pP,mn,mo]at h;cases hm:Nat.beq m 0 with
   |true=>rw[hm]at h;exact .inl ⟨bK hm,h⟩
   |false=>rw[hm]at h;simp only at h;cases hb:Nat.beq (Nat.mod m 2) 1<;>rw[hb]at h<;>cases h
  |false=>
   have hn:=iB h0;rw[h0]at h;simp only at h;cases h1:Nat.beq (Nat.mod n 2) 1 with
   |true=>
    rw[h1]at h;have h1:=bK h1;simp only[Tr.pP,mn,mo]at h;cases hm:Nat.beq m 0 with
    |true=>rw[hm]at h;cases h
    |false=>
     have hm:=iB hm;simp only[‹Nat.beq m 0=false›]at h;cases hb:Nat.beq (Nat.mod m 2) 1 with
     |true=>
      rw[hb]at h;have hb:=bK hb;rcases Tr.fi f .lf _ _ y z h with⟨h2,h3⟩|⟨_,h3⟩
      ·refine .inl ⟨?_,h3⟩;change n%2=1 at h1;change m%2=1 at hb;change m/2=n/2 at h2;omega
      ·simp[Tr.kY]at h3
     |false=>rw[hb]at h;cases h
   |false=>
    rw[h1]at h;have h1:=iB h1;simp only[Tr.pP,mn,mo]at h;cases hm:Nat.beq m 0 with
    |true=>rw[hm]at h;cases h
    |false=>
     have hm:=iB hm;simp only[‹Nat.beq m 0=false›]at h;cases hb:Nat.beq (Nat.mod m 2) 1 with
     |true=>rw[hb]at h;cases h
     |false=>
      rw[hb]at h;have hb:=iB hb;rcases Tr.fi f .lf _ _ y z h with⟨h2,h3⟩|⟨_,h3⟩
      ·refine .inl ⟨?_,h3⟩;change ¬n%2=1 at h1;change ¬m%2=1 at hb;change m/2-1=n/2-1 at h2;omega
      ·simp[Tr.kY]at h3
 |f+1,.nd x l r,n,m,y,z,h=>by
  simp only[Tr.Fo,Tr.Fp,mn,mo]at h;cases h0:Nat.beq n 0 with
  |true=>
   have:=bK h0;subst this;rw[h0]at h;simp only[Tr.pP,mn,mo]at h⊢;cases hm:Nat.beq m 0 with
   |true=>rw[hm]at h;exact .inl ⟨bK hm,h⟩
   |false=>rw[hm]at h;exact .inr ⟨iB hm,h⟩
  |false=>
   have hn:=iB h0;rw[h0]at h;simp only at h;cases h1:Nat.beq (Nat.mod n 2) 1 with
   |true=>
    rw[h1]at h;have h1:=bK h1;simp only[Tr.pP,mn,mo]at h⊢;cases hm:Nat.beq m 0 with
    |true=>rw[hm]at h;exact .inr ⟨λe=>hn (by rw[<-e];exact bK hm),h⟩
    |false=>
     rw[hm]at h;simp only at h⊢;have hm:=iB hm;cases hb:Nat.beq (Nat.mod m 2) 1 with
     |true=>
      rw[hb]at h;have hb:=bK hb;change n%2=1 at h1;change m%2=1 at hb;rcases Tr.fi f l _ _ y z h with⟨h2,h3⟩|⟨h2,h3⟩
      ·refine .inl ⟨?_,h3⟩;change m/2=n/2 at h2;omega
      ·refine .inr ⟨?_,h3⟩;change ¬m/2=n/2 at h2;omega
     |false=>
      rw[hb]at h;have hb:=iB hb;change n%2=1 at h1;change ¬m%2=1 at hb;exact .inr ⟨by omega,h⟩
   |false=>
    rw[h1]at h;have h1:=iB h1;simp only[Tr.pP,mn,mo]at h⊢;cases hm:Nat.beq m 0 with
    |true=>rw[hm]at h;exact .inr ⟨λe=>hn (by rw[<-e];exact bK hm),h⟩
    |false=>
     rw[hm]at h;simp only at h⊢;have hm:=iB hm;cases hb:Nat.beq (Nat.mod m 2) 1 with
     |true=>
      rw[hb]at h;have hb:=bK hb;change ¬n%2=1 at h1;change m%2=1 at hb;exact .inr ⟨by omega,h⟩
     |false=>
      rw[hb]at h;have hb:=iB hb;change ¬n%2=1 at h1;change ¬m%2=1 at hb;rcases Tr.fi f r _ _ y z h with⟨h2,h3⟩|⟨h2,h3⟩
      ·refine .inl ⟨?_,h3⟩;change m/2-1=n/2-1 at h2;omega
      ·refine .inr ⟨?_,h3⟩;change ¬m/2-1=n/2-1 at h2;omega
abbrev TS:=Tr CV
inductive bz where
 |box (cs:List CV)
 |row (e k:Nat) (rows:List (List AV))
 |map (es:List (Value×CV))
 |l8 (cs:List AV)
 |ju (k:Nat) (rows:List (List AV))
 |set (l:List (List UInt8))
 |kF (l:List Int)
 |gone
structure Hp where
 e:Tr bz
 n:Nat
def kC (Z:aN):List (Value×CV)->List (Value×AV)->Prop
 |[],ys=>ys=[]
 |x::xs,ys=>∃y r,ys=y::r/\y.1=x.1/\aK Z x.2 y.2/\kC Z xs r
theorem kC.mono {Z Z':aN} (h:Z.le Z'):∀{xs:List (Value×CV)} {ys:List (Value×AV)},kC Z xs ys->kC Z' xs ys
 |[],_,h1=>by simp only[kC]at h1⊢;exact h1
 |_::_,_,h1=>by simp only[kC]at h1⊢;obtain⟨y,r,e,h2,h3,h4⟩:=h1;exact⟨y,r,e,h2,h3.mono h,kC.mono h h4⟩
def ji (l:List (List UInt8)):List (Value×AV):=l.map λs=>(.string ⟨⟨s⟩⟩,.v (.bool true))
def rQ (l:List Int):List (Value×AV):=l.map λn=>(.int .i64 n,.v (.bool true))
def mE (Z:aN) (i:Nat):bz->aw->Prop
 | .box cs,y=>∃b cs',Z.b i=some b/\y= .box b cs'/\aR Z cs cs'
 | .row e k rows,y=>(∃a c,Z.s i rows.length=some (a,c)/\y= .row (.slice a rows.length c) e k rows)/\∀m,rows.length<m->Z.s i m=none
 | .map es,y=>∃b es',Z.b i=some b/\y= .map b es'/\kC Z es es'
 | .l8 cs,y=>∃b,Z.b i=some b/\y= .fact (.ip cs) (.pointer (some ⟨b,0,none⟩))
 | .ju k rows,y=>∃a c,Z.s i rows.length=some (a,c)/\y= .fact (.sl k rows) (.slice a rows.length c)
 | .set l,y=>∃b,Z.b i=some b/\y= .map b (ji l)
 | .kF l,y=>∃b,Z.b i=some b/\y= .map b (rQ l)
 | .gone,_=>True
theorem mE.mono {Z Z':aN} (h:Z.le Z') {i:Nat} (hi:Z'.s i=Z.s i) {x:bz} {y:aw} (hx:mE Z i x y):mE Z' i x y:=by
 cases x with
 |box cs=>obtain⟨b,cs',h1,h2,h3⟩:=hx;exact⟨b,cs',h.1 _ _ h1,h2,h3.mono h⟩
 |row e k rows=>obtain⟨⟨a,c,h1,h2⟩,h3⟩:=hx;exact⟨⟨a,c,by rw[hi];exact h1,h2⟩,λm hm=>by rw[hi];exact h3 m hm⟩
 |map es=>obtain⟨b,es',h1,h2,h3⟩:=hx;exact⟨b,es',h.1 _ _ h1,h2,h3.mono h⟩
 |l8 cs=>obtain⟨b,h1,h2⟩:=hx;exact⟨b,h.1 _ _ h1,h2⟩
 |ju k rows=>obtain⟨a,c,h1,h2⟩:=hx;exact⟨a,c,h.2 _ _ _ h1,h2⟩
 |set l=>obtain⟨b,h1,h2⟩:=hx;exact⟨b,h.1 _ _ h1,h2⟩
 |kF l=>obtain⟨b,h1,h2⟩:=hx;exact⟨b,h.1 _ _ h1,h2⟩
 |gone=>trivial
def SS (Z:aN) (O:TS) (s:Sl):Prop:=∀t x,O.get t=some x->∃y,s t=some y/\aK Z x y
theorem SS.mono {Z Z':aN} (h:Z.le Z') {O:TS} {s:Sl} (hs:SS Z O s):SS Z' O s:=λt x hx=>by
 obtain⟨y,h1,h2⟩:=hs t x hx;exact⟨y,h1,h2.mono h⟩
structure HS (Z:aN) (L:Hp) (LB:List aw):Prop where
 en:∀i x,L.e.get i=some x->∃y,nth LB i=some y/\mE Z i x y
 len:LB.length=L.n
 iJ:∀t,L.n<=t->Z.b t=none/\∀n,Z.s t n=none
def cj (O:TS) (dst:Option Nat) (x:CV):TS:=match dst with
 |some d=>Tr.put 24 O d (some x)
 |none=>O
theorem SS.put {Z:aN} {O:TS} {OB:Sg} (h:SS Z O (look OB)) (dst:Option Nat) {x:CV} {y:AV} (hx:aK Z x y):SS Z (cj O dst x) (look (lX dst y OB)):=by
 cases dst with
 |none=>exact h
 |some d=>
  intro t z hz;rcases Tr.fi 24 O d t (some x) z hz with⟨rfl,h1⟩|⟨hne,h1⟩
  ·cases h1;exact⟨y,by simp[lX,look],hx⟩
  ·obtain⟨u,h2,h3⟩:=h t z h1;refine⟨u,?_,h3⟩;have:Nat.beq d t=false:=by cases hb:Nat.beq d t with
    |false=>rfl
    |true=>exact absurd (bK hb).symm hne
   simp only[lX,look,this];exact h2
inductive DE where
 |norm
 |exit (id:Nat)
 |ret
 |aS (x:CV)
def DE.inst (Z:aN):DE->AE->Prop
 | .norm,e=>e= .norm
 | .exit i,e=>e= .exit i
 | .ret,e=>e= .ret
 | .aS x,e=>∃y,e= .aS y/\aK Z x y
abbrev DQ:=DE->TS->Hp->Prop
def aN.iS (K:Nat) (Z Z':aN):Prop:=∀t,t<K->(∀x,Z.b t=some x->Z'.b t=some x)/\∀n x,Z.s t n=some x->Z'.s t n=some x
theorem aN.iS.refl (K:Nat) (Z:aN):aN.iS K Z Z:=λ_ _=>⟨λ_ h=>h,λ_ _ h=>h⟩
theorem aN.iS.trans {K:Nat} {Z Z' Z'':aN} (h:aN.iS K Z Z') (g:aN.iS K Z' Z''):aN.iS K Z Z'':=λt ht=>⟨λx hx=>(g t ht).1 x ((h t ht).1 x hx),λn x hx=>(g t ht).2 n x ((h t ht).2 n x hx)⟩
theorem aN.le.toK {Z Z':aN} (h:Z.le Z') (K:Nat):aN.iS K Z Z':=λt _=>⟨h.1 t,h.2 t⟩
def lift (K:Nat) (Z:aN) (Q:DQ):AQ:=λe OB LB=>∃Z' d O L,aN.iS K Z Z'/\DE.inst Z' d e/\SS Z' O (look OB)/\HS Z' L LB/\Q d O L
theorem qP {K:Nat} {Z Z':aN} (h:aN.iS K Z Z') {Q Q':DQ} (hq:∀e O L,Q e O L->Q' e O L) {e:AE} {OB:Sg} {LB:List aw} (hl:lift K Z' Q e OB LB):lift K Z Q' e OB LB:=by
 obtain⟨Z1,d,O,L,h1,h2,h3,h4,h5⟩:=hl;exact⟨Z1,d,O,L,h.trans h1,h2,h3,h4,hq _ _ _ h5⟩
def DC (E:Env) (N K:Nat) (c:Code) (Q:DQ) (O:TS) (L:Hp):Prop:=∀Z OB LB,SS Z O (look OB)->HS Z L LB->b7 E.toCx N c (lift K Z Q) OB LB
def DO (E:Env) (N K:Nat) (all rest:List Oper) (Q:DQ) (O:TS) (L:Hp):Prop:=∀Z OB LB,SS Z O (look OB)->HS Z L LB->bX E.toCx N all.toArray rest (lift K Z Q) OB LB
abbrev DE.then (next:TS->Hp->Prop) (Q:DQ):DQ:=λe O L=>match e with
 | .norm=>next O L
 | .exit i=>Q (.exit i) O L
 | .ret=>Q .ret O L
 | .aS x=>Q (.aS x) O L
abbrev DE.inBlock (id:Nat) (Q:DQ):DQ:=λe O L=>match e with
 | .norm=>Q .norm O L
 | .exit i=>match Nat.beq i id with
  |true=>Q .norm O L
  |false=>Q (.exit i) O L
 | .ret=>Q .ret O L
 | .aS x=>Q (.aS x) O L
section
variable {E:Env} {N K:Nat} {Q:DQ} {O:TS} {L:Hp}
theorem tj {Z:aN} {d:DE} {e:AE} {OB:Sg} {LB:List aw} (h:DE.inst Z d e) (hs:SS Z O (look OB)) (hh:HS Z L LB) (hq:Q d O L):lift K Z Q e OB LB:=⟨Z,d,O,L,.refl K Z,h,hs,hh,hq⟩
theorem DC.skip (h:Q .norm O L):DC E N K .skip Q O L:=λZ OB LB hs hh=>b7.skip (tj (d:= .norm) rfl hs hh h)
theorem DC.exit {id:Nat} (h:Q (.exit id) O L):DC E N K (.exit id) Q O L:=λZ OB LB hs hh=>b7.exit (tj (d:= .exit id) rfl hs hh h)
theorem DC.ret (h:Q .ret O L):DC E N K .ret Q O L:=λZ OB LB hs hh=>b7.ret (tj (d:= .ret) rfl hs hh h)
theorem DC.label {l:Nat} (h:Q .norm O L):DC E N K (.label l) Q O L:=λZ OB LB hs hh=>b7.label (tj (d:= .norm) rfl hs hh h)
theorem DC.mono {c:Code} {Q':DQ} (h:DC E N K c Q O L) (hq:∀e O L,Q e O L->Q' e O L):DC E N K c Q' O L:=λZ OB LB hs hh=>
 b7.mono (h Z OB LB hs hh) λ_ _ _ hl=>qP (.refl K Z) hq hl
theorem DC.seq {x y:Code} (h:DC E N K x (DE.then (DC E N K y Q) Q) O L):DC E N K (.seq x y) Q O L:=λZ OB LB hs hh=>by
 refine b7.seq (b7.mono (h Z OB LB hs hh) ?_);rintro e OB' LB' ⟨Z',d,O',L',h1,h2,h3,h4,h5⟩;cases d with
 |norm=>simp only[DE.inst]at h2;subst h2;exact b7.mono (h5 Z' OB' LB' h3 h4) λ_ _ _ hl=>qP h1 (λ_ _ _ h=>h) hl
 |exit i=>simp only[DE.inst]at h2;subst h2;exact⟨Z',.exit i,O',L',h1,rfl,h3,h4,h5⟩
 |ret=>simp only[DE.inst]at h2;subst h2;exact⟨Z',.ret,O',L',h1,rfl,h3,h4,h5⟩
 |aS x=>obtain⟨y,rfl,h2⟩:=h2;exact⟨Z',.aS x,O',L',h1,⟨y,rfl,h2⟩,h3,h4,h5⟩
theorem DC.block {id:Nat} {c:Code} (h:DC E N K c (DE.inBlock id Q) O L):DC E N K (.block id c) Q O L:=λZ OB LB hs hh=>by
 refine b7.block (b7.mono (h Z OB LB hs hh) ?_);rintro e OB' LB' ⟨Z',d,O',L',h1,h2,h3,h4,h5⟩;cases d with
 |norm=>simp only[DE.inst]at h2;subst h2;exact⟨Z',.norm,O',L',h1,rfl,h3,h4,h5⟩
 |exit i=>
  simp only[DE.inst]at h2;subst h2;simp only[DE.inBlock]at h5;simp only[AE.inBlock];cases hb:Nat.beq i id with
  |true=>rw[hb]at h5;exact⟨Z',.norm,O',L',h1,rfl,h3,h4,h5⟩
  |false=>rw[hb]at h5;exact⟨Z',.exit i,O',L',h1,rfl,h3,h4,h5⟩
 |ret=>simp only[DE.inst]at h2;subst h2;exact⟨Z',.ret,O',L',h1,rfl,h3,h4,h5⟩
 |aS x=>obtain⟨y,rfl,h2⟩:=h2;exact⟨Z',.aS x,O',L',h1,⟨y,rfl,h2⟩,h3,h4,h5⟩
theorem DC.region {id:Nat} {l:List Oper} (h:DO E N K l l Q O L):DC E N K (.region id l.toArray false) Q O L:=λZ OB LB hs hh=>b7.region (h Z OB LB hs hh)
theorem DO.nil {all:List Oper} (h:Q .norm O L):DO E N K all [] Q O L:=λZ OB LB hs hh=>bX.nil (tj (d:= .norm) rfl hs hh h)
def aX (O:TS):Operand->Option CV
 | .tmp t=>O.get t
 | .const v=>some (.d (.v v))
 | .global g=>some (.d (.v (.pointer (some ⟨g,0,none⟩))))
 | .func f=>some (.d (.v (.func (.func f) #[] #[])))
theorem cg {Z:aN} {s:Sl} (hs:SS Z O s) {o:Operand} {x:CV} (h:aX O o=some x):∃y,ev s o=some y/\aK Z x y:=by
 cases o with
 |tmp t=>exact hs t x h
 |const v=>simp only[aX,aD]at h;subst h;exact⟨_,rfl,rfl⟩
 |global g=>simp only[aX,aD]at h;subst h;exact⟨_,rfl,rfl⟩
 |func f=>simp only[aX,aD]at h;subst h;exact⟨_,rfl,rfl⟩
theorem DC.cond {c:Operand} {x y:Code} {t:Bool} (hc:aX O c=some (.d (.v (.bool t)))) (h1:t=true->DC E N K x Q O L) (h2:t=false->DC E N K y Q O L):DC E N K (.cond c x y) Q O L:=
 λZ OB LB hs hh=>by
  obtain⟨z,h3,h4⟩:=cg hs hc;simp only[aK]at h4;subst h4;exact b7.cond h3 (λht=>h1 ht Z OB LB hs hh) (λht=>h2 ht Z OB LB hs hh)
theorem DC.agW {c:Nat} {x y:Code} {t:Bool} (hc:O.get c=some (.d (.v (.bool t)))) (h1:t=true->DC E N K x Q (Tr.put 24 O c (some (.d (.v (.bool true))))) L)
  (h2:t=false->DC E N K y Q (Tr.put 24 O c (some (.d (.v (.bool false))))) L):DC E N K (.cond (.tmp c) x y) Q O L:=by
 refine DC.cond hc (λht=>?_) (λht=>?_)
 all_goals
  subst ht;intro Z OB LB hs hh
  first|refine h1 rfl Z OB LB ?_ hh|refine h2 rfl Z OB LB ?_ hh
  intro u z hz;rcases Tr.fi 24 O c u _ z hz with⟨rfl,h3⟩|⟨_,h3⟩
  ·cases h3;exact hs _ _ hc
  ·exact hs _ _ h3
theorem DO.agL {all rest:List Oper} {O':TS} (hw:∀Z s,SS Z O s->SS Z O' s) (h:DO E N K all rest Q O' L):DO E N K all rest Q O L:=λZ OB LB hs hh=>h Z OB LB (hw Z _ hs) hh
mutual
def kM (m:Nat):CV->Bool
 | .d _=>true
 | .agg xs=>qk m xs
 | .bQ xs=>qk m xs
 | .own t _=>Nat.blt t m
 | .os t _=>Nat.blt t m
 | .oe t _ _=>Nat.blt t m
 | .om t=>Nat.blt t m
 | .fn _ fs cs=>match qk m fs with
  |true=>qk m cs
  |false=>false
 | .bJ _ x=>kM m x
def qk (m:Nat):List CV->Bool
 |[]=>true
 |x::r=>match kM m x with
  |true=>qk m r
  |false=>false
end
def OA (m:Nat):bz->Bool
 | .box cs=>qk m cs
 | .map es=>es.all λp=>kM m p.2
 |_=>true
def aN.cut (Z:aN) (m:Nat):aN:=⟨λt=>if t<m then Z.b t else none,λt n=>if t<m then Z.s t n else none⟩
mutual
theorem aK.cut {Z:aN} {m:Nat}:∀{x:CV} {y:AV},kM m x=true->aK Z x y->aK (Z.cut m) x y
 | .d x,_,_,h1=>by simp only[aK]at h1⊢;exact h1
 | .agg xs,_,h,h1=>by simp only[aK]at h1⊢;obtain⟨ys,e,h2⟩:=h1;exact⟨ys,e,aR.cut (by simpa[kM]using h) h2⟩
 | .bQ xs,_,h,h1=>by simp only[aK]at h1⊢;obtain⟨ys,e,h2⟩:=h1;exact⟨ys,e,aR.cut (by simpa[kM]using h) h2⟩
 | .own t o,_,h,h1=>by simp only[aK]at h1⊢;obtain⟨b,t',e,h2⟩:=h1;exact⟨b,t',by simp only[kM,mf]at h;simp[aN.cut,h,e],h2⟩
 | .os t n,_,h,h1=>by simp only[aK]at h1⊢;obtain⟨a,c,t',e,h2⟩:=h1;exact⟨a,c,t',by simp only[kM,mf]at h;simp[aN.cut,h,e],h2⟩
 | .oe t n o,_,h,h1=>by simp only[aK]at h1⊢;obtain⟨a,c,t',e,h2⟩:=h1;exact⟨a,c,t',by simp only[kM,mf]at h;simp[aN.cut,h,e],h2⟩
 | .om t,_,h,h1=>by simp only[aK]at h1⊢;obtain⟨b,t',e,h2⟩:=h1;exact⟨b,t',by simp only[kM,mf]at h;simp[aN.cut,h,e],h2⟩
 | .fn f fs cs,_,h,h1=>by
  simp only[kM]at h;split at h
  ·rename_i h0;simp only[aK]at h1⊢;obtain⟨us,vs,e,h2,h3⟩:=h1;exact⟨us,vs,e,aR.cut h0 h2,aR.cut h h3⟩
  ·cases h
 | .bJ t x,_,h,h1=>by simp only[aK]at h1⊢;obtain⟨u,e,h2⟩:=h1;exact⟨u,e,aK.cut (by simpa[kM]using h) h2⟩
theorem aR.cut {Z:aN} {m:Nat}:∀{x:List CV} {y:List AV},qk m x=true->aR Z x y->aR (Z.cut m) x y
 |[],_,_,h1=>by simp only[aR]at h1⊢;exact h1
 |_::_,_,h,h1=>by
  simp only[qk]at h;split at h
  ·rename_i h0;simp only[aR]at h1⊢;obtain⟨y,r,e,h2,h3⟩:=h1;exact⟨y,r,e,aK.cut h0 h2,aR.cut h h3⟩
  ·cases h
end
theorem kC.cut {Z:aN} {m:Nat}:∀{xs:List (Value×CV)} {ys:List (Value×AV)},(xs.all λp=>kM m p.2)=true->kC Z xs ys->kC (Z.cut m) xs ys
 |[],_,_,h1=>by simp only[kC]at h1⊢;exact h1
 |_::_,_,h,h1=>by
  simp only[kP,bN]at h;simp only[kC]at h1⊢;obtain⟨y,r,e,h2,h3,h4⟩:=h1;exact⟨y,r,e,h2,h3.cut h.1,kC.cut h.2 h4⟩
theorem mE.cut {Z:aN} {m i:Nat} (hi:i<m) {x:bz} {y:aw} (hb:OA m x=true) (hx:mE Z i x y):mE (Z.cut m) i x y:=by
 have h1:(Z.cut m).b i=Z.b i:=by simp[aN.cut,hi]
 have h2:∀n,(Z.cut m).s i n=Z.s i n:=λn=>by simp[aN.cut,hi]
 cases x with
 |box cs=>obtain⟨b,cs',h3,h4,h5⟩:=hx;exact⟨b,cs',h1.trans h3,h4,h5.cut hb⟩
 |row e k rows=>obtain⟨⟨a,c,h3,h4⟩,h5⟩:=hx;exact⟨⟨a,c,(h2 _).trans h3,h4⟩,λn hn=>(h2 n).trans (h5 n hn)⟩
 |map es=>obtain⟨b,es',h3,h4,h5⟩:=hx;exact⟨b,es',h1.trans h3,h4,h5.cut hb⟩
 |l8 cs=>obtain⟨b,h3,h4⟩:=hx;exact⟨b,h1.trans h3,h4⟩
 |ju k rows=>obtain⟨a,c,h3,h4⟩:=hx;exact⟨a,c,(h2 _).trans h3,h4⟩
 |set l=>obtain⟨b,h3,h4⟩:=hx;exact⟨b,h1.trans h3,h4⟩
 |kF l=>obtain⟨b,h3,h4⟩:=hx;exact⟨b,h1.trans h3,h4⟩
 |gone=>trivial
def fO (m:Nat):List Nat->TS->Option (List (Nat×CV))
 |[],_=>some []
 |t::ts,O=>match O.get t,fO m ts O with
  |some x,some r=>match kM m x with
   |true=>some ((t,x)::r)
   |false=>none
  |_,_=>none
def qx:List (Nat×CV)->TS
 |[]=> .lf
 |(t,x)::r=>Tr.put 24 (qx r) t (some x)
theorem Iz {Z:aN} {m:Nat} {s:Sl} (hs:SS Z O s):∀{ts:List Nat} {l:List (Nat×CV)},fO m ts O=some l->SS (Z.cut m) (qx l) s
 |[],_,h=>by simp only[fO,aD]at h;subst h;intro t x hx;simp[qx,Tr.kY]at hx
 |t::ts,l,h=>by
  simp only[fO]at h;split at h
  ·rename_i x r h1 h2;split at h
   ·rename_i h0;simp only[aD]at h;subst h;intro u z hz;rcases Tr.fi 24 _ t u _ z hz with⟨rfl,h3⟩|⟨_,h3⟩
    ·cases h3;obtain⟨y,h4,h5⟩:=hs _ _ h1;exact⟨y,h4,h5.cut h0⟩
    ·exact Iz hs h2 u z h3
   ·cases h
  ·cases h
def zT (m:Nat) (e:Tr bz):Nat->Option (List bz)
 |0=>some []
 |i+1=>match zT m e i,e.get i with
  |some l,some x=>match OA m x with
   |true=>some (l++[x])
   |false=>none
  |some l,none=>some (l++[.gone])
  |none,_=>none
def mH (m:Nat) (L:Hp):Option (List bz):=zT m L.e m
def qw:Nat->List bz->Tr bz
 |_,[]=> .lf
 |i,x::r=>Tr.put 24 (qw (i+1) r) i (some x)
def jq (l:List bz):Hp:=⟨qw 0 l,l.length⟩
theorem TQ:∀{l:List bz} {i j:Nat} {x:bz},(qw i l).get j=some x->i<=j/\l[j-i]? =some x
 |[],i,j,x,h=>by simp[qw,Tr.kY]at h
 |y::r,i,j,x,h=>by
  simp only[qw]at h;rcases Tr.fi 24 _ i j _ x h with⟨rfl,h1⟩|⟨hne,h1⟩
  ·cases h1;simp
  ·obtain⟨h2,h3⟩:=TQ h1;refine⟨by omega,?_⟩;rw[show j-i=(j-(i+1))+1 by omega];simpa using h3
theorem DU {m:Nat} {e:Tr bz}:∀{n:Nat} {l:List bz},zT m e n=some l->l.length=n/\∀i x,l[i]? =some x->x= .gone\/(e.get i=some x/\OA m x=true)
 |0,l,h=>by simp only[zT,aD]at h;subst h;simp
 |n+1,l,h=>by
  simp only[zT]at h;split at h
  ·rename_i l' x h1 h2;split at h
   ·rename_i h0;simp only[aD]at h;subst h;obtain⟨h3,h4⟩:=DU h1;refine⟨by simp[h3],λi y hy=>?_⟩;rw[anK]at hy;split at hy
    ·exact h4 i y hy
    ·rename_i hi;rw[anL]at hy;split at hy
     ·cases hy;right;rw[<-h2];exact⟨by congr 1;omega,h0⟩
     ·cases hy
   ·cases h
  ·rename_i l' h1 h2;simp only[aD]at h;subst h;obtain⟨h3,h4⟩:=DU h1;refine⟨by simp[h3],λi y hy=>?_⟩;rw[anK]at hy;split at hy
   ·exact h4 i y hy
   ·rw[anL]at hy;split at hy
    ·cases hy;exact .inl rfl
    ·cases hy
  ·cases h
theorem Sx {Z:aN} {m:Nat} {LB:List aw} (hh:HS Z L LB) (hm:m<=L.n) {l:List bz} (h:mH m L=some l):HS (Z.cut m) (jq l) (LB.take m):=by
 obtain⟨h1,h2⟩:=DU h;refine⟨λi x hx=>?_,by simp[jq,h1,hh.len,hm],λt ht=>?_⟩
 ·obtain⟨_,h3⟩:=TQ hx;simp only[aan]at h3;have hi:i<m:=by rw[<-h1];exact(cr.1 h3).1
  have hlt:i<LB.length:=by rw[hh.len];omega
  have hn:nth (LB.take m) i=nth LB i:=by rw[cG,cG,fI,bf hi]
  rw[hn];rcases h2 i x h3 with rfl|⟨h4,h5⟩
  ·exact⟨LB[i],by rw[cG];simp[hlt],trivial⟩
  ·obtain⟨y,h6,h7⟩:=hh.en i x h4;exact⟨y,h6,h7.cut hi h5⟩
 ·have:¬t<m:=by simp only[jq,h1]at ht;omega
  simp[aN.cut,this]
theorem aN.TR {Z:aN} {m:Nat} (hm:K<=m):aN.iS K Z (Z.cut m):=λt ht=>by
 have:t<m:=by omega
 simp[aN.cut,this]
theorem DC.loop {c:Code} (ts:List Nat) (m:Nat) (I:Nat->List (Nat×CV)->List bz->Prop) (n:Nat) (hK:K<=m) {l:List (Nat×CV)} {es:List bz} (hm:m<=L.n) (hp:fO m ts O=some l) (he:mH m L=some es) (h0:I n l es)
  (round:∀n l es,I n l es->DC E N K c (DE.then (λO1 L1=>∃n',n'<n/\∃l' es',m<=L1.n/\fO m ts O1=some l'/\mH m L1=some es'/\I n' l' es') Q) (qx l) (jq es)):DC E N K (.loop c) Q O L:=λZ OB LB hs hh=>by
 refine b7.loop (λn OB LB=>∃Z1 l es,aN.iS K Z Z1/\SS Z1 (qx l) (look OB)/\HS Z1 (jq es) (LB.take m)/\I n l es) n ⟨Z.cut m,l,es,aN.TR hK,Iz hs hp,Sx hh hm he,h0⟩ ?_;rintro n OB1 LB1 ⟨Z1,l1,es1,h1,h2,h3,h4⟩;refine b7.ln (eZ.sub (List.take_sublist m LB1)) (b7.mono (round n l1 es1 h4 Z1 OB1 _ h2 h3) ?_);rintro e OB2 LB2 ⟨Z2,d,O2,L2,g1,g2,g3,g4,g5⟩;cases d with
 |norm=>
  simp only[DE.inst]at g2;subst g2;obtain⟨n',hn,l',es',q1,q2,q3,q4⟩:=g5;exact⟨n',hn,Z2.cut m,l',es',(h1.trans g1).trans (aN.TR hK),Iz g3 q2,Sx g4 q1 q3,q4⟩
 |exit i=>simp only[DE.inst]at g2;subst g2;exact⟨Z2,.exit i,O2,L2,h1.trans g1,rfl,g3,g4,g5⟩
 |ret=>simp only[DE.inst]at g2;subst g2;exact⟨Z2,.ret,O2,L2,h1.trans g1,rfl,g3,g4,g5⟩
 |aS x=>obtain⟨y,rfl,g2⟩:=g2;exact⟨Z2,.aS x,O2,L2,h1.trans g1,⟨y,rfl,g2⟩,g3,g4,g5⟩
def pw (E:Env) (N K:Nat) (c:Code) (Q:DQ):Nat->TS->Hp->Prop
 |0=>λ_ _=>False
 |n+1=>DC E N K c (DE.then (pw E N K c Q n) Q)
theorem DC.rounds {c:Code} (n:Nat) (h:pw E N K c Q n O L):DC E N K (.loop c) Q O L:=λZ OB LB hs hh=>by
 refine b7.rounds n ?_;have key:∀n Z1 O L OB LB,aN.iS K Z Z1->SS Z1 O (look OB)->HS Z1 L LB->pw E N K c Q n O L->EO E.toCx N c (lift K Z Q) n OB LB:=by
  intro n
  induction n with
  |zero=>intro Z1 O L OB LB _ _ _ h;exact h.elim
  |succ n ih=>
   intro Z1 O L OB LB h1 h2 h3 h4;refine b7.mono (h4 Z1 OB LB h2 h3) ?_;rintro e OB2 LB2 ⟨Z2,d,O2,L2,g1,g2,g3,g4,g5⟩;cases d with
   |norm=>simp only[DE.inst]at g2;subst g2;exact ih Z2 O2 L2 _ _ (h1.trans g1) g3 g4 g5
   |exit i=>simp only[DE.inst]at g2;subst g2;exact⟨Z2,.exit i,O2,L2,h1.trans g1,rfl,g3,g4,g5⟩
   |ret=>simp only[DE.inst]at g2;subst g2;exact⟨Z2,.ret,O2,L2,h1.trans g1,rfl,g3,g4,g5⟩
   |aS x=>obtain⟨y,rfl,g2⟩:=g2;exact⟨Z2,.aS x,O2,L2,h1.trans g1,⟨y,rfl,g2⟩,g3,g4,g5⟩
 exact key n Z O L OB LB (.refl K Z) hs hh h
end
theorem bZ.mono {C:Cx} {N:Nat} {o:Oper} {s s':Sl} {L:List aw} {x:AV} (h:bZ C N o s L x) (hs:∀t∈tmpsOf o,∀y,s t=some y->s' t=some y):bZ C N o s' L x:=
 λF w a h1 h2 h3 h4=>h F w a h1 h2 h3 λt ht y hy=>h4 t ht y (hs t ht y hy)
theorem bZ.agi {C:Cx} {N:Nat} {o:Oper} {s s':Sl} {L:List aw} {x:AV} (h:bZ C N o s' L x)
  (hs:∀F w a,bG C.G w F L->lS w (Al F L) N a o s->lS w (Al F L) N a o s'):bZ C N o s L x:=
 λF w a h1 h2 h3 h4=>h F w a h1 h2 h3 (hs F w a h3 h4)
def dK (O:TS):Sl:=λt=>match O.get t with
 |some (.d x)=>some x
 |_=>none
theorem lb {Z:aN} {O:TS} {s:Sl} (hs:SS Z O s) {t:Nat} {x:AV} (h:dK O t=some x):s t=some x:=by
 unfold dK at h;split at h
 ·rename_i y hy;simp only[aD]at h;subst h;obtain⟨z,h1,h2⟩:=hs t _ hy;simp only[aK]at h2;subst h2;exact h1
 ·cases h
def bh (E:Env) (N:Nat) (o:Oper) (O:TS) (L:Hp) (x:CV):Prop:=∀Z s LB,SS Z O s->HS Z L LB->∃y,aK Z x y/\bZ E.toCx N o s LB y
section
variable {E:Env} {N K:Nat} {Q:DQ} {O:TS} {L:Hp} {o:Oper} {x:CV} {all rest:List Oper}
theorem DO.qy (hg:o.guard=none) (hd:cK N o.dst=true) (h:bh E N o O L x) (k:DO E N K all rest Q (cj O o.dst x) L):DO E N K all (o::rest) Q O L:=λZ OB LB hs hh=>by
 obtain⟨y,h1,h2⟩:=h Z _ LB hs hh;exact bX.qy hg hd h2 (k Z _ LB (hs.put o.dst h1) hh)
theorem bh.cU {y:AV} (h:cU E.T (dK O) o.op=some y):bh E N o O L (.d y):=λZ s LB hs _=>⟨y,rfl,(bZ.cU h).mono λ_ _ _ hy=>lb hs hy⟩
theorem bh.eK {y:AV} (h:eK E.P E.T (dK O) o.op=some y):bh E N o O L (.d y):=λZ s LB hs _=>⟨y,rfl,(bZ.eK h).mono λ_ _ _ hy=>lb hs hy⟩
theorem bh.eX {y:AV} (h:eX E.P (dK O) o.op=some y):bh E N o O L (.d y):=λZ s LB hs _=>⟨y,rfl,(bZ.eX h).mono λ_ _ _ hy=>lb hs hy⟩
theorem bh.l7 {y:AV} (h:l7 E.G E.T (dK O) o.op=some y):bh E N o O L (.d y):=λZ s LB hs _=>⟨y,rfl,(bZ.l7 h).mono λ_ _ _ hy=>lb hs hy⟩
def eh:CV->List CV
 | .agg xs=>xs
 | .d y=>(cA y).map .d
 |x=>[x]
theorem DJ {Z:aN} {x:CV} {y:AV} (h:aK Z x y):aR Z (eh x) (cA y):=by
 cases x with
 |d z=>simp only[aK]at h;subst h;exact jb _
 |agg xs=>simp only[aK]at h;obtain⟨ys,rfl,h⟩:=h;exact h
 |bQ xs=>have h0:=h;simp only[aK]at h0;obtain⟨ys,rfl,_⟩:=h0;simp only[eh,cA,aR];exact⟨_,_,rfl,h,rfl⟩
 |own t n=>have h0:=h;simp only[aK]at h0;obtain⟨b,t',_,rfl⟩:=h0;simp only[eh,cA,aR];exact⟨_,_,rfl,h,rfl⟩
 |os t n=>have h0:=h;simp only[aK]at h0;obtain⟨a,c,t',_,rfl⟩:=h0;simp only[eh,cA,aR];exact⟨_,_,rfl,h,rfl⟩
 |oe t n m=>have h0:=h;simp only[aK]at h0;obtain⟨a,c,t',_,rfl⟩:=h0;simp only[eh,cA,aR];exact⟨_,_,rfl,h,rfl⟩
 |om t=>have h0:=h;simp only[aK]at h0;obtain⟨b,t',_,rfl⟩:=h0;simp only[eh,cA,aR];exact⟨_,_,rfl,h,rfl⟩
 |fn f fs cs=>have h0:=h;simp only[aK]at h0;obtain⟨us,vs,rfl,_⟩:=h0;simp only[eh,cA,aR];exact⟨_,_,rfl,h,rfl⟩
 |bJ t z=>have h0:=h;simp only[aK]at h0;obtain⟨u,rfl,_⟩:=h0;simp only[eh,cA,aR];exact⟨_,_,rfl,h,rfl⟩
def rU:List CV->List CV->Option (List CV)
 |xs,[]=>some xs
 |[],_::_=>none
 |_::xs,y::ys=>match rU xs ys with
  |some r=>some (y::r)
  |none=>none
def mm:List CV->Nat->List CV->Option (List CV)
 |xs,0,ys=>rU xs ys
 |[],_+1,_=>none
 |x::xs,n+1,ys=>match mm xs n ys with
  |some r=>some (x::r)
  |none=>none
theorem Q3 {Z:aN}:∀{ys xs r:List CV} {us vs:List AV},rU xs ys=some r->aR Z xs us->aR Z ys vs->∃r',lT us vs=some r'/\aR Z r r'
 |[],xs,r,us,vs,h,hx,hy=>by
  simp only[aR]at hy;subst hy;cases xs<;>simp only[rU,aD]at h<;>subst h
  ·simp only[aR]at hx;subst hx;exact⟨[],rfl,rfl⟩
  ·exact⟨us,by cases us<;>rfl,hx⟩
 |y::ys,[],r,us,vs,h,hx,hy=>by simp[rU]at h
 |y::ys,x::xs,r,us,vs,h,hx,hy=>by
  simp only[rU]at h;split at h
  ·rename_i r' h1;simp only[aD]at h;subst h;simp only[aR]at hx hy;obtain⟨u,ur,rfl,_,hx⟩:=hx;obtain⟨v,vr,rfl,hv,hy⟩:=hy;obtain⟨q,h2,h3⟩:=Q3 h1 hx hy;exact⟨v::q,by simp[lT,h2],by simp only[aR];exact⟨_,_,rfl,hv,h3⟩⟩
  ·cases h
theorem DF {Z:aN}:∀{n:Nat} {xs ys r:List CV} {us vs:List AV},mm xs n ys=some r->aR Z xs us->aR Z ys vs->∃r',fC us n vs=some r'/\aR Z r r'
 |0,xs,ys,r,us,vs,h,hx,hy=>by
  have h':rU xs ys=some r:=by cases xs<;>exact h
  obtain⟨q,h1,h2⟩:=Q3 h' hx hy;exact⟨q,by cases us<;>exact h1,h2⟩
 |n+1,[],ys,r,us,vs,h,hx,hy=>by simp[mm]at h
 |n+1,x::xs,ys,r,us,vs,h,hx,hy=>by
  simp only[mm]at h;split at h
  ·rename_i r' h1;simp only[aD]at h;subst h;simp only[aR]at hx;obtain⟨u,ur,rfl,hu,hx⟩:=hx;obtain⟨q,h2,h3⟩:=DF h1 hx hy;exact⟨u::q,by simp[fC,h2],by simp only[aR];exact⟨_,_,rfl,hu,h3⟩⟩
  ·cases h
def Am (fs:List (Nat×Nat×Nat×Bool)) (O:TS):List CV->List (Nat×Operand)->Option (List CV)
 |cells,[]=>some cells
 |cells,(i,o)::rest=>match nth fs i,aX O o with
  |some (off,_,k,_),some x=>match Nat.beq (eh x).length k,mm cells off (eh x)with
   |true,some cells'=>Am fs O cells' rest
   |_,_=>none
  |_,_=>none
theorem Q4 {Z:aN} {s:Sl} (hs:SS Z O s) {fs:List (Nat×Nat×Nat×Bool)}:∀{l:List (Nat×Operand)} {cells r:List CV} {us:List AV},Am fs O cells l=some r->aR Z cells us->∃r',nH fs s us l=some r'/\aR Z r r'
 |[],cells,r,us,h,hr=>by simp only[Am,aD]at h;subst h;exact⟨us,rfl,hr⟩
 |(i,p)::l,cells,r,us,h,hr=>by
  simp only[Am]at h;split at h
  ·rename_i off t k g x h1 h2;split at h
   ·rename_i cells' h3 h4;obtain⟨y,h5,h6⟩:=cg hs h2;have h7:=DJ h6;obtain⟨q,h8,h9⟩:=DF h4 hr h7;obtain⟨r',h10,h11⟩:=Q4 hs h h9;refine⟨r',?_,h11⟩;simp only[nH,h1,h5,h7.length,h3,h8,h10]
   ·cases h
  ·cases h
def si (O:TS):List Operand->Option (List CV)
 |[]=>some []
 |o::r=>match aX O o,si O r with
  |some x,some xs=>some (x::xs)
  |_,_=>none
theorem tq {Z:aN} {s:Sl} (hs:SS Z O s):∀{os:List Operand} {xs:List CV},si O os=some xs->∃ys,jO s os=some ys/\aR Z xs ys
 |[],_,h=>by simp only[si,aD]at h;subst h;exact⟨[],rfl,rfl⟩
 |o::os,xs,h=>by
  simp only[si]at h;split at h
  ·rename_i x ys h1 h2;simp only[aD]at h;subst h;obtain⟨y,h3,h4⟩:=cg hs h1;obtain⟨zs,h5,h6⟩:=tq hs h2;exact⟨y::zs,by simp[jO,h3,h5],by simp only[aR];exact⟨_,_,rfl,h4,h6⟩⟩
  ·cases h
def qd:List CV->Bool
 |[]=>false
 | .d _::r=>qd r
 |_::_=>true
theorem HX {Z:aN}:∀{xs:List CV} {ys:List AV},qd xs=true->aR Z xs ys->oI ys=none
 |[],_,h,_=>by simp[qd]at h
 |x::r,ys,h,hr=>by
  simp only[aR]at hr;obtain⟨y,r',rfl,h1,h2⟩:=hr;cases x with
  |d z=>
   simp only[qd]at h;have:=HX h h2;cases y<;>simp[oI,this]
  |agg xs=>simp only[aK]at h1;obtain⟨ys,rfl,_⟩:=h1;rfl
  |bQ xs=>simp only[aK]at h1;obtain⟨ys,rfl,_⟩:=h1;rfl
  |own t n=>simp only[aK]at h1;obtain⟨b,t',_,rfl⟩:=h1;rfl
  |os t n=>simp only[aK]at h1;obtain⟨a,c,t',_,rfl⟩:=h1;rfl
  |oe t n m=>simp only[aK]at h1;obtain⟨a,c,t',_,rfl⟩:=h1;rfl
  |om t=>simp only[aK]at h1;obtain⟨b,t',_,rfl⟩:=h1;rfl
  |fn f fs cs=>simp only[aK]at h1;obtain⟨us,vs,rfl,_⟩:=h1;rfl
  |bJ t z=>simp only[aK]at h1;obtain⟨u,rfl,_⟩:=h1;rfl
def oT (T:b8) (O:TS):Op->Option CV
 | .move x=>aX O x
 | .assign x=>aX O x
 | .pick c a b=>match aX O c with
  |some (.d (.v (.bool true)))=>aX O a
  |some (.d (.v (.bool false)))=>aX O b
  |_=>none
 | .extract x i=>match aX O x with
  |some (.bQ xs)=>nth xs i
  |_=>none
 | .field t x f=>match aX O x,bc T t with
  |some (.agg xs),some ⟨.struct fs,_,_,_⟩=>match nth fs f with
   |some (o,_,k,g)=>match g with
    |true=>some (vG ((xs.drop o).take k))
    |false=>nth xs o
   |none=>none
  |_,_=>none
 | .fieldAddr t x f=>match bc T t with
  |some ⟨.struct fs,_,_,_⟩=>match nth fs f with
   |some (off,_,_,_)=>match aX O x with
    |some (.own t o)=>some (.own t (o+off))
    |some (.oe t n o)=>some (.oe t n (o+off))
    |_=>none
   |none=>none
  |_=>none
 | .nilCheck x=>match aX O x with
  |some (.own t o)=>some (.own t o)
  |some (.oe t n o)=>some (.oe t n o)
  |some (.fn f fs cs)=>some (.fn f fs cs)
  |_=>none
 | .makeInterface t x=>match aX O x,bc T t with
  |some _,some ⟨.iface,_,_,_⟩=>none
  |some y,some _=>some (.bJ t y)
  |_,_=>none
 | .typeAssert x _ t ok=>match aX O x,bc T t with
  |some (.bJ _ _),some ⟨.iface,_,_,_⟩=>none
  |some (.bJ u y),some _=>match Nat.beq u t,ok with
   |true,true=>some (.bQ [y,.d (.v (.bool true))])
   |true,false=>some y
   |false,_=>none
  |_,_=>none
 | .makeFunc (.func f) first caps=>match si O first.toList,si O caps.toList with
  |some fs,some cs=>match qd fs,qd cs with
   |false,false=>none
   |_,_=>some (.fn f fs cs)
  |_,_=>none
 | .build t parts=>match bc T t with
  |some ⟨.struct fs,_,_,z⟩=>match Am fs O ((z.map .v).map .d) parts.toList with
   |some cells=>some (vG cells)
   |none=>none
  |_=>none
 |_=>none
theorem TH {Z:aN} {s:Sl} (hs:SS Z O s) {T:b8} {op:Op} (h:oT T O op=some x):∃y,cU T s op=some y/\aK Z x y:=by
 unfold oT at h;split at h
 ·exact cg hs h
 ·exact cg hs h
 ·rename_i c a b;split at h
  ·rename_i hc;obtain⟨y,h1,h2⟩:=cg hs hc;simp only[aK]at h2;subst h2;obtain⟨z,h3,h4⟩:=cg hs h;exact⟨z,by simp only[cU,h1,h3],h4⟩
  ·rename_i hc;obtain⟨y,h1,h2⟩:=cg hs hc;simp only[aK]at h2;subst h2;obtain⟨z,h3,h4⟩:=cg hs h;exact⟨z,by simp only[cU,h1,h3],h4⟩
  ·cases h
 ·rename_i y i;split at h
  ·rename_i xs hy;obtain⟨z,h1,h2⟩:=cg hs hy;simp only[aK]at h2;obtain⟨ys,rfl,h2⟩:=h2;obtain⟨u,h3,h4⟩:=h2.nth h;exact⟨u,by simp only[cU,h1,h3],h4⟩
  ·cases h
 ·rename_i t y f;split at h
  ·rename_i xs fs _ _ _ hy ht;split at h
   ·rename_i off ft k g hf;obtain⟨z,h1,h2⟩:=cg hs hy;simp only[aK]at h2;obtain⟨ys,rfl,h2⟩:=h2;split at h
    ·simp only[aD]at h;subst h;exact⟨_,by simp only[cU,h1,ht,hf,vH],DZ ((h2.drop off).take k)⟩
    ·obtain⟨u,h3,h4⟩:=h2.nth h;exact⟨u,by simp only[cU,h1,ht,hf,vH,h3],h4⟩
   ·cases h
  ·cases h
 ·rename_i t y f;split at h
  ·rename_i fs _ _ _ ht;split at h
   ·rename_i off ft k g hf;split at h
    ·rename_i tg o hy;simp only[aD]at h;subst h;obtain⟨z,h1,h2⟩:=cg hs hy;simp only[aK]at h2;obtain⟨b,t',h2,rfl⟩:=h2;exact⟨.own t' b (o+off),by simp only[cU,ht,hf,h1],by simp only[aK];exact⟨b,t',h2,rfl⟩⟩
    ·rename_i tg n o hy;simp only[aD]at h;subst h;obtain⟨z,h1,h2⟩:=cg hs hy;simp only[aK]at h2;obtain⟨a,c,t',h2,rfl⟩:=h2;exact⟨.oe t' (.slice a n c) (o+off),by simp only[cU,ht,hf,h1],by simp only[aK];exact⟨a,c,t',h2,rfl⟩⟩
    ·cases h
   ·cases h
  ·cases h
 ·rename_i y;split at h
  ·rename_i tg o hy;simp only[aD]at h;subst h;obtain⟨z,h1,h2⟩:=cg hs hy;have h3:=h2;simp only[aK]at h3;obtain⟨b,t',_,rfl⟩:=h3;exact⟨_,by simp only[cU,h1],h2⟩
  ·rename_i tg n o hy;simp only[aD]at h;subst h;obtain⟨z,h1,h2⟩:=cg hs hy;have h3:=h2;simp only[aK]at h3;obtain⟨a,c,t',_,rfl⟩:=h3;exact⟨_,by simp only[cU,h1],h2⟩
  ·rename_i f fs cs hy;simp only[aD]at h;subst h;obtain⟨z,h1,h2⟩:=cg hs hy;have h3:=h2;simp only[aK]at h3;obtain⟨us,vs,rfl,_⟩:=h3;exact⟨_,by simp only[cU,h1],h2⟩
  ·cases h
 ·rename_i t y;split at h
  ·cases h
  ·rename_i u i hne hy ht;simp only[aD]at h;subst h;obtain⟨z,h1,h2⟩:=cg hs hy;refine⟨.bJ t z,?_,by simp only[aK];exact⟨z,rfl,h2⟩⟩;simp only[cU,h1,ht]
  ·cases h
 ·rename_i y xt t ok;split at h
  ·cases h
  ·rename_i u y' i hne hy ht;obtain⟨z,h1,h2⟩:=cg hs hy;simp only[aK]at h2;obtain⟨z',rfl,h2⟩:=h2;have key:cU T s (.typeAssert y xt t ok)=(match(generalizing:=false) Nat.beq u t,ok with
     |true,true=>some (AV.bQ [z',.v (.bool true)])
     |true,false=>some z'
     |false,_=>none):=by
    simp only[cU,h1,ht];rfl
   rw[key];cases hb:Nat.beq u t with
   |false=>rw[hb]at h;cases h
   |true=>
    rw[hb]at h;cases ok with
    |true=>
     simp only[aD]at h;subst h;refine⟨_,rfl,?_⟩;simp only[aK,aR];exact⟨_,rfl,_,_,rfl,h2,_,_,rfl,rfl,rfl⟩
    |false=>
     simp only[aD]at h;subst h;exact⟨_,rfl,h2⟩
  ·cases h
 ·rename_i f first caps
  split at h
  ·rename_i fs cs h1 h2;obtain⟨us,h3,h4⟩:=tq hs h1;obtain⟨vs,h5,h6⟩:=tq hs h2;split at h
   ·cases h
   ·rename_i hne;simp only[aD]at h;subst h;refine⟨.fn f us vs,?_,by simp only[aK];exact⟨us,vs,rfl,h4,h6⟩⟩;simp only[cU,h3,h5];cases hr:qd fs with
    |true=>rw[HX hr h4]
    |false=>cases hr':qd cs with
     |true=>rw[HX hr' h6];cases oI us<;>rfl
     |false=>exact(hne hr hr').elim
  ·cases h
 ·rename_i t parts;split at h
  ·rename_i fs _ _ z ht;split at h
   ·rename_i cells hf;simp only[aD]at h;subst h;obtain⟨r',h1,h2⟩:=Q4 hs hf (jb _);exact⟨.agg r',by simp only[cU,ht,h1],DZ h2⟩
   ·cases h
  ·cases h
 ·cases h
theorem bh.oT (h:oT E.T O o.op=some x):bh E N o O L x:=λZ s LB hs _=>by
 obtain⟨y,h1,h2⟩:=TH hs h;exact⟨y,h2,bZ.cU h1⟩
def FI (T:b8) (t:TypeId) (cs:List CV) (o:Nat):Option CV:=
 match bc T t with
 |some ⟨d,k,_,_⟩=>match d.agg with
  |true=>match Nat.ble k (cs.drop o).length with
   |true=>some (vG ((cs.drop o).take k))
   |false=>none
  |false=>nth cs o
 |none=>none
theorem HW:∀{l:List AV} {n:Nat},n<=l.length->fits l n=true
 |_,0,_=>by simp[fits]
 |[],n+1,h=>by simp at h
 |_::r,n+1,h=>by simp only[fits];exact HW (by simpa using h)
theorem abH {Z:aN} {T:b8} {t:TypeId} {cs:List CV} {us:List AV} {off:Nat} (h:FI T t cs off=some x) (hc:aR Z cs us):∃y,jX T t us off=some y/\aK Z x y:=by
 unfold FI at h;split at h
 ·rename_i d k b z ht;split at h
  ·rename_i hd;split at h
   ·rename_i hle;simp only[aD]at h;subst h;have hle:=ep hle;refine⟨.agg ((us.drop off).take k),?_,DZ ((hc.drop off).take k)⟩;simp only[jX,ht,hd];rw[HW (by rw[(hc.drop off).length];exact hle)]
   ·cases h
  ·rename_i hd;obtain⟨y,h1,h2⟩:=hc.nth h;exact⟨y,by simp only[jX,ht,hd,h1],h2⟩
 ·cases h
theorem Q5 {p:Operand} (h:aX O p=some x) (hx:∀y,x≠ .d y):∃t,p= .tmp t/\O.get t=some x:=by
 cases p with
 |tmp t=>exact⟨t,rfl,h⟩
 |const v=>simp only[aX,aD]at h;exact(hx _ h.symm).elim
 |global g=>simp only[aX,aD]at h;exact(hx _ h.symm).elim
 |func f=>simp only[aX,aD]at h;exact(hx _ h.symm).elim
theorem bh.load {t:TypeId} {p:Operand} {i off:Nat} {cs:List CV} (ho:o.op= .load t p) (hp:aX O p=some (.own i off)) (hi:L.e.get i=some (.box cs)) (hl:FI E.T t cs off=some x):bh E N o O L x:=λZ s LB hs hh=>by
 obtain⟨y,h1,h2⟩:=cg hs hp;simp only[aK]at h2;obtain⟨b,t',h3,rfl⟩:=h2;obtain⟨z,h4,h5⟩:=hh.en i _ hi;obtain⟨b',cs',h6,rfl,h7⟩:=h5;rw[h3]at h6;cases h6;obtain⟨q,h8,h9⟩:=abH hl h7;exact⟨q,h9,bZ.nQ (adu ho (by rw[fK (by simp[ho,Op.operands])];exact h1) h4 h8)⟩
def fZ (s:Sl) (t:Nat) (x:AV):Sl:=λu=>if u=t then some x else s u
theorem bZ.known {C:Cx} {s:Sl} {LB:List aw} {t:Nat} {x:AV} {y z:AV} (h:bZ C N o (fZ s t z) LB x) (ht:s t=some y) (hk:∀F w v,bG C.G w F LB->Rel w (Al F LB) y v->Rel w (Al F LB) z v):bZ C N o s LB x:=
 h.agi λF w a hh hs u hu q hq=>by
  unfold fZ at hq;split at hq
  ·rename_i hut;subst hut;simp only[aD]at hq;subst hq;obtain⟨h1,h2⟩:=hs u hu y ht;exact⟨h1,hk F w _ hh h2⟩
  ·exact hs u hu q hq
theorem qX {G:Gl} {w:World} {F:Nat->Prop} {LB:List aw} (hh:bG G w F LB) {i:Nat} {x:AV} {v:Value} (h:nth LB i=some (.fact x v)):Rel w (Al F LB) x v:=ja hh h
theorem Rel.JH {w:World} {A:Nat->Prop} {cs:List AV} {b:Nat} (off:Nat) (h:Rel w A (.ip cs) (.pointer (some ⟨b,0,none⟩))):Rel w A (.ip (cs.drop off)) (.pointer (some ⟨b,off,none⟩)):=by
 simp only[Rel]at h⊢;obtain⟨b',o',vs,e1,e2,e3,e4⟩:=h;cases e1;exact⟨b,off,vs.drop off,rfl,e2,e3.drop off,λj u hj=>by rw[xw]at hj;have:=e4 _ _ hj;simpa using this⟩
theorem bh.agY {t:TypeId} {p:Operand} {i off:Nat} {cs:List AV} {y:AV} (ho:o.op= .load t p) (hp:aX O p=some (.own i off)) (hi:L.e.get i=some (.l8 cs)) (hl:jX E.T t (cs.drop off) 0=some y):bh E N o O L (.d y):=λZ s LB hs hh=>by
 obtain⟨u,rfl,hu⟩:=Q5 hp (λ_ h=>by cases h);obtain⟨z,h1,h2⟩:=hs u _ hu;simp only[aK]at h2;obtain⟨b,t',h3,rfl⟩:=h2;obtain⟨z,h4,h5⟩:=hh.en i _ hi;obtain⟨b',h6,rfl⟩:=h5;rw[h3]at h6;cases h6;refine⟨y,rfl,bZ.known (t:=u) (z:= .ip (cs.drop off)) (bZ.cU ?_) h1 λF w v hH hr=>?_⟩
 ·rw[ho];unfold jX at hl;simp only[Bw.cU,ev,fZ,if_true];split at hl
  ·rename_i d k b z ht;simp only[ht];simp only[List.drop_zero]at hl;rw[<-hl];cases d.agg<;>rfl
  ·cases hl
 ·simp only[Rel]at hr;subst hr;exact(qX hH h4).JH off
theorem bh.len {t:TypeId} {p:Operand} {i n e k sz by':Nat} {z:List Value} (ho:o.op= .call {callee:= .builtin .len,args:= #[p],argTypes:= #[t]}) (hp:aX O p=some (.os i n)) (ht:bc E.T t=some ⟨.slice e k,sz,by',z⟩):bh E N o O L (.d (.v (.int .i64 (n:Int)))):=λZ s LB hs _=>by
 obtain⟨y,h1,h2⟩:=cg hs hp;simp only[aK]at h2;obtain⟨a,c,t',h3,rfl⟩:=h2;exact⟨_,rfl,bZ.len ho h1 (by simp[vU,ht])⟩
theorem bh.aix {t:TypeId} {p:Operand} {y:AV} {n:Int} (ho:o.op= .call {callee:= .builtin .len,args:= #[p],argTypes:= #[t]}) (hp:aX O p=some (.d y)) (hl:vU E.T t y=some n):bh E N o O L (.d (.v (.int .i64 n))):=λZ s LB hs _=>by
 obtain⟨z,h1,h2⟩:=cg hs hp;simp only[aK]at h2;subst h2;exact⟨_,rfl,bZ.len ho h1 hl⟩
theorem bh.VX {t:TypeId} {p ix:Operand} {i n e k sz by':Nat} {z:List Value} {rows:List (List AV)} {kd:IntKind} {m:Int} (j:Nat) (ho:o.op= .indexAddr t p ix) (hp:aX O p=some (.os i n)) (hi:L.e.get i=some (.row e k rows)) (hn:n=rows.length)
  (ht:bc E.T t=some ⟨.slice e k,sz,by',z⟩) (hix:aX O ix=some (.d (.v (.int kd m)))) (hm:m=(j:Int)) (hj:j<rows.length):bh E N o O L (.oe i n (j*k)):=λZ s LB hs hh=>by
 obtain⟨y,h1,h2⟩:=cg hs hp;simp only[aK]at h2;obtain⟨a,c,t',h3,rfl⟩:=h2;obtain⟨y',h4,h5⟩:=cg hs hix;simp only[aK]at h5;subst h5;obtain⟨q,h6,h7⟩:=hh.en i _ hi;obtain⟨⟨a',c',h8,rfl⟩,_⟩:=h7;subst hn;rw[h3]at h8;cases h8;refine⟨.oe i (.slice a rows.length c) (j*k),by simp only[aK];exact⟨a,c,i,h3,rfl⟩,?_⟩;exact bZ.nQ (abI ho j ht (by rw[fK (by simp[ho,Op.operands])];exact h1) h6 (by rw[fK (by simp[ho,Op.operands])];exact h4) hm hj)
theorem bh.TJ {t:TypeId} {p:Operand} {i n m e k:Nat} {rows:List (List AV)} {r:List AV} {y:AV} (j off:Nat) (ho:o.op= .load t p) (hp:aX O p=some (.oe i n m)) (hi:L.e.get i=some (.row e k rows)) (hn:n=rows.length) (hm:m=j*k+off) (hr:rows[j]? =some r)
  (hl:jX E.T t r off=some y):bh E N o O L (.d y):=λZ s LB hs hh=>by
 obtain⟨z,h1,h2⟩:=cg hs hp;simp only[aK]at h2;obtain⟨a,c,t',h3,rfl⟩:=h2;obtain⟨q,h6,h7⟩:=hh.en i _ hi;obtain⟨⟨a',c',h8,rfl⟩,_⟩:=h7;subst hn;rw[h3]at h8;cases h8;exact⟨y,rfl,bZ.nQ (abb ho j off (by rw[fK (by simp[ho,Op.operands])];exact h1) hm h6 hr hl)⟩
theorem bh.aiw {t:TypeId} {p ix:Operand} {i n e k sz by':Nat} {z:List Value} {rows:List (List AV)} {r:List AV} {kd:IntKind} {m:Int} (j:Nat) (ho:o.op= .indexAddr t p ix) (hp:aX O p=some (.os i n)) (hi:L.e.get i=some (.ju k rows)) (hn:n=rows.length)
  (ht:bc E.T t=some ⟨.slice e k,sz,by',z⟩) (hix:aX O ix=some (.d (.v (.int kd m)))) (hm:m=(j:Int)) (hr:rows[j]? =some r):bh E N o O L (.d (.ip r)):=λZ s LB hs hh=>by
 obtain⟨u,rfl,hu⟩:=Q5 hp (λ_ h=>by cases h);obtain⟨y,h1,h2⟩:=hs u _ hu;simp only[aK]at h2;obtain⟨a,c,t',h3,rfl⟩:=h2;obtain⟨q,h6,h7⟩:=hh.en i _ hi;obtain⟨a',c',h8,rfl⟩:=h7;subst hn;rw[h3]at h8;cases h8;obtain⟨y',h4,h5⟩:=cg hs hix;simp only[aK]at h5;subst h5;subst hm;refine⟨.ip r,rfl,bZ.known (t:=u) (z:= .sl k rows) ?_ h1 λF w v hH hrl=>?_⟩
 ·refine bZ.eK (E:=E) ?_;have hev:ev (fZ s u (.sl k rows)) ix=some (.v (.int kd (j:Int))):=by
   cases ix with
   |tmp q=>
    simp only[ev,fZ]at h4⊢;split
    ·rename_i hq;subst hq;rw[h1]at h4;cases h4
    ·exact h4
   |const v=>exact h4
   |global g=>exact h4
   |func f=>exact h4
  have hnat:nM (some (.v (.int kd (j:Int))))=some j:=rfl;rw[ho];simp only[Bw.eK,hev,hnat,ht,Dr,cG];simp[ev,fZ,hr]
 ·simp only[Rel]at hrl;subst hrl;exact qX hH h6
