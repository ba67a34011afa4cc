/- An abstract machine over the program logic: its values name own blocks by tags, so that its steps can be computed. First part: values, slots, heap, what they say, the judgement. -/
import Derived.Test.YtnocmolegijmkaaGreatKB10
set_option linter.all false
noncomputable section
namespace Go.Bw
open Go
inductive CV where
 |d (x:AV)
 |agg (xs:List CV)
 |bX (xs:List CV)
 |own (t off:Nat)
 |os (t n:Nat)
 |oe (t n off:Nat)
 |om (t:Nat)
 |fn (f:FuncId) (fs cs:List CV)
 |bd (ty:TypeId) (x:CV)
structure aD where
 b:Nat->Option Nat
 s:Nat->Nat->Option (Option Addr×Nat)
def aD.le (Z Z':aD):Prop:=(∀t x,Z.b t=some x->Z'.b t=some x)/\∀t n x,Z.s t n=some x->Z'.s t n=some x
theorem aD.le.refl (Z:aD):Z.le Z:=⟨λ_ _ h=>h,λ_ _ _ h=>h⟩
theorem aD.le.trans {Z Z' Z'':aD} (h:Z.le Z') (g:Z'.le Z''):Z.le Z'':=⟨λt x hx=>g.1 t x (h.1 t x hx),λt n x hx=>g.2 t n x (h.2 t n x hx)⟩
mutual
def aC (Z:aD):CV->AV->Prop
 | .d x,y=>y=x
 | .agg xs,y=>∃ys,y= .agg ys/\aI Z xs ys
 | .bX xs,y=>∃ys,y= .bX ys/\aI Z xs ys
 | .own t o,y=>∃b t',Z.b t=some b/\y= .own t' b o
 | .os t n,y=>∃a c t',Z.s t n=some (a,c)/\y= .os t' a n c
 | .oe t n o,y=>∃a c t',Z.s t n=some (a,c)/\y= .oe t' (.slice a n c) o
 | .om t,y=>∃b t',Z.b t=some b/\y= .om t' b
 | .fn f fs cs,y=>∃us vs,y= .fn f us vs/\aI Z fs us/\aI Z cs vs
 | .bd t x,y=>∃u,y= .bd t u/\aC Z x u
def aI (Z:aD):List CV->List AV->Prop
 |[],ys=>ys=[]
 |x::xs,ys=>∃y r,ys=y::r/\aC Z x y/\aI Z xs r
end
section
variable {Z Z':aD}
mutual
theorem aC.mono (h:Z.le Z'):∀{x:CV} {y:AV},aC Z x y->aC Z' x y
 | .d x,_,h1=>by simp only[aC]at h1⊢;exact h1
 | .agg xs,_,h1=>by simp only[aC]at h1⊢;obtain⟨ys,e,h2⟩:=h1;exact⟨ys,e,aI.mono h h2⟩
 | .bX xs,_,h1=>by simp only[aC]at h1⊢;obtain⟨ys,e,h2⟩:=h1;exact⟨ys,e,aI.mono h h2⟩
 | .own t o,_,h1=>by simp only[aC]at h1⊢;obtain⟨b,t',e,h2⟩:=h1;exact⟨b,t',h.1 _ _ e,h2⟩
 | .os t n,_,h1=>by simp only[aC]at h1⊢;obtain⟨a,c,t',e,h2⟩:=h1;exact⟨a,c,t',h.2 _ _ _ e,h2⟩
 | .oe t n o,_,h1=>by simp only[aC]at h1⊢;obtain⟨a,c,t',e,h2⟩:=h1;exact⟨a,c,t',h.2 _ _ _ e,h2⟩
 | .om t,_,h1=>by simp only[aC]at h1⊢;obtain⟨b,t',e,h2⟩:=h1;exact⟨b,t',h.1 _ _ e,h2⟩
 | .fn f fs cs,_,h1=>by simp only[aC]at h1⊢;obtain⟨us,vs,e,h2,h3⟩:=h1;exact⟨us,vs,e,aI.mono h h2,aI.mono h h3⟩
 | .bd t x,_,h1=>by simp only[aC]at h1⊢;obtain⟨u,e,h2⟩:=h1;exact⟨u,e,aC.mono h h2⟩
theorem aI.mono (h:Z.le Z'):∀{x:List CV} {y:List AV},aI Z x y->aI Z' x y
 |[],_,h1=>by simp only[aI]at h1⊢;exact h1
 |_::_,_,h1=>by simp only[aI]at h1⊢;obtain⟨y,r,e,h2,h3⟩:=h1;exact⟨y,r,e,aC.mono h h2,aI.mono h h3⟩
end
theorem aI.length:∀{xs:List CV} {ys:List AV},aI Z xs ys->ys.length=xs.length
 |[],_,h=>by simp only[aI]at h;simp[h]
 |_::_,_,h=>by simp only[aI]at h;obtain⟨y,r,rfl,_,h⟩:=h;simp[aI.length h]
theorem aI.nth:∀{xs:List CV} {ys:List AV} {n:Nat} {x:CV},aI Z xs ys->Bw.nth xs n=some x->∃y,Bw.nth ys n=some y/\aC Z x y
 |[],_,_,_,_,h=>by simp[Bw.nth]at h
 |y::_,ys,0,x,hr,h=>by
  simp only[aI]at hr;obtain⟨v,r,rfl,h1,_⟩:=hr;simp only[Bw.nth,ax]at h;subst h;exact⟨v,by simp[Bw.nth],h1⟩
 |_::xs,ys,n+1,x,hr,h=>by
  simp only[aI]at hr;obtain⟨v,r,rfl,_,h2⟩:=hr;simp only[Bw.nth]at h;obtain⟨u,h3,h4⟩:=aI.nth h2 h;exact⟨u,by simpa[Bw.nth]using h3,h4⟩
theorem aI.drop:∀(n:Nat) {xs:List CV} {ys:List AV},aI Z xs ys->aI Z (xs.drop n) (ys.drop n)
 |0,_,_,h=>by simpa using h
 |n+1,[],_,h=>by simp only[aI]at h;subst h;simp[aI]
 |n+1,_::_,_,h=>by simp only[aI]at h;obtain⟨v,r,rfl,_,h⟩:=h;simpa using aI.drop n h
theorem aI.take:∀(n:Nat) {xs:List CV} {ys:List AV},aI Z xs ys->aI Z (xs.take n) (ys.take n)
 |0,_,_,_=>by simp[aI]
 |n+1,[],_,h=>by simp only[aI]at h;subst h;simp[aI]
 |n+1,_::_,_,h=>by simp only[aI]at h;obtain⟨v,r,rfl,h1,h⟩:=h;simp only[vA,aI];exact⟨v,_,rfl,h1,aI.take n h⟩
theorem aI.append:∀{xs xs':List CV} {ys ys':List AV},aI Z xs ys->aI Z xs' ys'->aI Z (xs++xs') (ys++ys')
 |[],_,_,_,h,g=>by simp only[aI]at h;subst h;simpa using g
 |_::_,_,_,_,h,g=>by simp only[aI]at h;obtain⟨v,r,rfl,h1,h⟩:=h;simp only[iO,aI];exact⟨v,_,rfl,h1,aI.append h g⟩
theorem gv:∀(xs:List AV),aI Z (xs.map .d) xs
 |[]=>by simp[aI]
 |x::r=>by simp only[dA,aI,aC];exact⟨_,_,rfl,rfl,gv r⟩
def fM:List CV->Option (List AV)
 |[]=>some []
 | .d x::r=>match fM r with
  |some xs=>some (x::xs)
  |none=>none
 |_::_=>none
theorem mU:∀{xs:List CV} {ys zs:List AV},fM xs=some zs->aI Z xs ys->ys=zs
 |[],ys,zs,h,hr=>by simp only[fM,ax]at h;simp only[aI]at hr;rw[hr,<-h]
 |x::r,ys,zs,h,hr=>by
  cases x<;>simp only[fM]at h<;>try (cases h;done)
  split at h
  ·rename_i zs' h1;simp only[ax]at h;simp only[aI]at hr;obtain⟨v,r',rfl,h2,h3⟩:=hr;simp only[aC]at h2;rw[h2,mU h1 h3,h]
  ·cases h
def rj (xs:List CV):CV:=match fM xs with
 |some ys=> .d (.agg ys)
 |none=> .agg xs
theorem vT {xs:List CV} {ys:List AV} (h:aI Z xs ys):aC Z (rj xs) (.agg ys):=by
 unfold rj;split
 ·rename_i zs hz;simp only[aC];rw[mU hz h]
 ·simp only[aC];exact⟨ys,rfl,h⟩
def C0 (xs:List CV):CV:=match fM xs with
 |some ys=> .d (.bX ys)
 |none=> .bX xs
theorem Gk {xs:List CV} {ys:List AV} (h:aI Z xs ys):aC Z (C0 xs) (.bX ys):=by
 unfold C0;split
 ·rename_i zs hz;simp only[aC];rw[mU hz h]
 ·simp only[aC];exact⟨ys,rfl,h⟩
end
def Tr.put {D:Type}:Nat->Tr D->Nat->Option D->Tr D
 |0,_,_,_=> .lf
 |f+1,.lf,n,y=> @Bool.rec (λ_=>Tr D) (@Bool.rec (λ_=>Tr D) (.nd none .lf (Tr.put f .lf (Nat.pred (gD n)) y)) (.nd none (Tr.put f .lf (gD n) y) .lf) (Nat.beq (jg n) 1)) (.nd y .lf .lf) (Nat.beq n 0)
 |f+1,.nd x l r,n,y=> @Bool.rec (λ_=>Tr D) (@Bool.rec (λ_=>Tr D) (.nd x l (Tr.put f r (Nat.pred (gD n)) y)) (.nd x (Tr.put f l (gD n) y) r) (Nat.beq (jg n) 1)) (.nd y l r) (Nat.beq n 0)
theorem Tr.TN {D:Type} (t:Tr D) (n:Nat) (y:Option D):Tr.put 0 t n y= .lf:=rfl
theorem Tr.xv {D:Type} (f n:Nat) (y:Option D):Tr.put (f+1) .lf n y=match Nat.beq n 0 with
  |true=> .nd y .lf .lf
  |false=>match Nat.beq (jg n) 1 with
   |true=> .nd none (Tr.put f .lf (gD n) y) .lf
   |false=> .nd none .lf (Tr.put f .lf (Nat.pred (gD n)) y):=by
 rw[Tr.put]
 all_goals cases Nat.beq n 0
 all_goals first|rfl|(cases Nat.beq (jg n) 1<;>rfl)
theorem Tr.xw {D:Type} (f:Nat) (x:Option D) (l r:Tr D) (n:Nat) (y:Option D):Tr.put (f+1) (.nd x l r) n y=match Nat.beq n 0 with
  |true=> .nd y l r
  |false=>match Nat.beq (jg n) 1 with
   |true=> .nd x (Tr.put f l (gD n) y) r
   |false=> .nd x l (Tr.put f r (Nat.pred (gD n)) y):=by
 rw[Tr.put]
 all_goals cases Nat.beq n 0
 all_goals first|rfl|(cases Nat.beq (jg n) 1<;>rfl)
def Tr.cr {D R:Type}:Nat->Tr D->Nat->Option D->(Tr D->R)->R
 |0,_,_,_,k=>k .lf
 |f+1,.lf,n,y,k=> @Bool.rec (λ_=>R) (@Bool.rec (λ_=>R) (Tr.cr f .lf (Nat.pred (gD n)) y λr=>k (.nd none .lf r)) (Tr.cr f .lf (gD n) y λl=>k (.nd none l .lf)) (Nat.beq (jg n) 1)) (k (.nd y .lf .lf)) (Nat.beq n 0)
 |f+1,.nd x l r,n,y,k=> @Bool.rec (λ_=>R) (@Bool.rec (λ_=>R) (Tr.cr f r (Nat.pred (gD n)) y λr=>k (.nd x l r)) (Tr.cr f l (gD n) y λl=>k (.nd x l r)) (Nat.beq (jg n) 1)) (k (.nd y l r)) (Nat.beq n 0)
theorem Tr.dd {D R:Type}:∀(f:Nat) (t:Tr D) (n:Nat) (y:Option D) (k:Tr D->R),Tr.cr f t n y k=k (Tr.put f t n y)
 |0,_,_,_,_=>rfl
 |f+1,.lf,n,y,k=>by
  rw[Tr.xv,Tr.cr];cases Nat.beq n 0 with
  |true=>rfl
  |false=>cases Nat.beq (jg n) 1<;>exact Tr.dd f _ _ _ _
 |f+1,.nd x l r,n,y,k=>by
  rw[Tr.xw,Tr.cr];cases Nat.beq n 0 with
  |true=>rfl
  |false=>cases Nat.beq (jg n) 1<;>exact Tr.dd f _ _ _ _
theorem fG {n m:Nat} (h:Nat.beq n m=false):n≠m:=λe=>by subst e;rw[vv]at h;cases h
theorem Tr.put_comm {D:Type}:∀(f:Nat) (t:Tr D) (n m:Nat) (y z:Option D),n≠m->Tr.put f (Tr.put f t n y) m z=Tr.put f (Tr.put f t m z) n y
 |0,_,_,_,_,_,_=>rfl
 |f+1,t,n,m,y,z,hne=>by
  have ih:=λ(t:Tr D) (n m:Nat) (y z:Option D) (h:n≠m)=>Tr.put_comm f t n m y z h;have hL:∀n m:Nat,n≠m->Nat.beq n 0=false->Nat.beq m 0=false->Nat.beq (Nat.mod n 2) 1=true->Nat.beq (Nat.mod m 2) 1=true->Nat.div n 2≠Nat.div m 2:=by
   intro n m h h1 h2 h3 h4;have h3:=bg h3;have h4:=bg h4;change n%2=1 at h3;change m%2=1 at h4;change ¬n/2=m/2;omega
  have hR:∀n m:Nat,n≠m->Nat.beq n 0=false->Nat.beq m 0=false->Nat.beq (Nat.mod n 2) 1=false->Nat.beq (Nat.mod m 2) 1=false->Nat.pred (Nat.div n 2)≠Nat.pred (Nat.div m 2):=by
   intro n m h h1 h2 h3 h4;have h1:=fG h1;have h2:=fG h2;have h3:=fG h3;have h4:=fG h4;change ¬n%2=1 at h3;change ¬m%2=1 at h4;change ¬n/2-1=m/2-1;omega
  cases h1:Nat.beq n 0<;>cases h2:Nat.beq m 0<;>cases h3:Nat.beq (Nat.mod n 2) 1<;>cases h4:Nat.beq (Nat.mod m 2) 1<;>cases t<;>simp only[Tr.xv,Tr.xw,kM,kN,h1,h2,h3,h4]<;>
   first
   |(rw[ih _ _ _ _ _ (hL n m hne h1 h2 h3 h4)];done)
   |(rw[ih _ _ _ _ _ (hR n m hne h1 h2 h3 h4)];done)
   |(exact absurd ((bg h1).trans (bg h2).symm) hne)
   |skip
theorem Tr.eu {D:Type}:∀(f:Nat) (t:Tr D) (n m:Nat) (y:Option D) (z:D),(Tr.put f t n y).get m=some z->(m=n/\y=some z)\/(m≠n/\t.get m=some z)
 |0,_,_,_,_,_,h=>by simp[Tr.TN,Tr.jE]at h
 |f+1,.lf,n,m,y,z,h=>by
  simp only[Tr.xv,Tr.xw,kM,kN]at h;cases h0:Nat.beq n 0 with
  |true=>
   have:=bg h0;subst this;rw[h0]at h;simp only[Tr.ny,kM,kN]at h;cases hm:Nat.beq m 0 with
   |true=>rw[hm]at h;exact .inl ⟨bg hm,h⟩
   |false=>rw[hm]at h;simp only at h;cases hb:Nat.beq (Nat.mod m 2) 1<;>rw[hb]at h<;>cases h
  |false=>
   have hn:=fG h0;rw[h0]at h;simp only at h;cases h1:Nat.beq (Nat.mod n 2) 1 with
   |true=>
    rw[h1]at h;have h1:=bg h1;simp only[Tr.ny,kM,kN]at h;cases hm:Nat.beq m 0 with
    |true=>rw[hm]at h;cases h
    |false=>
     have hm:=fG hm;simp only[‹Nat.beq m 0=false›]at h;cases hb:Nat.beq (Nat.mod m 2) 1 with
     |true=>
      rw[hb]at h;have hb:=bg hb;rcases Tr.eu f .lf _ _ y z h with⟨h2,h3⟩|⟨_,h3⟩
      ·refine .inl ⟨?_,h3⟩;change n%2=1 at h1;change m%2=1 at hb;change m/2=n/2 at h2;omega
      ·simp[Tr.jE]at h3
     |false=>rw[hb]at h;cases h
   |false=>
    rw[h1]at h;have h1:=fG h1;simp only[Tr.ny,kM,kN]at h;cases hm:Nat.beq m 0 with
    |true=>rw[hm]at h;cases h
    |false=>
     have hm:=fG hm;simp only[‹Nat.beq m 0=false›]at h;cases hb:Nat.beq (Nat.mod m 2) 1 with
     |true=>rw[hb]at h;cases h
     |false=>
      rw[hb]at h;have hb:=fG hb;rcases Tr.eu f .lf _ _ y z h with⟨h2,h3⟩|⟨_,h3⟩
      ·refine .inl ⟨?_,h3⟩;change ¬n%2=1 at h1;change ¬m%2=1 at hb;change m/2-1=n/2-1 at h2;omega
      ·simp[Tr.jE]at h3
 |f+1,.nd x l r,n,m,y,z,h=>by
  simp only[Tr.xv,Tr.xw,kM,kN]at h;cases h0:Nat.beq n 0 with
  |true=>
   have:=bg h0;subst this;rw[h0]at h;simp only[Tr.ny,kM,kN]at h⊢;cases hm:Nat.beq m 0 with
   |true=>rw[hm]at h;exact .inl ⟨bg hm,h⟩
   |false=>rw[hm]at h;exact .inr ⟨fG hm,h⟩
  |false=>
   have hn:=fG h0;rw[h0]at h;simp only at h;cases h1:Nat.beq (Nat.mod n 2) 1 with
   |true=>
    rw[h1]at h;have h1:=bg h1;simp only[Tr.ny,kM,kN]at h⊢;cases hm:Nat.beq m 0 with
    |true=>rw[hm]at h;exact .inr ⟨λe=>hn (by rw[<-e];exact bg hm),h⟩
    |false=>
     rw[hm]at h;simp only at h⊢;have hm:=fG hm;cases hb:Nat.beq (Nat.mod m 2) 1 with
     |true=>
      rw[hb]at h;have hb:=bg hb;change n%2=1 at h1;change m%2=1 at hb;rcases Tr.eu f l _ _ y z h with⟨h2,h3⟩|⟨h2,h3⟩
      ·refine .inl ⟨?_,h3⟩;change m/2=n/2 at h2;omega
      ·refine .inr ⟨?_,h3⟩;change ¬m/2=n/2 at h2;omega
     |false=>
      rw[hb]at h;have hb:=fG hb;change n%2=1 at h1;change ¬m%2=1 at hb;exact .inr ⟨by omega,h⟩
   |false=>
    rw[h1]at h;have h1:=fG h1;simp only[Tr.ny,kM,kN]at h⊢;cases hm:Nat.beq m 0 with
    |true=>rw[hm]at h;exact .inr ⟨λe=>hn (by rw[<-e];exact bg hm),h⟩
    |false=>
     rw[hm]at h;simp only at h⊢;have hm:=fG hm;cases hb:Nat.beq (Nat.mod m 2) 1 with
     |true=>
      rw[hb]at h;have hb:=bg hb;change ¬n%2=1 at h1;change m%2=1 at hb;exact .inr ⟨by omega,h⟩
     |false=>
      rw[hb]at h;have hb:=fG hb;change ¬n%2=1 at h1;change ¬m%2=1 at hb;rcases Tr.eu f r _ _ y z h with⟨h2,h3⟩|⟨h2,h3⟩
      ·refine .inl ⟨?_,h3⟩;change m/2-1=n/2-1 at h2;omega
      ·refine .inr ⟨?_,h3⟩;change ¬m/2-1=n/2-1 at h2;omega
abbrev TS:=Tr CV
inductive aT where
 |box (cs:List CV)
 |row (e k:Nat) (rows:List (List AV))
 |map (es:List (Value×CV))
 |kB (cs:List AV)
 |gH (k:Nat) (rows:List (List AV))
 |set (l:List (List UInt8))
 |jd (l:List Int)
 |gone
structure Hp where
 e:Tr aT
 n:Nat
def iZ (Z:aD):List (Value×CV)->List (Value×AV)->Prop
 |[],ys=>ys=[]
 |x::xs,ys=>∃y r,ys=y::r/\y.1=x.1/\aC Z x.2 y.2/\iZ Z xs r
theorem iZ.mono {Z Z':aD} (h:Z.le Z'):∀{xs:List (Value×CV)} {ys:List (Value×AV)},iZ Z xs ys->iZ Z' xs ys
 |[],_,h1=>by simp only[iZ]at h1⊢;exact h1
 |_::_,_,h1=>by simp only[iZ]at h1⊢;obtain⟨y,r,e,h2,h3,h4⟩:=h1;exact⟨y,r,e,h2,h3.mono h,iZ.mono h h4⟩
def UF (l:List (List UInt8)):List (Value×AV):=l.map λs=>(.string ⟨⟨s⟩⟩,.v (.bool true))
def oV (l:List Int):List (Value×AV):=l.map λn=>(.int .i64 n,.v (.bool true))
def kT (Z:aD) (i:Nat):aT->aj->Prop
 | .box cs,y=>∃b cs',Z.b i=some b/\y= .box b cs'/\aI Z cs cs'
 | .row e k rows,y=>(∃a c,Z.s i rows.length=some (a,c)/\y= .row (.slice a rows.length c) e k rows)/\∀m,rows.length<m->Z.s i m=none
 | .map es,y=>∃b es',Z.b i=some b/\y= .map b es'/\iZ Z es es'
 | .kB cs,y=>∃b,Z.b i=some b/\y= .fact (.ip cs) (.pointer (some ⟨b,0,none⟩))
 | .gH k rows,y=>∃a c,Z.s i rows.length=some (a,c)/\y= .fact (.sl k rows) (.slice a rows.length c)
 | .set l,y=>∃b,Z.b i=some b/\y= .map b (UF l)
 | .jd l,y=>∃b,Z.b i=some b/\y= .map b (oV l)
 | .gone,_=>True
theorem kT.mono {Z Z':aD} (h:Z.le Z') {i:Nat} (hi:Z'.s i=Z.s i) {x:aT} {y:aj} (hx:kT Z i x y):kT Z' i x y:=by
 cases x with
 |box cs=>obtain⟨b,cs',h1,h2,h3⟩:=hx;exact⟨b,cs',h.1 _ _ h1,h2,h3.mono h⟩
 |row e k rows=>obtain⟨⟨a,c,h1,h2⟩,h3⟩:=hx;exact⟨⟨a,c,by rw[hi];exact h1,h2⟩,λm hm=>by rw[hi];exact h3 m hm⟩
 |map es=>obtain⟨b,es',h1,h2,h3⟩:=hx;exact⟨b,es',h.1 _ _ h1,h2,h3.mono h⟩
 |kB cs=>obtain⟨b,h1,h2⟩:=hx;exact⟨b,h.1 _ _ h1,h2⟩
 |gH k rows=>obtain⟨a,c,h1,h2⟩:=hx;exact⟨a,c,h.2 _ _ _ h1,h2⟩
 |set l=>obtain⟨b,h1,h2⟩:=hx;exact⟨b,h.1 _ _ h1,h2⟩
 |jd l=>obtain⟨b,h1,h2⟩:=hx;exact⟨b,h.1 _ _ h1,h2⟩
 |gone=>trivial
def SS (Z:aD) (O:TS) (s:Sl):Prop:=∀t x,O.get t=some x->∃y,s t=some y/\aC Z x y
theorem SS.mono {Z Z':aD} (h:Z.le Z') {O:TS} {s:Sl} (hs:SS Z O s):SS Z' O s:=λt x hx=>by
 obtain⟨y,h1,h2⟩:=hs t x hx;exact⟨y,h1,h2.mono h⟩
structure HS (Z:aD) (L:Hp) (LB:List aj):Prop where
 en:∀i x,L.e.get i=some x->∃y,nth LB i=some y/\kT Z i x y
 len:LB.length=L.n
 gb:∀t,L.n<=t->Z.b t=none/\∀n,Z.s t n=none
def bK (O:TS) (dst:Option Nat) (x:CV):TS:=match dst with
 |some d=>Tr.put 24 O d (some x)
 |none=>O
theorem SS.put {Z:aD} {O:TS} {OB:Sg} (h:SS Z O (look OB)) (dst:Option Nat) {x:CV} {y:AV} (hx:aC Z x y):SS Z (bK O dst x) (look (lZ dst y OB)):=by
 cases dst with
 |none=>exact h
 |some d=>
  intro t z hz;rcases Tr.eu 24 O d t (some x) z hz with⟨rfl,h1⟩|⟨hne,h1⟩
  ·cases h1;exact⟨y,by simp[lZ,look],hx⟩
  ·obtain⟨u,h2,h3⟩:=h t z h1;refine⟨u,?_,h3⟩;have:Nat.beq d t=false:=by cases hb:Nat.beq d t with
    |false=>rfl
    |true=>exact absurd (bg hb).symm hne
   simp only[lZ,look,this];exact h2
inductive DE where
 |norm
 |exit (id:Nat)
 |ret
 |aJ (x:CV)
def DE.inst (Z:aD):DE->AE->Prop
 | .norm,e=>e= .norm
 | .exit i,e=>e= .exit i
 | .ret,e=>e= .ret
 | .aJ x,e=>∃y,e= .aJ y/\aC Z x y
abbrev DQ:=DE->TS->Hp->Prop
def aD.gf (K:Nat) (Z Z':aD):Prop:=∀t,t<K->(∀x,Z.b t=some x->Z'.b t=some x)/\∀n x,Z.s t n=some x->Z'.s t n=some x
theorem aD.gf.refl (K:Nat) (Z:aD):aD.gf K Z Z:=λ_ _=>⟨λ_ h=>h,λ_ _ h=>h⟩
theorem aD.gf.trans {K:Nat} {Z Z' Z'':aD} (h:aD.gf K Z Z') (g:aD.gf K Z' Z''):aD.gf K Z Z'':=λt ht=>⟨λx hx=>(g t ht).1 x ((h t ht).1 x hx),λn x hx=>(g t ht).2 n x ((h t ht).2 n x hx)⟩
theorem aD.le.toK {Z Z':aD} (h:Z.le Z') (K:Nat):aD.gf K Z Z':=λt _=>⟨h.1 t,h.2 t⟩
def lift (K:Nat) (Z:aD) (Q:DQ):AQ:=λe OB LB=>∃Z' d O L,aD.gf K Z Z'/\DE.inst Z' d e/\SS Z' O (look OB)/\HS Z' L LB/\Q d O L
theorem oz {K:Nat} {Z Z':aD} (h:aD.gf K Z Z') {Q Q':DQ} (hq:∀e O L,Q e O L->Q' e O L) {e:AE} {OB:Sg} {LB:List aj} (hl:lift K Z' Q e OB LB):lift K Z Q' e OB LB:=by
 obtain⟨Z1,d,O,L,h1,h2,h3,h4,h5⟩:=hl;exact⟨Z1,d,O,L,h.trans h1,h2,h3,h4,hq _ _ _ h5⟩
def DC (E:Env) (N K:Nat) (c:Code) (Q:DQ) (O:TS) (L:Hp):Prop:=∀Z OB LB,SS Z O (look OB)->HS Z L LB->bH E.toCx N c (lift K Z Q) OB LB
def DO (E:Env) (N K:Nat) (all rest:List Oper) (Q:DQ) (O:TS) (L:Hp):Prop:=∀Z OB LB,SS Z O (look OB)->HS Z L LB->bE E.toCx N all.toArray rest (lift K Z Q) OB LB
abbrev DE.then (next:TS->Hp->Prop) (Q:DQ):DQ:=λe O L=>match e with
 | .norm=>next O L
 | .exit i=>Q (.exit i) O L
 | .ret=>Q .ret O L
 | .aJ x=>Q (.aJ x) O L
abbrev DE.inBlock (id:Nat) (Q:DQ):DQ:=λe O L=>match e with
 | .norm=>Q .norm O L
 | .exit i=>match Nat.beq i id with
  |true=>Q .norm O L
  |false=>Q (.exit i) O L
 | .ret=>Q .ret O L
 | .aJ x=>Q (.aJ x) O L
section
variable {E:Env} {N K:Nat} {Q:DQ} {O:TS} {L:Hp}
theorem qe {Z:aD} {d:DE} {e:AE} {OB:Sg} {LB:List aj} (h:DE.inst Z d e) (hs:SS Z O (look OB)) (hh:HS Z L LB) (hq:Q d O L):lift K Z Q e OB LB:=⟨Z,d,O,L,.refl K Z,h,hs,hh,hq⟩
theorem DC.skip (h:Q .norm O L):DC E N K .skip Q O L:=λZ OB LB hs hh=>bH.skip (qe (d:= .norm) rfl hs hh h)
theorem DC.exit {id:Nat} (h:Q (.exit id) O L):DC E N K (.exit id) Q O L:=λZ OB LB hs hh=>bH.exit (qe (d:= .exit id) rfl hs hh h)
theorem DC.ret (h:Q .ret O L):DC E N K .ret Q O L:=λZ OB LB hs hh=>bH.ret (qe (d:= .ret) rfl hs hh h)
theorem DC.label {l:Nat} (h:Q .norm O L):DC E N K (.label l) Q O L:=λZ OB LB hs hh=>bH.label (qe (d:= .norm) rfl hs hh h)
theorem DC.mono {c:Code} {Q':DQ} (h:DC E N K c Q O L) (hq:∀e O L,Q e O L->Q' e O L):DC E N K c Q' O L:=λZ OB LB hs hh=>
 bH.mono (h Z OB LB hs hh) λ_ _ _ hl=>oz (.refl K Z) hq hl
theorem DC.seq {x y:Code} (h:DC E N K x (DE.then (DC E N K y Q) Q) O L):DC E N K (.seq x y) Q O L:=λZ OB LB hs hh=>by
 refine bH.seq (bH.mono (h Z OB LB hs hh) ?_);rintro e OB' LB' ⟨Z',d,O',L',h1,h2,h3,h4,h5⟩;cases d with
 |norm=>simp only[DE.inst]at h2;subst h2;exact bH.mono (h5 Z' OB' LB' h3 h4) λ_ _ _ hl=>oz h1 (λ_ _ _ h=>h) hl
 |exit i=>simp only[DE.inst]at h2;subst h2;exact⟨Z',.exit i,O',L',h1,rfl,h3,h4,h5⟩
 |ret=>simp only[DE.inst]at h2;subst h2;exact⟨Z',.ret,O',L',h1,rfl,h3,h4,h5⟩
 |aJ x=>obtain⟨y,rfl,h2⟩:=h2;exact⟨Z',.aJ x,O',L',h1,⟨y,rfl,h2⟩,h3,h4,h5⟩
theorem DC.block {id:Nat} {c:Code} (h:DC E N K c (DE.inBlock id Q) O L):DC E N K (.block id c) Q O L:=λZ OB LB hs hh=>by
 refine bH.block (bH.mono (h Z OB LB hs hh) ?_);rintro e OB' LB' ⟨Z',d,O',L',h1,h2,h3,h4,h5⟩;cases d with
 |norm=>simp only[DE.inst]at h2;subst h2;exact⟨Z',.norm,O',L',h1,rfl,h3,h4,h5⟩
 |exit i=>
  simp only[DE.inst]at h2;subst h2;simp only[DE.inBlock]at h5;simp only[AE.inBlock];cases hb:Nat.beq i id with
  |true=>rw[hb]at h5;exact⟨Z',.norm,O',L',h1,rfl,h3,h4,h5⟩
  |false=>rw[hb]at h5;exact⟨Z',.exit i,O',L',h1,rfl,h3,h4,h5⟩
 |ret=>simp only[DE.inst]at h2;subst h2;exact⟨Z',.ret,O',L',h1,rfl,h3,h4,h5⟩
 |aJ x=>obtain⟨y,rfl,h2⟩:=h2;exact⟨Z',.aJ x,O',L',h1,⟨y,rfl,h2⟩,h3,h4,h5⟩
theorem DC.region {id:Nat} {l:List Oper} (h:DO E N K l l Q O L):DC E N K (.region id l.toArray false) Q O L:=λZ OB LB hs hh=>bH.region (h Z OB LB hs hh)
theorem DO.nil {all:List Oper} (h:Q .norm O L):DO E N K all [] Q O L:=λZ OB LB hs hh=>bE.nil (qe (d:= .norm) rfl hs hh h)
def aO (O:TS):Operand->Option CV
 | .tmp t=>O.get t
 | .const v=>some (.d (.v v))
 | .global g=>some (.d (.v (.pointer (some ⟨g,0,none⟩))))
 | .func f=>some (.d (.v (.func (.func f) #[] #[])))
theorem bR {Z:aD} {s:Sl} (hs:SS Z O s) {o:Operand} {x:CV} (h:aO O o=some x):∃y,ev s o=some y/\aC Z x y:=by
 cases o with
 |tmp t=>exact hs t x h
 |const v=>simp only[aO,ax]at h;subst h;exact⟨_,rfl,rfl⟩
 |global g=>simp only[aO,ax]at h;subst h;exact⟨_,rfl,rfl⟩
 |func f=>simp only[aO,ax]at h;subst h;exact⟨_,rfl,rfl⟩
theorem DC.cond {c:Operand} {x y:Code} {t:Bool} (hc:aO O c=some (.d (.v (.bool t)))) (h1:t=true->DC E N K x Q O L) (h2:t=false->DC E N K y Q O L):DC E N K (.cond c x y) Q O L:=
 λZ OB LB hs hh=>by
  obtain⟨z,h3,h4⟩:=bR hs hc;simp only[aC]at h4;subst h4;exact bH.cond h3 (λht=>h1 ht Z OB LB hs hh) (λht=>h2 ht Z OB LB hs hh)
theorem DC.TE {c:Nat} {x y:Code} {t:Bool} (hc:O.get c=some (.d (.v (.bool t)))) (h1:t=true->DC E N K x Q (Tr.put 24 O c (some (.d (.v (.bool true))))) L)
  (h2:t=false->DC E N K y Q (Tr.put 24 O c (some (.d (.v (.bool false))))) L):DC E N K (.cond (.tmp c) x y) Q O L:=by
 refine DC.cond hc (λht=>?_) (λht=>?_)
 all_goals
  subst ht;intro Z OB LB hs hh
  first|refine h1 rfl Z OB LB ?_ hh|refine h2 rfl Z OB LB ?_ hh
  intro u z hz;rcases Tr.eu 24 O c u _ z hz with⟨rfl,h3⟩|⟨_,h3⟩
  ·cases h3;exact hs _ _ hc
  ·exact hs _ _ h3
mutual
def jl (m:Nat):CV->Bool
 | .d _=>true
 | .agg xs=>nP m xs
 | .bX xs=>nP m xs
 | .own t _=>Nat.blt t m
 | .os t _=>Nat.blt t m
 | .oe t _ _=>Nat.blt t m
 | .om t=>Nat.blt t m
 | .fn _ fs cs=>match nP m fs with
  |true=>nP m cs
  |false=>false
 | .bd _ x=>jl m x
def nP (m:Nat):List CV->Bool
 |[]=>true
 |x::r=>match jl m x with
  |true=>nP m r
  |false=>false
end
def EK (m:Nat):aT->Bool
 | .box cs=>nP m cs
 | .map es=>es.all λp=>jl m p.2
 |_=>true
def aD.cut (Z:aD) (m:Nat):aD:=⟨λt=>if t<m then Z.b t else none,λt n=>if t<m then Z.s t n else none⟩
mutual
theorem aC.cut {Z:aD} {m:Nat}:∀{x:CV} {y:AV},jl m x=true->aC Z x y->aC (Z.cut m) x y
 | .d x,_,_,h1=>by simp only[aC]at h1⊢;exact h1
 | .agg xs,_,h,h1=>by simp only[aC]at h1⊢;obtain⟨ys,e,h2⟩:=h1;exact⟨ys,e,aI.cut (by simpa[jl]using h) h2⟩
 | .bX xs,_,h,h1=>by simp only[aC]at h1⊢;obtain⟨ys,e,h2⟩:=h1;exact⟨ys,e,aI.cut (by simpa[jl]using h) h2⟩
 | .own t o,_,h,h1=>by simp only[aC]at h1⊢;obtain⟨b,t',e,h2⟩:=h1;exact⟨b,t',by simp only[jl,kG]at h;simp[aD.cut,h,e],h2⟩
 | .os t n,_,h,h1=>by simp only[aC]at h1⊢;obtain⟨a,c,t',e,h2⟩:=h1;exact⟨a,c,t',by simp only[jl,kG]at h;simp[aD.cut,h,e],h2⟩
 | .oe t n o,_,h,h1=>by simp only[aC]at h1⊢;obtain⟨a,c,t',e,h2⟩:=h1;exact⟨a,c,t',by simp only[jl,kG]at h;simp[aD.cut,h,e],h2⟩
 | .om t,_,h,h1=>by simp only[aC]at h1⊢;obtain⟨b,t',e,h2⟩:=h1;exact⟨b,t',by simp only[jl,kG]at h;simp[aD.cut,h,e],h2⟩
 | .fn f fs cs,_,h,h1=>by
  simp only[jl]at h;split at h
  ·rename_i h0;simp only[aC]at h1⊢;obtain⟨us,vs,e,h2,h3⟩:=h1;exact⟨us,vs,e,aI.cut h0 h2,aI.cut h h3⟩
  ·cases h
 | .bd t x,_,h,h1=>by simp only[aC]at h1⊢;obtain⟨u,e,h2⟩:=h1;exact⟨u,e,aC.cut (by simpa[jl]using h) h2⟩
theorem aI.cut {Z:aD} {m:Nat}:∀{x:List CV} {y:List AV},nP m x=true->aI Z x y->aI (Z.cut m) x y
 |[],_,_,h1=>by simp only[aI]at h1⊢;exact h1
 |_::_,_,h,h1=>by
  simp only[nP]at h;split at h
  ·rename_i h0;simp only[aI]at h1⊢;obtain⟨y,r,e,h2,h3⟩:=h1;exact⟨y,r,e,aC.cut h0 h2,aI.cut h h3⟩
  ·cases h
end
theorem iZ.cut {Z:aD} {m:Nat}:∀{xs:List (Value×CV)} {ys:List (Value×AV)},(xs.all λp=>jl m p.2)=true->iZ Z xs ys->iZ (Z.cut m) xs ys
 |[],_,_,h1=>by simp only[iZ]at h1⊢;exact h1
 |_::_,_,h,h1=>by
  simp only[jw,bj]at h;simp only[iZ]at h1⊢;obtain⟨y,r,e,h2,h3,h4⟩:=h1;exact⟨y,r,e,h2,h3.cut h.1,iZ.cut h.2 h4⟩
theorem kT.cut {Z:aD} {m i:Nat} (hi:i<m) {x:aT} {y:aj} (hb:EK m x=true) (hx:kT Z i x y):kT (Z.cut m) i x y:=by
 have h1:(Z.cut m).b i=Z.b i:=by simp[aD.cut,hi]
 have h2:∀n,(Z.cut m).s i n=Z.s i n:=λn=>by simp[aD.cut,hi]
 cases x with
 |box cs=>obtain⟨b,cs',h3,h4,h5⟩:=hx;exact⟨b,cs',h1.trans h3,h4,h5.cut hb⟩
 |row e k rows=>obtain⟨⟨a,c,h3,h4⟩,h5⟩:=hx;exact⟨⟨a,c,(h2 _).trans h3,h4⟩,λn hn=>(h2 n).trans (h5 n hn)⟩
 |map es=>obtain⟨b,es',h3,h4,h5⟩:=hx;exact⟨b,es',h1.trans h3,h4,h5.cut hb⟩
 |kB cs=>obtain⟨b,h3,h4⟩:=hx;exact⟨b,h1.trans h3,h4⟩
 |gH k rows=>obtain⟨a,c,h3,h4⟩:=hx;exact⟨a,c,(h2 _).trans h3,h4⟩
 |set l=>obtain⟨b,h3,h4⟩:=hx;exact⟨b,h1.trans h3,h4⟩
 |jd l=>obtain⟨b,h3,h4⟩:=hx;exact⟨b,h1.trans h3,h4⟩
 |gone=>trivial
def eA (m:Nat):List Nat->TS->Option (List (Nat×CV))
 |[],_=>some []
 |t::ts,O=>match O.get t,eA m ts O with
  |some x,some r=>match jl m x with
   |true=>some ((t,x)::r)
   |false=>none
  |_,_=>none
def nX:List (Nat×CV)->TS
 |[]=> .lf
 |(t,x)::r=>Tr.put 24 (nX r) t (some x)
theorem A4 {Z:aD} {m:Nat} {s:Sl} (hs:SS Z O s):∀{ts:List Nat} {l:List (Nat×CV)},eA m ts O=some l->SS (Z.cut m) (nX l) s
 |[],_,h=>by simp only[eA,ax]at h;subst h;intro t x hx;simp[nX,Tr.jE]at hx
 |t::ts,l,h=>by
  simp only[eA]at h;split at h
  ·rename_i x r h1 h2;split at h
   ·rename_i h0;simp only[ax]at h;subst h;intro u z hz;rcases Tr.eu 24 _ t u _ z hz with⟨rfl,h3⟩|⟨_,h3⟩
    ·cases h3;obtain⟨y,h4,h5⟩:=hs _ _ h1;exact⟨y,h4,h5.cut h0⟩
    ·exact A4 hs h2 u z h3
   ·cases h
  ·cases h
def tG (m:Nat) (e:Tr aT):Nat->Option (List aT)
 |0=>some []
 |i+1=>match tG m e i,e.get i with
  |some l,some x=>match EK m x with
   |true=>some (l++[x])
   |false=>none
  |some l,none=>some (l++[.gone])
  |none,_=>none
def kV (m:Nat) (L:Hp):Option (List aT):=tG m L.e m
def nW:Nat->List aT->Tr aT
 |_,[]=> .lf
 |i,x::r=>Tr.put 24 (nW (i+1) r) i (some x)
def jP (l:List aT):Hp:=⟨nW 0 l,l.length⟩
theorem Il:∀{l:List aT} {i j:Nat} {x:aT},(nW i l).get j=some x->i<=j/\l[j-i]? =some x
 |[],i,j,x,h=>by simp[nW,Tr.jE]at h
 |y::r,i,j,x,h=>by
  simp only[nW]at h;rcases Tr.eu 24 _ i j _ x h with⟨rfl,h1⟩|⟨hne,h1⟩
  ·cases h1;simp
  ·obtain⟨h2,h3⟩:=Il h1;refine⟨by omega,?_⟩;rw[show j-i=(j-(i+1))+1 by omega];simpa using h3
theorem vP {m:Nat} {e:Tr aT}:∀{n:Nat} {l:List aT},tG m e n=some l->l.length=n/\∀i x,l[i]? =some x->x= .gone\/(e.get i=some x/\EK m x=true)
 |0,l,h=>by simp only[tG,ax]at h;subst h;simp
 |n+1,l,h=>by
  simp only[tG]at h;split at h
  ·rename_i l' x h1 h2;split at h
   ·rename_i h0;simp only[ax]at h;subst h;obtain⟨h3,h4⟩:=vP h1;refine⟨by simp[h3],λi y hy=>?_⟩;rw[XX]at hy;split at hy
    ·exact h4 i y hy
    ·rename_i hi;rw[XY]at hy;split at hy
     ·cases hy;right;rw[<-h2];exact⟨by congr 1;omega,h0⟩
     ·cases hy
   ·cases h
  ·rename_i l' h1 h2;simp only[ax]at h;subst h;obtain⟨h3,h4⟩:=vP h1;refine⟨by simp[h3],λi y hy=>?_⟩;rw[XX]at hy;split at hy
   ·exact h4 i y hy
   ·rw[XY]at hy;split at hy
    ·cases hy;exact .inl rfl
    ·cases hy
  ·cases h
theorem Hy {Z:aD} {m:Nat} {LB:List aj} (hh:HS Z L LB) (hm:m<=L.n) {l:List aT} (h:kV m L=some l):HS (Z.cut m) (jP l) (LB.take m):=by
 obtain⟨h1,h2⟩:=vP h;refine⟨λi x hx=>?_,by simp[jP,h1,hh.len,hm],λt ht=>?_⟩
 ·obtain⟨_,h3⟩:=Il hx;simp only[MZ]at h3;have hi:i<m:=by rw[<-h1];exact(cX.1 h3).1
  have hlt:i<LB.length:=by rw[hh.len];omega
  have hn:nth (LB.take m) i=nth LB i:=by rw[b7,b7,kI,ck hi]
  rw[hn];rcases h2 i x h3 with rfl|⟨h4,h5⟩
  ·exact⟨LB[i],by rw[b7];simp[hlt],trivial⟩
  ·obtain⟨y,h6,h7⟩:=hh.en i x h4;exact⟨y,h6,h7.cut hi h5⟩
 ·have:¬t<m:=by simp only[jP,h1]at ht;omega
  simp[aD.cut,this]
theorem aD.Im {Z:aD} {m:Nat} (hm:K<=m):aD.gf K Z (Z.cut m):=λt ht=>by
 have:t<m:=by omega
 simp[aD.cut,this]
theorem DC.loop {c:Code} (ts:List Nat) (m:Nat) (I:Nat->List (Nat×CV)->List aT->Prop) (n:Nat) (hK:K<=m) {l:List (Nat×CV)} {es:List aT} (hm:m<=L.n) (hp:eA m ts O=some l) (he:kV m L=some es) (h0:I n l es)
  (round:∀n l es,I n l es->DC E N K c (DE.then (λO1 η1=>∃n',n'<n/\∃l' es',m<=η1.n/\eA m ts O1=some l'/\kV m η1=some es'/\I n' l' es') Q) (nX l) (jP es)):DC E N K (.loop c) Q O L:=λZ OB LB hs hh=>by
 refine bH.loop (λn OB LB=>∃Z1 l es,aD.gf K Z Z1/\SS Z1 (nX l) (look OB)/\HS Z1 (jP es) (LB.take m)/\I n l es) n ⟨Z.cut m,l,es,aD.Im hK,A4 hs hp,Hy hh hm he,h0⟩ ?_;rintro n OB1 LB1 ⟨Z1,l1,es1,h1,h2,h3,h4⟩;refine bH.lW (gT.sub (List.take_sublist m LB1)) (bH.mono (round n l1 es1 h4 Z1 OB1 _ h2 h3) ?_);rintro e OB2 LB2 ⟨Z2,d,O2,L2,g1,g2,g3,g4,g5⟩;cases d with
 |norm=>
  simp only[DE.inst]at g2;subst g2;obtain⟨n',hn,l',es',q1,q2,q3,q4⟩:=g5;exact⟨n',hn,Z2.cut m,l',es',(h1.trans g1).trans (aD.Im hK),A4 g3 q2,Hy g4 q1 q3,q4⟩
 |exit i=>simp only[DE.inst]at g2;subst g2;exact⟨Z2,.exit i,O2,L2,h1.trans g1,rfl,g3,g4,g5⟩
 |ret=>simp only[DE.inst]at g2;subst g2;exact⟨Z2,.ret,O2,L2,h1.trans g1,rfl,g3,g4,g5⟩
 |aJ x=>obtain⟨y,rfl,g2⟩:=g2;exact⟨Z2,.aJ x,O2,L2,h1.trans g1,⟨y,rfl,g2⟩,g3,g4,g5⟩
def nf (E:Env) (N K:Nat) (c:Code) (Q:DQ):Nat->TS->Hp->Prop
 |0=>λ_ _=>False
 |n+1=>DC E N K c (DE.then (nf E N K c Q n) Q)
theorem DC.rounds {c:Code} (n:Nat) (h:nf E N K c Q n O L):DC E N K (.loop c) Q O L:=λZ OB LB hs hh=>by
 refine bH.rounds n ?_;have key:∀n Z1 O L OB LB,aD.gf K Z Z1->SS Z1 O (look OB)->HS Z1 L LB->nf E N K c Q n O L->wT E.toCx N c (lift K Z Q) n OB LB:=by
  intro n
  induction n with
  |zero=>intro Z1 O L OB LB _ _ _ h;exact h.elim
  |succ n ih=>
   intro Z1 O L OB LB h1 h2 h3 h4;refine bH.mono (h4 Z1 OB LB h2 h3) ?_;rintro e OB2 LB2 ⟨Z2,d,O2,L2,g1,g2,g3,g4,g5⟩;cases d with
   |norm=>simp only[DE.inst]at g2;subst g2;exact ih Z2 O2 L2 _ _ (h1.trans g1) g3 g4 g5
   |exit i=>simp only[DE.inst]at g2;subst g2;exact⟨Z2,.exit i,O2,L2,h1.trans g1,rfl,g3,g4,g5⟩
   |ret=>simp only[DE.inst]at g2;subst g2;exact⟨Z2,.ret,O2,L2,h1.trans g1,rfl,g3,g4,g5⟩
   |aJ x=>obtain⟨y,rfl,g2⟩:=g2;exact⟨Z2,.aJ x,O2,L2,h1.trans g1,⟨y,rfl,g2⟩,g3,g4,g5⟩
 exact key n Z O L OB LB (.refl K Z) hs hh h
end
theorem bB.mono {C:Cx} {N:Nat} {o:Oper} {s s':Sl} {L:List aj} {x:AV} (h:bB C N o s L x) (hs:∀t∈tmpsOf o,∀y,s t=some y->s' t=some y):bB C N o s' L x:=
 λF w a h1 h2 h3 h4=>h F w a h1 h2 h3 λt ht y hy=>h4 t ht y (hs t ht y hy)
theorem bB.Rx {C:Cx} {N:Nat} {o:Oper} {s s':Sl} {L:List aj} {x:AV} (h:bB C N o s' L x)
  (hs:∀F w a,bh C.G w F L->kg w (Al F L) N a o s->kg w (Al F L) N a o s'):bB C N o s L x:=
 λF w a h1 h2 h3 h4=>h F w a h1 h2 h3 (hs F w a h3 h4)
def dE (O:TS):Sl:=λt=>match O.get t with
 |some (.d x)=>some x
 |_=>none
theorem jF {Z:aD} {O:TS} {s:Sl} (hs:SS Z O s) {t:Nat} {x:AV} (h:dE O t=some x):s t=some x:=by
 unfold dE at h;split at h
 ·rename_i y hy;simp only[ax]at h;subst h;obtain⟨z,h1,h2⟩:=hs t _ hy;simp only[aC]at h2;subst h2;exact h1
 ·cases h
def aR (E:Env) (N:Nat) (o:Oper) (O:TS) (L:Hp) (x:CV):Prop:=∀Z s LB,SS Z O s->HS Z L LB->∃y,aC Z x y/\bB E.toCx N o s LB y
section
variable {E:Env} {N K:Nat} {Q:DQ} {O:TS} {L:Hp} {o:Oper} {x:CV} {all rest:List Oper}
theorem DO.nY (hg:o.guard=none) (hd:b8 N o.dst=true) (h:aR E N o O L x) (k:DO E N K all rest Q (bK O o.dst x) L):DO E N K all (o::rest) Q O L:=λZ OB LB hs hh=>by
 obtain⟨y,h1,h2⟩:=h Z _ LB hs hh;exact bE.nY hg hd h2 (k Z _ LB (hs.put o.dst h1) hh)
theorem aR.cj {y:AV} (h:cj E.T (dE O) o.op=some y):aR E N o O L (.d y):=λZ s LB hs _=>⟨y,rfl,(bB.cj h).mono λ_ _ _ hy=>jF hs hy⟩
theorem aR.dD {y:AV} (h:dD E.P E.T (dE O) o.op=some y):aR E N o O L (.d y):=λZ s LB hs _=>⟨y,rfl,(bB.dD h).mono λ_ _ _ hy=>jF hs hy⟩
theorem aR.fh {y:AV} (h:fh E.P (dE O) o.op=some y):aR E N o O L (.d y):=λZ s LB hs _=>⟨y,rfl,(bB.fh h).mono λ_ _ _ hy=>jF hs hy⟩
theorem aR.kA {y:AV} (h:kA E.G E.T (dE O) o.op=some y):aR E N o O L (.d y):=λZ s LB hs _=>⟨y,rfl,(bB.kA h).mono λ_ _ _ hy=>jF hs hy⟩
def de:CV->List CV
 | .agg xs=>xs
 | .d y=>(bW y).map .d
 |x=>[x]
theorem vK {Z:aD} {x:CV} {y:AV} (h:aC Z x y):aI Z (de x) (bW y):=by
 cases x with
 |d z=>simp only[aC]at h;subst h;exact gv _
 |agg xs=>simp only[aC]at h;obtain⟨ys,rfl,h⟩:=h;exact h
 |bX xs=>have h0:=h;simp only[aC]at h0;obtain⟨ys,rfl,_⟩:=h0;simp only[de,bW,aI];exact⟨_,_,rfl,h,rfl⟩
 |own t n=>have h0:=h;simp only[aC]at h0;obtain⟨b,t',_,rfl⟩:=h0;simp only[de,bW,aI];exact⟨_,_,rfl,h,rfl⟩
 |os t n=>have h0:=h;simp only[aC]at h0;obtain⟨a,c,t',_,rfl⟩:=h0;simp only[de,bW,aI];exact⟨_,_,rfl,h,rfl⟩
 |oe t n m=>have h0:=h;simp only[aC]at h0;obtain⟨a,c,t',_,rfl⟩:=h0;simp only[de,bW,aI];exact⟨_,_,rfl,h,rfl⟩
 |om t=>have h0:=h;simp only[aC]at h0;obtain⟨b,t',_,rfl⟩:=h0;simp only[de,bW,aI];exact⟨_,_,rfl,h,rfl⟩
 |fn f fs cs=>have h0:=h;simp only[aC]at h0;obtain⟨us,vs,rfl,_⟩:=h0;simp only[de,bW,aI];exact⟨_,_,rfl,h,rfl⟩
 |bd t z=>have h0:=h;simp only[aC]at h0;obtain⟨u,rfl,_⟩:=h0;simp only[de,bW,aI];exact⟨_,_,rfl,h,rfl⟩
def o8:List CV->List CV->Option (List CV)
 |xs,[]=>some xs
 |[],_::_=>none
 |_::xs,y::ys=>match o8 xs ys with
  |some r=>some (y::r)
  |none=>none
def kL:List CV->Nat->List CV->Option (List CV)
 |xs,0,ys=>o8 xs ys
 |[],_+1,_=>none
 |x::xs,n+1,ys=>match kL xs n ys with
  |some r=>some (x::r)
  |none=>none
theorem Gm {Z:aD}:∀{ys xs r:List CV} {us vs:List AV},o8 xs ys=some r->aI Z xs us->aI Z ys vs->∃r',kh us vs=some r'/\aI Z r r'
 |[],xs,r,us,vs,h,hx,hy=>by
  simp only[aI]at hy;subst hy;cases xs<;>simp only[o8,ax]at h<;>subst h
  ·simp only[aI]at hx;subst hx;exact⟨[],rfl,rfl⟩
  ·exact⟨us,by cases us<;>rfl,hx⟩
 |y::ys,[],r,us,vs,h,hx,hy=>by simp[o8]at h
 |y::ys,x::xs,r,us,vs,h,hx,hy=>by
  simp only[o8]at h;split at h
  ·rename_i r' h1;simp only[ax]at h;subst h;simp only[aI]at hx hy;obtain⟨u,ur,rfl,_,hx⟩:=hx;obtain⟨v,vr,rfl,hv,hy⟩:=hy;obtain⟨q,h2,h3⟩:=Gm h1 hx hy;exact⟨v::q,by simp[kh,h2],by simp only[aI];exact⟨_,_,rfl,hv,h3⟩⟩
  ·cases h
theorem vG {Z:aD}:∀{n:Nat} {xs ys r:List CV} {us vs:List AV},kL xs n ys=some r->aI Z xs us->aI Z ys vs->∃r',ew us n vs=some r'/\aI Z r r'
 |0,xs,ys,r,us,vs,h,hx,hy=>by
  have h':o8 xs ys=some r:=by cases xs<;>exact h
  obtain⟨q,h1,h2⟩:=Gm h' hx hy;exact⟨q,by cases us<;>exact h1,h2⟩
 |n+1,[],ys,r,us,vs,h,hx,hy=>by simp[kL]at h
 |n+1,x::xs,ys,r,us,vs,h,hx,hy=>by
  simp only[kL]at h;split at h
  ·rename_i r' h1;simp only[ax]at h;subst h;simp only[aI]at hx;obtain⟨u,ur,rfl,hu,hx⟩:=hx;obtain⟨q,h2,h3⟩:=vG h1 hx hy;exact⟨u::q,by simp[ew,h2],by simp only[aI];exact⟨_,_,rfl,hu,h3⟩⟩
  ·cases h
def ub (fs:List (Nat×Nat×Nat×Bool)) (O:TS):List CV->List (Nat×Operand)->Option (List CV)
 |cells,[]=>some cells
 |cells,(i,o)::rest=>match nth fs i,aO O o with
  |some (off,_,k,_),some x=>match Nat.beq (de x).length k,kL cells off (de x)with
   |true,some cells'=>ub fs O cells' rest
   |_,_=>none
  |_,_=>none
theorem Gn {Z:aD} {s:Sl} (hs:SS Z O s) {fs:List (Nat×Nat×Nat×Bool)}:∀{l:List (Nat×Operand)} {cells r:List CV} {us:List AV},ub fs O cells l=some r->aI Z cells us->∃r',lT fs s us l=some r'/\aI Z r r'
 |[],cells,r,us,h,hr=>by simp only[ub,ax]at h;subst h;exact⟨us,rfl,hr⟩
 |(i,p)::l,cells,r,us,h,hr=>by
  simp only[ub]at h;split at h
  ·rename_i off t k g x h1 h2;split at h
   ·rename_i cells' h3 h4;obtain⟨y,h5,h6⟩:=bR hs h2;have h7:=vK h6;obtain⟨q,h8,h9⟩:=vG h4 hr h7;obtain⟨r',h10,h11⟩:=Gn hs h h9;refine⟨r',?_,h11⟩;simp only[lT,h1,h5,h7.length,h3,h8,h10]
   ·cases h
  ·cases h
def po (O:TS):List Operand->Option (List CV)
 |[]=>some []
 |o::r=>match aO O o,po O r with
  |some x,some xs=>some (x::xs)
  |_,_=>none
theorem qh {Z:aD} {s:Sl} (hs:SS Z O s):∀{os:List Operand} {xs:List CV},po O os=some xs->∃ys,gY s os=some ys/\aI Z xs ys
 |[],_,h=>by simp only[po,ax]at h;subst h;exact⟨[],rfl,rfl⟩
 |o::os,xs,h=>by
  simp only[po]at h;split at h
  ·rename_i x ys h1 h2;simp only[ax]at h;subst h;obtain⟨y,h3,h4⟩:=bR hs h1;obtain⟨zs,h5,h6⟩:=qh hs h2;exact⟨y::zs,by simp[gY,h3,h5],by simp only[aI];exact⟨_,_,rfl,h4,h6⟩⟩
  ·cases h
def nK:List CV->Bool
 |[]=>false
 | .d _::r=>nK r
 |_::_=>true
theorem AA {Z:aD}:∀{xs:List CV} {ys:List AV},nK xs=true->aI Z xs ys->mD ys=none
 |[],_,h,_=>by simp[nK]at h
 |x::r,ys,h,hr=>by
  simp only[aI]at hr;obtain⟨y,r',rfl,h1,h2⟩:=hr;cases x with
  |d z=>
   simp only[nK]at h;have:=AA h h2;cases y<;>simp[mD,this]
  |agg xs=>simp only[aC]at h1;obtain⟨ys,rfl,_⟩:=h1;rfl
  |bX xs=>simp only[aC]at h1;obtain⟨ys,rfl,_⟩:=h1;rfl
  |own t n=>simp only[aC]at h1;obtain⟨b,t',_,rfl⟩:=h1;rfl
  |os t n=>simp only[aC]at h1;obtain⟨a,c,t',_,rfl⟩:=h1;rfl
  |oe t n m=>simp only[aC]at h1;obtain⟨a,c,t',_,rfl⟩:=h1;rfl
  |om t=>simp only[aC]at h1;obtain⟨b,t',_,rfl⟩:=h1;rfl
  |fn f fs cs=>simp only[aC]at h1;obtain⟨us,vs,rfl,_⟩:=h1;rfl
  |bd t z=>simp only[aC]at h1;obtain⟨u,rfl,_⟩:=h1;rfl
def mH (T:bD) (O:TS):Op->Option CV
 | .move x=>aO O x
 | .assign x=>aO O x
 | .pick c a b=>match aO O c with
  |some (.d (.v (.bool true)))=>aO O a
  |some (.d (.v (.bool false)))=>aO O b
  |_=>none
 | .extract x i=>match aO O x with
  |some (.bX xs)=>nth xs i
  |_=>none
 | .field t x f=>match aO O x,aP T t with
  |some (.agg xs),some ⟨.struct fs,_,_,_⟩=>match nth fs f with
   |some (o,_,k,g)=>match g with
    |true=>some (rj ((xs.drop o).take k))
    |false=>nth xs o
   |none=>none
  |_,_=>none
 | .fieldAddr t x f=>match aP T t with
  |some ⟨.struct fs,_,_,_⟩=>match nth fs f with
   |some (off,_,_,_)=>match aO O x with
    |some (.own t o)=>some (.own t (o+off))
    |some (.oe t n o)=>some (.oe t n (o+off))
    |_=>none
   |none=>none
  |_=>none
 | .nilCheck x=>match aO O x with
  |some (.own t o)=>some (.own t o)
  |some (.oe t n o)=>some (.oe t n o)
  |some (.fn f fs cs)=>some (.fn f fs cs)
  |_=>none
 | .makeInterface t x=>match aO O x,aP T t with
  |some _,some ⟨.iface,_,_,_⟩=>none
  |some y,some _=>some (.bd t y)
  |_,_=>none
 | .typeAssert x _ t ok=>match aO O x,aP T t with
  |some (.bd _ _),some ⟨.iface,_,_,_⟩=>none
  |some (.bd u y),some _=>match Nat.beq u t,ok with
   |true,true=>some (.bX [y,.d (.v (.bool true))])
   |true,false=>some y
   |false,_=>none
  |_,_=>none
 | .makeFunc (.func f) first caps=>match po O first.toList,po O caps.toList with
  |some fs,some cs=>match nK fs,nK cs with
   |false,false=>none
   |_,_=>some (.fn f fs cs)
  |_,_=>none
 | .build t parts=>match aP T t with
  |some ⟨.struct fs,_,_,z⟩=>match ub fs O ((z.map .v).map .d) parts.toList with
   |some cells=>some (rj cells)
   |none=>none
  |_=>none
 |_=>none
theorem Ie {Z:aD} {s:Sl} (hs:SS Z O s) {T:bD} {op:Op} (h:mH T O op=some x):∃y,cj T s op=some y/\aC Z x y:=by
 unfold mH at h;split at h
 ·exact bR hs h
 ·exact bR hs h
 ·rename_i c a b;split at h
  ·rename_i hc;obtain⟨y,h1,h2⟩:=bR hs hc;simp only[aC]at h2;subst h2;obtain⟨z,h3,h4⟩:=bR hs h;exact⟨z,by simp only[cj,h1,h3],h4⟩
  ·rename_i hc;obtain⟨y,h1,h2⟩:=bR hs hc;simp only[aC]at h2;subst h2;obtain⟨z,h3,h4⟩:=bR hs h;exact⟨z,by simp only[cj,h1,h3],h4⟩
  ·cases h
 ·rename_i y i;split at h
  ·rename_i xs hy;obtain⟨z,h1,h2⟩:=bR hs hy;simp only[aC]at h2;obtain⟨ys,rfl,h2⟩:=h2;obtain⟨u,h3,h4⟩:=h2.nth h;exact⟨u,by simp only[cj,h1,h3],h4⟩
  ·cases h
 ·rename_i t y f;split at h
  ·rename_i xs fs _ _ _ hy ht;split at h
   ·rename_i off ft k g hf;obtain⟨z,h1,h2⟩:=bR hs hy;simp only[aC]at h2;obtain⟨ys,rfl,h2⟩:=h2;split at h
    ·simp only[ax]at h;subst h;exact⟨_,by simp only[cj,h1,ht,hf,rk],vT ((h2.drop off).take k)⟩
    ·obtain⟨u,h3,h4⟩:=h2.nth h;exact⟨u,by simp only[cj,h1,ht,hf,rk,h3],h4⟩
   ·cases h
  ·cases h
 ·rename_i t y f;split at h
  ·rename_i fs _ _ _ ht;split at h
   ·rename_i off ft k g hf;split at h
    ·rename_i tg o hy;simp only[ax]at h;subst h;obtain⟨z,h1,h2⟩:=bR hs hy;simp only[aC]at h2;obtain⟨b,t',h2,rfl⟩:=h2;exact⟨.own t' b (o+off),by simp only[cj,ht,hf,h1],by simp only[aC];exact⟨b,t',h2,rfl⟩⟩
    ·rename_i tg n o hy;simp only[ax]at h;subst h;obtain⟨z,h1,h2⟩:=bR hs hy;simp only[aC]at h2;obtain⟨a,c,t',h2,rfl⟩:=h2;exact⟨.oe t' (.slice a n c) (o+off),by simp only[cj,ht,hf,h1],by simp only[aC];exact⟨a,c,t',h2,rfl⟩⟩
    ·cases h
   ·cases h
  ·cases h
 ·rename_i y;split at h
  ·rename_i tg o hy;simp only[ax]at h;subst h;obtain⟨z,h1,h2⟩:=bR hs hy;have h3:=h2;simp only[aC]at h3;obtain⟨b,t',_,rfl⟩:=h3;exact⟨_,by simp only[cj,h1],h2⟩
  ·rename_i tg n o hy;simp only[ax]at h;subst h;obtain⟨z,h1,h2⟩:=bR hs hy;have h3:=h2;simp only[aC]at h3;obtain⟨a,c,t',_,rfl⟩:=h3;exact⟨_,by simp only[cj,h1],h2⟩
  ·rename_i f fs cs hy;simp only[ax]at h;subst h;obtain⟨z,h1,h2⟩:=bR hs hy;have h3:=h2;simp only[aC]at h3;obtain⟨us,vs,rfl,_⟩:=h3;exact⟨_,by simp only[cj,h1],h2⟩
  ·cases h
 ·rename_i t y;split at h
  ·cases h
  ·rename_i u i hne hy ht;simp only[ax]at h;subst h;obtain⟨z,h1,h2⟩:=bR hs hy;refine⟨.bd t z,?_,by simp only[aC];exact⟨z,rfl,h2⟩⟩;simp only[cj,h1,ht]
  ·cases h
 ·rename_i y xt t ok;split at h
  ·cases h
  ·rename_i u y' i hne hy ht;obtain⟨z,h1,h2⟩:=bR hs hy;simp only[aC]at h2;obtain⟨z',rfl,h2⟩:=h2;have key:cj T s (.typeAssert y xt t ok)=(match(generalizing:=false) Nat.beq u t,ok with
     |true,true=>some (AV.bX [z',.v (.bool true)])
     |true,false=>some z'
     |false,_=>none):=by
    simp only[cj,h1,ht];rfl
   rw[key];cases hb:Nat.beq u t with
   |false=>rw[hb]at h;cases h
   |true=>
    rw[hb]at h;cases ok with
    |true=>
     simp only[ax]at h;subst h;refine⟨_,rfl,?_⟩;simp only[aC,aI];exact⟨_,rfl,_,_,rfl,h2,_,_,rfl,rfl,rfl⟩
    |false=>
     simp only[ax]at h;subst h;exact⟨_,rfl,h2⟩
  ·cases h
 ·rename_i f first caps
  split at h
  ·rename_i fs cs h1 h2;obtain⟨us,h3,h4⟩:=qh hs h1;obtain⟨vs,h5,h6⟩:=qh hs h2;split at h
   ·cases h
   ·rename_i hne;simp only[ax]at h;subst h;refine⟨.fn f us vs,?_,by simp only[aC];exact⟨us,vs,rfl,h4,h6⟩⟩;simp only[cj,h3,h5];cases hr:nK fs with
    |true=>rw[AA hr h4]
    |false=>cases hr':nK cs with
     |true=>rw[AA hr' h6];cases mD us<;>rfl
     |false=>exact(hne hr hr').elim
  ·cases h
 ·rename_i t parts;split at h
  ·rename_i fs _ _ z ht;split at h
   ·rename_i cells hf;simp only[ax]at h;subst h;obtain⟨r',h1,h2⟩:=Gn hs hf (gv _);exact⟨.agg r',by simp only[cj,ht,h1],vT h2⟩
   ·cases h
  ·cases h
 ·cases h
theorem aR.mH (h:mH E.T O o.op=some x):aR E N o O L x:=λZ s LB hs _=>by
 obtain⟨y,h1,h2⟩:=Ie hs h;exact⟨y,h2,bB.cj h1⟩
def xO (T:bD) (t:TypeId) (cs:List CV) (o:Nat):Option CV:=
 match aP T t with
 |some ⟨d,k,_,_⟩=>match d.agg with
  |true=>match Nat.ble k (cs.drop o).length with
   |true=>some (rj ((cs.drop o).take k))
   |false=>none
  |false=>nth cs o
 |none=>none
theorem Az:∀{l:List AV} {n:Nat},n<=l.length->fits l n=true
 |_,0,_=>by simp[fits]
 |[],n+1,h=>by simp at h
 |_::r,n+1,h=>by simp only[fits];exact Az (by simpa using h)
theorem Ob {Z:aD} {T:bD} {t:TypeId} {cs:List CV} {us:List AV} {off:Nat} (h:xO T t cs off=some x) (hc:aI Z cs us):∃y,iA T t us off=some y/\aC Z x y:=by
 unfold xO at h;split at h
 ·rename_i d k b z ht;split at h
  ·rename_i hd;split at h
   ·rename_i hle;simp only[ax]at h;subst h;have hle:=dj hle;refine⟨.agg ((us.drop off).take k),?_,vT ((hc.drop off).take k)⟩;simp only[iA,ht,hd];rw[Az (by rw[(hc.drop off).length];exact hle)]
   ·cases h
  ·rename_i hd;obtain⟨y,h1,h2⟩:=hc.nth h;exact⟨y,by simp only[iA,ht,hd,h1],h2⟩
 ·cases h
theorem Gp {p:Operand} (h:aO O p=some x) (hx:∀y,x≠ .d y):∃t,p= .tmp t/\O.get t=some x:=by
 cases p with
 |tmp t=>exact⟨t,rfl,h⟩
 |const v=>simp only[aO,ax]at h;exact(hx _ h.symm).elim
 |global g=>simp only[aO,ax]at h;exact(hx _ h.symm).elim
 |func f=>simp only[aO,ax]at h;exact(hx _ h.symm).elim
theorem aR.load {t:TypeId} {p:Operand} {i off:Nat} {cs:List CV} (ho:o.op= .load t p) (hp:aO O p=some (.own i off)) (hi:L.e.get i=some (.box cs)) (hl:xO E.T t cs off=some x):aR E N o O L x:=λZ s LB hs hh=>by
 obtain⟨y,h1,h2⟩:=bR hs hp;simp only[aC]at h2;obtain⟨b,t',h3,rfl⟩:=h2;obtain⟨z,h4,h5⟩:=hh.en i _ hi;obtain⟨b',cs',h6,rfl,h7⟩:=h5;rw[h3]at h6;cases h6;obtain⟨q,h8,h9⟩:=Ob hl h7;exact⟨q,h9,bB.mI (PD ho (by rw[eV (by simp[ho,Op.operands])];exact h1) h4 h8)⟩
def fK (s:Sl) (t:Nat) (x:AV):Sl:=λu=>if u=t then some x else s u
theorem bB.known {C:Cx} {s:Sl} {LB:List aj} {t:Nat} {x:AV} {y z:AV} (h:bB C N o (fK s t z) LB x) (ht:s t=some y) (hk:∀F w v,bh C.G w F LB->Rel w (Al F LB) y v->Rel w (Al F LB) z v):bB C N o s LB x:=
 h.Rx λF w a hh hs u hu q hq=>by
  unfold fK at hq;split at hq
  ·rename_i hut;subst hut;simp only[ax]at hq;subst hq;obtain⟨h1,h2⟩:=hs u hu y ht;exact⟨h1,hk F w _ hh h2⟩
  ·exact hs u hu q hq
theorem oG {G:Gl} {w:World} {F:Nat->Prop} {LB:List aj} (hh:bh G w F LB) {i:Nat} {x:AV} {v:Value} (h:nth LB i=some (.fact x v)):Rel w (Al F LB) x v:=ie hh h
theorem Rel.BR {w:World} {A:Nat->Prop} {cs:List AV} {b:Nat} (off:Nat) (h:Rel w A (.ip cs) (.pointer (some ⟨b,0,none⟩))):Rel w A (.ip (cs.drop off)) (.pointer (some ⟨b,off,none⟩)):=by
 simp only[Rel]at h⊢;obtain⟨b',o',vs,e1,e2,e3,e4⟩:=h;cases e1;exact⟨b,off,vs.drop off,rfl,e2,e3.drop off,λj u hj=>by rw[su]at hj;have:=e4 _ _ hj;simpa using this⟩
theorem aR.TG {t:TypeId} {p:Operand} {i off:Nat} {cs:List AV} {y:AV} (ho:o.op= .load t p) (hp:aO O p=some (.own i off)) (hi:L.e.get i=some (.kB cs)) (hl:iA E.T t (cs.drop off) 0=some y):aR E N o O L (.d y):=λZ s LB hs hh=>by
 obtain⟨u,rfl,hu⟩:=Gp hp (λ_ h=>by cases h);obtain⟨z,h1,h2⟩:=hs u _ hu;simp only[aC]at h2;obtain⟨b,t',h3,rfl⟩:=h2;obtain⟨z,h4,h5⟩:=hh.en i _ hi;obtain⟨b',h6,rfl⟩:=h5;rw[h3]at h6;cases h6;refine⟨y,rfl,bB.known (t:=u) (z:= .ip (cs.drop off)) (bB.cj ?_) h1 λF w v hH hr=>?_⟩
 ·rw[ho];unfold iA at hl;simp only[Bw.cj,ev,fK,if_true];split at hl
  ·rename_i d k b z ht;simp only[ht];simp only[List.drop_zero]at hl;rw[<-hl];cases d.agg<;>rfl
  ·cases hl
 ·simp only[Rel]at hr;subst hr;exact(oG hH h4).BR off
theorem aR.len {t:TypeId} {p:Operand} {i n e k sz by':Nat} {z:List Value} (ho:o.op= .call {callee:= .builtin .len,args:= #[p],argTypes:= #[t]}) (hp:aO O p=some (.os i n)) (ht:aP E.T t=some ⟨.slice e k,sz,by',z⟩):aR E N o O L (.d (.v (.int .i64 (n:Int)))):=λZ s LB hs _=>by
 obtain⟨y,h1,h2⟩:=bR hs hp;simp only[aC]at h2;obtain⟨a,c,t',h3,rfl⟩:=h2;exact⟨_,rfl,bB.len ho h1 (by simp[rv,ht])⟩
theorem aR.UE {t:TypeId} {p:Operand} {y:AV} {n:Int} (ho:o.op= .call {callee:= .builtin .len,args:= #[p],argTypes:= #[t]}) (hp:aO O p=some (.d y)) (hl:rv E.T t y=some n):aR E N o O L (.d (.v (.int .i64 n))):=λZ s LB hs _=>by
 obtain⟨z,h1,h2⟩:=bR hs hp;simp only[aC]at h2;subst h2;exact⟨_,rfl,bB.len ho h1 hl⟩
theorem aR.Ji {t:TypeId} {p ix:Operand} {i n e k sz by':Nat} {z:List Value} {rows:List (List AV)} {kd:IntKind} {m:Int} (j:Nat) (ho:o.op= .indexAddr t p ix) (hp:aO O p=some (.os i n)) (hi:L.e.get i=some (.row e k rows)) (hn:n=rows.length)
  (ht:aP E.T t=some ⟨.slice e k,sz,by',z⟩) (hix:aO O ix=some (.d (.v (.int kd m)))) (hm:m=(j:Int)) (hj:j<rows.length):aR E N o O L (.oe i n (j*k)):=λZ s LB hs hh=>by
 obtain⟨y,h1,h2⟩:=bR hs hp;simp only[aC]at h2;obtain⟨a,c,t',h3,rfl⟩:=h2;obtain⟨y',h4,h5⟩:=bR hs hix;simp only[aC]at h5;subst h5;obtain⟨q,h6,h7⟩:=hh.en i _ hi;obtain⟨⟨a',c',h8,rfl⟩,_⟩:=h7;subst hn;rw[h3]at h8;cases h8;refine⟨.oe i (.slice a rows.length c) (j*k),by simp only[aC];exact⟨a,c,i,h3,rfl⟩,?_⟩;exact bB.mI (Oc ho j ht (by rw[eV (by simp[ho,Op.operands])];exact h1) h6 (by rw[eV (by simp[ho,Op.operands])];exact h4) hm hj)
theorem aR.Ig {t:TypeId} {p:Operand} {i n m e k:Nat} {rows:List (List AV)} {r:List AV} {y:AV} (j off:Nat) (ho:o.op= .load t p) (hp:aO O p=some (.oe i n m)) (hi:L.e.get i=some (.row e k rows)) (hn:n=rows.length) (hm:m=j*k+off) (hr:rows[j]? =some r)
  (hl:iA E.T t r off=some y):aR E N o O L (.d y):=λZ s LB hs hh=>by
 obtain⟨z,h1,h2⟩:=bR hs hp;simp only[aC]at h2;obtain⟨a,c,t',h3,rfl⟩:=h2;obtain⟨q,h6,h7⟩:=hh.en i _ hi;obtain⟨⟨a',c',h8,rfl⟩,_⟩:=h7;subst hn;rw[h3]at h8;cases h8;exact⟨y,rfl,bB.mI (NN ho j off (by rw[eV (by simp[ho,Op.operands])];exact h1) hm h6 hr hl)⟩
theorem aR.UD {t:TypeId} {p ix:Operand} {i n e k sz by':Nat} {z:List Value} {rows:List (List AV)} {r:List AV} {kd:IntKind} {m:Int} (j:Nat) (ho:o.op= .indexAddr t p ix) (hp:aO O p=some (.os i n)) (hi:L.e.get i=some (.gH k rows)) (hn:n=rows.length)
  (ht:aP E.T t=some ⟨.slice e k,sz,by',z⟩) (hix:aO O ix=some (.d (.v (.int kd m)))) (hm:m=(j:Int)) (hr:rows[j]? =some r):aR E N o O L (.d (.ip r)):=λZ s LB hs hh=>by
 obtain⟨u,rfl,hu⟩:=Gp hp (λ_ h=>by cases h);obtain⟨y,h1,h2⟩:=hs u _ hu;simp only[aC]at h2;obtain⟨a,c,t',h3,rfl⟩:=h2;obtain⟨q,h6,h7⟩:=hh.en i _ hi;obtain⟨a',c',h8,rfl⟩:=h7;subst hn;rw[h3]at h8;cases h8;obtain⟨y',h4,h5⟩:=bR hs hix;simp only[aC]at h5;subst h5;subst hm;refine⟨.ip r,rfl,bB.known (t:=u) (z:= .sl k rows) ?_ h1 λF w v hH hrl=>?_⟩
 ·refine bB.dD (E:=E) ?_;have hev:ev (fK s u (.sl k rows)) ix=some (.v (.int kd (j:Int))):=by
   cases ix with
   |tmp q=>
    simp only[ev,fK]at h4⊢;split
    ·rename_i hq;subst hq;rw[h1]at h4;cases h4
    ·exact h4
   |const v=>exact h4
   |global g=>exact h4
   |func f=>exact h4
  have hnat:lX (some (.v (.int kd (j:Int))))=some j:=rfl;rw[ho];simp only[Bw.dD,hev,hnat,ht,vv,b7];simp[ev,fK,hr]
 ·simp only[Rel]at hrl;subst hrl;exact oG hH h6
