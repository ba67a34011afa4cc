/- Lists of names: what the functions about them answer. -/
import Derived.Test.YtnocmolegijmkaaGreatKVe
import Derived.Test.YtnocmolegijmkaaGreatKVd
set_option linter.all false
namespace Go.Proofs.YtnocmolegijmkaaGreat
open Go Go.Bw
section
variable {D:Type}
theorem mA (x:D) (a:List D):decide (((x::a).length:Int)>0)=true:=by simp
theorem oA:decide ((([]:List D).length:Int)>0)=false:=rfl
theorem lj (x:D) (a:List D):(((x::a).length:Int)==0)=false:=by simp;omega
theorem jg:((([]:List D).length:Int)==0)=true:=rfl
theorem eH (x:D) (a:List D):aq (x::a) 0=some x:=rfl
theorem nD (x:D) (a:List D):cn (x::a) 1 ((x::a).length:Int)=some a:=by
 show(bif Nat.ble 1 (x::a).length&&Nat.ble (x::a).length (x::a).length then some (((x::a).take (x::a).length).drop 1)else none)=_;rw[qA (by simp),qA (bW _),eN];rfl
theorem eC {n m:Nat} (h:n<=m):decide (n<=m)=true:=by simpa using h
end
theorem tA:∀{l:List (List UInt8)},rising l=true↔l.Pairwise λa b=>Op.bytesLess a b=true
 |[]=>by simp[rising]
 |x::l=>by rw[kp,xu,tA]
theorem adY {a b:List UInt8}:eB a b<0↔Op.bytesLess a b=true:=by
 unfold eB;cases h:Op.bytesLess a b
 ·cases Op.bytesLess b a<;>simp
 ·simp
theorem H3 {a b:List UInt8}:eB a b<=0↔a=b\/Op.bytesLess a b=true:=by
 rw[<-adY,<-ng.fE];omega
theorem oU {zs:List (List UInt8)} {j:Nat} (h:j<zs.length):zs.toArray[j]! =zs[j]:=by simp[h]
theorem abm {zs:List (List UInt8)} {x:List UInt8}:x∈Lib.compact zs↔x∈zs:=by
 unfold Lib.compact Lib.compactUpTo;simp only[dy,iw,Dj];constructor
 ·rintro ⟨j,⟨hj,_⟩,rfl⟩;rw[oU hj];exact List.getElem_mem hj
 ·intro hx;obtain⟨j,hj,rfl⟩:=anQ hx;clear hx
  induction j with
  |zero=>exact⟨0,⟨hj,by simp[Lib.keeps]⟩,oU hj⟩
  |succ j ih=>
   by_cases h:zs[j+1]=zs[j]
   ·rw[h];exact ih (by omega)
   ·exact⟨j+1,⟨hj,by simp only[Lib.keeps,jA];right;rw[oU hj,show j+1-1=j from rfl,oU (by omega)];exact h⟩,oU hj⟩
theorem aaF {zs:List (List UInt8)} (h:zs.Pairwise λa b=>eB a b<=0):rising (Lib.compact zs)=true:=by
 rw[tA];unfold Lib.compact Lib.compactUpTo;rw[List.pairwise_map,List.pairwise_filter];refine List.Pairwise.imp_of_mem (λ{i j} hi hj hlt _ kj=>?_) List.pairwise_lt_range;rw[Dj]at hi hj;rw[oU hi,oU hj];simp only[Lib.keeps,jA]at kj;rw[Hh]at h;have hne:zs[j]≠zs[j-1]:=by
  rcases kj with k|k
  ·omega
  ·rwa[oU hj,oU (by omega)]at k
 have h1:Op.bytesLess zs[j-1] zs[j]=true:=by
  rcases H3.1 (h (j-1) j (by omega) hj (by omega))with e|e
  ·exact absurd e.symm hne
  ·exact e
 by_cases e:i=j-1
 ·subst e;exact h1
 ·rcases H3.1 (h i (j-1) hi (by omega) (by omega))with e|e
  ·rw[e];exact h1
  ·exact qV e h1
theorem abn {zs:List (List UInt8)}:(Lib.compact zs).length<=zs.length:=by
 unfold Lib.compact Lib.compactUpTo;rw[jy];exact iO (Dy _ _) (by simp)
theorem SQ {l:List (List UInt8)} {x:List UInt8}:x∈eW l↔x∈l:=abm.trans (oc l).mem_iff
theorem HL {l:List (List UInt8)}:rising (eW l)=true:=aaF (sV ng l)
theorem tK {l:List (List UInt8)}:(eW l).length<=l.length:=iO abn (by rw[nc];exact bW _)
theorem Ux {l:List (List UInt8)} (h:rising l=true):eW l=l:=D1 HL h λ_=>SQ
theorem zY {l:List (List UInt8)} (h:l.length<=274877906944):wG l=some (eW l):=
 (afv l).trans (by rw[eC h];rfl)
def cN:List (List UInt8)->List (List UInt8)->List (List UInt8)
 |[],[]=>[]
 |[],y::b=>y::cN [] b
 |x::a,[]=>x::cN a []
 |x::a,y::b=>if Op.bytesLess x y=true then x::cN a (y::b)else if Op.bytesLess y x=true then y::cN (x::a) b else x::cN a b
termination_by a b=>a.length+b.length
theorem S0:∀a b:List (List UInt8),(cN a b).length<=a.length+b.length:=by
 intro a b
 induction a,b using cN.induct with
 |case1=>simp[cN]
 |case2 y b ih=>rw[cN];simp at*;omega
 |case3 x a ih=>rw[cN];simp at*;omega
 |case4 x a y b h ih=>rw[cN,bf h];simp at*;omega
 |case5 x a y b h g ih=>rw[cN,aM h,bf g];simp at*;omega
 |case6 x a y b h g ih=>rw[cN,aM h,aM g];simp at*;omega
theorem qU:∀{a b:List (List UInt8)} {z:List UInt8},z∈cN a b↔z∈a\/z∈b:=by
 intro a b z
 induction a,b using cN.induct with
 |case1=>simp[cN]
 |case2 y b ih=>rw[cN,ck,ih];simp
 |case3 x a ih=>rw[cN,ck,ih];simp
 |case4 x a y b h ih=>rw[cN,bf h,ck,ih];simp only[ck];exact or_assoc.symm
 |case5 x a y b h g ih=>rw[cN,aM h,bf g,ck,ih];simp only[ck];exact or_left_comm
 |case6 x a y b h g ih=>
  have e:x=y:=by
   rcases rJ x y with e|e|e
   ·exact e
   ·exact absurd e h
   ·exact absurd e g
  subst e;rw[cN,aM h,aM g,ck,ih];simp only[ck];constructor
  ·rintro (e|e|e)
   ·exact .inl (.inl e)
   ·exact .inl (.inr e)
   ·exact .inr (.inr e)
  ·rintro ((e|e)|(e|e))
   ·exact .inl e
   ·exact .inr (.inl e)
   ·exact .inl e
   ·exact .inr (.inr e)
theorem Qz:∀{a b:List (List UInt8)},rising a=true->rising b=true->rising (cN a b)=true:=by
 intro a b
 induction a,b using cN.induct with
 |case1=>intro _ _;simp[cN,rising]
 |case2 y b ih=>
  intro ha hb;rw[kp]at hb;rw[cN,kp];exact⟨λz hz=>by rw[qU]at hz;exact hz.elim (by simp) (hb.1 z),ih ha hb.2⟩
 |case3 x a ih=>
  intro ha hb;rw[kp]at ha;rw[cN,kp];exact⟨λz hz=>by rw[qU]at hz;exact hz.elim (ha.1 z) (by simp),ih ha.2 hb⟩
 |case4 x a y b h ih=>
  intro ha hb;have hb':=hb;rw[kp]at ha hb';rw[cN,bf h,kp];refine⟨λz hz=>?_,ih ha.2 hb⟩;rw[qU,ck]at hz;rcases hz with hz|rfl|hz
  ·exact ha.1 z hz
  ·exact h
  ·exact qV h (hb'.1 z hz)
 |case5 x a y b h g ih=>
  intro ha hb;have ha':=ha;rw[kp]at ha' hb;rw[cN,aM h,bf g,kp];refine⟨λz hz=>?_,ih ha hb.2⟩;rw[qU,ck]at hz;rcases hz with(rfl|hz)|hz
  ·exact g
  ·exact qV g (ha'.1 z hz)
  ·exact hb.1 z hz
 |case6 x a y b h g ih=>
  intro ha hb;have e:x=y:=by
   rcases rJ x y with e|e|e
   ·exact e
   ·exact absurd e h
   ·exact absurd e g
  subst e;rw[kp]at ha hb;rw[cN,aM h,aM g,kp];exact⟨λz hz=>by rw[qU]at hz;exact hz.elim (ha.1 z) (hb.1 z),ih ha.2 hb.2⟩
theorem adZ:∀(a b s:List (List UInt8)),a.length+b.length+s.length<=274877906944->(fV Pf) true true true a b s=some (s++cN a b):=by
 intro a b
 induction a,b using cN.induct with
 |case1=>intro s _;rw[uJ,nw];simp only[bH,oA,aC];simp[cN]
 |case2 y b ih=>
  intro s hs;rw[uJ,nw];simp only[bH,oA,aC,mA,aB,lj,jg,eH,ax,nD];rw[eC (by simp at*;omega),aB,ih (s++[y]) (by simp at*;omega)];simp[cN]
 |case3 x a ih=>
  intro s hs;rw[uJ,nw];simp only[bH,oA,aC,mA,aB,lj,jg,eH,ax,nD];rw[eC (by simp at*;omega),aB,ih (s++[x]) (by simp at*;omega)];simp[cN]
 |case4 x a y b h ih=>
  intro s hs;rw[uJ,nw];simp only[bH,oA,aC,mA,aB,lj,jg,eH,ax,nD,h];rw[eC (by simp at*;omega),aB,ih (s++[x]) (by simp at*;omega),cN,bf h];simp
 |case5 x a y b h g ih=>
  intro s hs;have h':Op.bytesLess x y=false:=by simpa using h
  rw[uJ,nw];simp only[bH,oA,aC,mA,aB,lj,jg,eH,ax,nD,h',g];rw[eC (by simp at*;omega),aB,ih (s++[y]) (by simp at*;omega),cN,aM h,bf g];simp
 |case6 x a y b h g ih=>
  intro s hs;have h':Op.bytesLess x y=false:=by simpa using h
  have g':Op.bytesLess y x=false:=by simpa using g
  rw[uJ,nw];simp only[bH,oA,aC,mA,aB,lj,jg,eH,ax,nD,h',g'];rw[eC (by simp at*;omega),aB,ih (s++[x]) (by simp at*;omega),cN,aM h,aM g];simp
theorem union_eq {a b:List (List UInt8)} (h:a.length+b.length<=274877906944) (ha:rising a=true) (hb:rising b=true):(f191 Pf) a b=some (cN a b):=by
 rw[ajj,Bg,ajk,Bh,F1,zY (by omega),ax,zY (by omega),ax,Ux ha,Ux hb,adZ a b [] (by simpa using h)];rfl
theorem adK {a b:List (List UInt8)} (ha:a.length<=274877906944) (hb:b.length<=274877906944):∃r,(f180 Pf) a b=some r/\(r=0↔eW a=eW b):=by
 have h1:(eW a).length<=a.length:=tK;have h2:(eW b).length<=b.length:=tK;rw[ajl,Bi,F1,zY ha,ax,zY hb,ax,ajm,Bj,ajn,ajo,bH,bH,Uy,ax,S8 _ _ (by omega)];by_cases h:kI ((eW a).length:Int) ((eW b).length:Int)=0
 ·rw[h];exact⟨_,rfl,(Ej ng).fE _ _⟩
 ·rw[wH h];exact⟨_,rfl,⟨λe=>absurd e h,λe=>absurd ((EA.fE _ _).2 (by rw[e])) h⟩⟩
theorem rb {l:List (List UInt8)} {x:List UInt8}:(l.any λy=>x==y)=true↔x∈l:=by
 simp only[Hq,beq_iff_eq];exact⟨λ⟨y,hy,e⟩=>e▸hy,λh=>⟨x,h,rfl⟩⟩
theorem Jr {a b:List (List UInt8)}:(a.all λx=>b.any λy=>x==y)=true↔∀x∈a,x∈b:=by
 rw[fS];exact⟨λh x hx=>rb.1 (h x hx),λh x hx=>rb.2 (h x hx)⟩
def eO (onl:List (List UInt8)) (s:List UInt8):Bool:=onl.isEmpty||onl.any λy=>s==y
theorem Ec {onl:List (List UInt8)} {s:List UInt8}:eO onl s=true↔onl=[]\/s∈onl:=by
 unfold eO;rw[sQ,rb,List.isEmpty_iff]
theorem HM {onl ns:List (List UInt8)} (ho:onl.length<9223372036854775807) (hn:ns.length<9223372036854775807) (hs:∀s∈ns,s.length<9223372036854775807):∃r,(f122 Pf) onl ns=some r/\(r=true↔jP onl ns):=by
 rw[ajp,Bk,og _ hn,ax];cases hr:rising ns
 ·exact⟨_,rfl,by simp[jP,hr]⟩
 ·have:=zj (a:=ns) (L:=λi=>(pF Pf) onl ns i) (λs=>dw s&&eO onl s) true (λi x hx hi=>by
   show(pF Pf) onl ns i=_;rw[Uz,uK,bH,bH,aW];have:decide (i<ns.length)=true:=by simpa using hi
   rw[this,aB,a7 hx,ax,lM x (hs x (aY hx)),ax,bO i (by omega),has_eq _ _ ho,ax];cases hv:dw x
   ·rfl
   ·unfold eO;cases onl with
    |nil=>rfl
    |cons y o=>rw[mA];cases h:((y::o).any λy=>x==y)<;>simp[h]) (by
   show(pF Pf) onl ns _=_;rw[Uz,uK,bH,bH,aW];simp)
  refine⟨_,this,?_⟩;simp only[qC,fS,bN,Ec,jP,hr,true_and]
theorem abZ {rs:List aV} {ns:List (List UInt8)} (hr:rs.length<9223372036854775807) (hi:∀r∈rs,r.If.length<9223372036854775807) (hn:ns.length<9223372036854775807):∃r,(f123 Pf) rs ns=some r/\(r=true↔mc rs ns):=by
 rw[ajq,wI];have:=zj (a:=rs) (L:=λi=>(pG Pf) rs ns i) (λr=>!(r.If.all λx=>ns.any λy=>x==y)||(ns.any λy=>r.dT==y)) true (λi x hx hi'=>by
  show(pG Pf) rs ns i=_;rw[UA,uL,aV.aF,aW];have:decide (i<rs.length)=true:=by simpa using hi'
  rw[this,aB,a7 hx,ax,Ef _ _ (hi x (aY hx)) hn,ax,has_eq _ _ hn,bO i (by omega)];cases (x.If.all λx=>ns.any λy=>x==y)
  ·rfl
  ·cases h:(ns.any λy=>x.dT==y)<;>simp) (by
  show(pG Pf) rs ns _=_;rw[UA,uL,aV.aF,aW];simp)
 refine⟨_,this,?_⟩;simp only[qC,fS,sQ,kn,mc];constructor
 ·intro h r hr hs;rcases h r hr with e|e
  ·rw[Jr.2 hs]at e;cases e
  ·exact rb.1 e
 ·intro h r hr;cases e:(r.If.all λx=>ns.any λy=>x==y)
  ·exact .inl rfl
  ·exact .inr (rb.2 (h r hr (Jr.1 e)))
theorem DL {l:ai} {s:List UInt8} (h:l.Names.length<9223372036854775807):(f184 Pf) l s=some (eO l.Names s):=by
 rw[ajr,Bl,bH];unfold eO;cases e:l.Names with
 |nil=>rfl
 |cons x ns=>rw[lj,aC,contains_eq _ _ (by rw[<-e];exact h)];simp
def oK:Int->List aj->Bool
 |_,[]=>true
 |q,t::c=>decide (q<t.Process)&&(decide (t.Process<=63)&&(decide (1<=t.N)&&(decide (t.N<=1000000000000000)&&oK t.Process c)))
theorem II:∀{c:List aj} {q:Int},-1<=q->(oK q c=true↔b6 c/\∀u∈c,q<u.Process)
 |[],q,_=>by simp[oK,b6]
 |t::c,q,hq=>by
  rw[oK,b6];simp only[bN,jA];constructor
  ·rintro ⟨h1,h2,h3,h4,h5⟩;have:=(II (by omega)).1 h5;refine⟨⟨⟨by omega,h2,h3,h4⟩,this.2,this.1⟩,λu hu=>?_⟩;rcases ck.1 hu with rfl|hu
   ·exact h1
   ·have:=this.2 u hu;omega
  ·rintro ⟨⟨⟨h1,h2,h3,h4⟩,h5,h6⟩,h7⟩;exact⟨h7 t (by simp),h2,h3,h4,(II (by omega)).2 ⟨h6,h5⟩⟩
theorem S4:∀{c:List aj} {q:Int},b6 c->(∀u∈c,q<u.Process)->q<=63->(c.length:Int)<=63-q
 |[],q,_,_,h=>by simp;omega
 |t::c,q,hc,h,_=>by
  have:=h t (by simp);have:=S4 (q:=t.Process) hc.2.2 hc.2.1 hc.1.2.1;simp;omega
theorem ov {c:List aj} (h:b6 c):c.length<=64:=by
 have:=S4 (q:= -1) h (λu hu=>by have:=(h.mem hu).1;omega) (by omega);omega
theorem RX {c:List aj} (h:c.length<9223372036854775807):(f172 Pf) c=some (oK (-1) c):=by
 rw[aja,wF];have key:∀k i q,k=c.length-i->i<=c.length->(zx Pf) c q (i:Int)=some (oK q (c.drop i)):=by
  intro k
  induction k with
  |zero=>
   intro i q hk hi;have:i=c.length:=by omega
   subst this;rw[Uu,uH,aj.aF,aW,Hr];simp[oK]
  |succ k ih=>
   intro i q hk hi;obtain⟨x,hx⟩:=bm (by omega:i<c.length);have:decide (i<c.length)=true:=by simp;omega
   rw[Uu,uH,aj.aF,aW,this,aB,a7 hx,ax,bO i (by omega),ih (i+1) x.Process (by omega) (by omega),jU hx,oK];by_cases h1:x.Process<=q
   ·simp[h1];intros;omega
   ·by_cases h2:x.Process>63
    ·simp[h1,h2];intros;omega
    ·by_cases h3:x.N<1
     ·simp[h1,h2,h3];intros;omega
     ·by_cases h4:x.N>1000000000000000
      ·simp[h1,h2,h3,h4];intros;omega
      ·have a1:q<x.Process:=by omega
       have a2:x.Process<=63:=by omega
       have a3:1<=x.N:=by omega
       have a4:x.N<=1000000000000000:=by omega
       simp[h1,h2,h3,h4,a1,a2,a3,a4]
 have:=key c.length 0 (-1) (by omega) (by omega);simpa using this
theorem H5 {c:List aj}:oK (-1) c=true↔b6 c:=by
 rw[II (by omega)];exact⟨λh=>h.1,λh=>⟨h,λu hu=>by have:=(h.mem hu).1;omega⟩⟩
theorem o8 {c:List aj} (h:b6 c):(f172 Pf) c=some true:=by
 rw[RX (by have:=ov h;omega),H5.2 h]
theorem xW {R:Type} {X:List aj->Option R} {s:List aj} {p k:Int} (h:s.length<274877906944):(bif decide (k>0)then(bif decide (((s:List aj)++([{Process:=p,N:=k:aj}]:List aj)).length<=274877906944)then X (s++[{Process:=p,N:=k:aj}])else none)else X s)=X (s++jY p k):=by
 unfold jY;by_cases hk:k>0
 ·rw[dN hk,aB,eC (by simp;omega),aB,bf hk]
 ·rw[dH hk,aC,aM hk,jx]
theorem yG {p k:Int}:(jY p k).length<=1:=by unfold jY;split<;>simp
def rX (L:List aj->List aj->List aj->Option (List aj)) (g:Int->Int->Option Int):List aj->List aj->List aj->Option (List aj):=(λs5 s6 s7=>(bif decide ((↑(aj.rows s5).length:Int)>0)then(bif (↑(aj.rows s6).length:Int)==0 then((aq (s5) (0)).bind λx10=>((aq (s5) (0)).bind λx12=>((cn (s5) (1) (((s5).length:Int))).bind λx14=>((g (x12.N) (0)).bind λy16=>(bif decide (y16>0)then(bif decide (((s7:List aj)++([{Process:=x10.Process,N:=y16:aj}]:List aj)).length<=274877906944)then(L (x14) (s6) (s7++[{Process:=x10.Process,N:=y16:aj}]))else none)else(L (x14) (s6) (s7)))))))else((aq (s5) (0)).bind λx19=>((aq (s6) (0)).bind λx21=>(bif decide (x19.Process<x21.Process)then((aq (s5) (0)).bind λx24=>((aq (s5) (0)).bind λx26=>((cn (s5) (1) (((s5).length:Int))).bind λx28=>((g (x26.N) (0)).bind λy30=>(bif decide (y30>0)then(bif decide (((s7:List aj)++([{Process:=x24.Process,N:=y30:aj}]:List aj)).length<=274877906944)then(L (x28) (s6) (s7++[{Process:=x24.Process,N:=y30:aj}]))else none)else(L (x28) (s6) (s7)))))))else(bif (↑(aj.rows s5).length:Int)==0 then((aq (s6) (0)).bind λx34=>((aq (s6) (0)).bind λx36=>((cn (s6) (1) (((s6).length:Int))).bind λx38=>((g (0) (x36.N)).bind λy40=>(bif decide (y40>0)then(bif decide (((s7:List aj)++([{Process:=x34.Process,N:=y40:aj}]:List aj)).length<=274877906944)then(L (s5) (x38) (s7++[{Process:=x34.Process,N:=y40:aj}]))else none)else(L (s5) (x38) (s7)))))))else((aq (s6) (0)).bind λx43=>((aq (s5) (0)).bind λx45=>(bif decide (x43.Process<x45.Process)then((aq (s6) (0)).bind λx48=>((aq (s6) (0)).bind λx50=>((cn (s6) (1) (((s6).length:Int))).bind λx52=>((g (0) (x50.N)).bind λy54=>(bif decide (y54>0)then(bif decide (((s7:List aj)++([{Process:=x48.Process,N:=y54:aj}]:List aj)).length<=274877906944)then(L (s5) (x52) (s7++[{Process:=x48.Process,N:=y54:aj}]))else none)else(L (s5) (x52) (s7)))))))else((aq (s5) (0)).bind λx57=>((aq (s5) (0)).bind λx59=>((aq (s6) (0)).bind λx61=>((cn (s5) (1) (((s5).length:Int))).bind λx63=>((cn (s6) (1) (((s6).length:Int))).bind λx65=>((g (x59.N) (x61.N)).bind λy67=>(bif decide (y67>0)then(bif decide (((s7:List aj)++([{Process:=x57.Process,N:=y67:aj}]:List aj)).length<=274877906944)then(L (x63) (x65) (s7++[{Process:=x57.Process,N:=y67:aj}]))else none)else(L (x63) (x65) (s7)))))))))))))))))else(bif decide ((↑(aj.rows s6).length:Int)>0)then(bif (↑(aj.rows s6).length:Int)==0 then((aq (s5) (0)).bind λx72=>((aq (s5) (0)).bind λx74=>((cn (s5) (1) (((s5).length:Int))).bind λx76=>((g (x74.N) (0)).bind λy78=>(bif decide (y78>0)then(bif decide (((s7:List aj)++([{Process:=x72.Process,N:=y78:aj}]:List aj)).length<=274877906944)then(L (x76) (s6) (s7++[{Process:=x72.Process,N:=y78:aj}]))else none)else(L (x76) (s6) (s7)))))))else(bif (↑(aj.rows s5).length:Int)==0 then((aq (s6) (0)).bind λx82=>((aq (s6) (0)).bind λx84=>((cn (s6) (1) (((s6).length:Int))).bind λx86=>((g (0) (x84.N)).bind λy88=>(bif decide (y88>0)then(bif decide (((s7:List aj)++([{Process:=x82.Process,N:=y88:aj}]:List aj)).length<=274877906944)then(L (s5) (x86) (s7++[{Process:=x82.Process,N:=y88:aj}]))else none)else(L (s5) (x86) (s7)))))))else((aq (s6) (0)).bind λx91=>((aq (s5) (0)).bind λx93=>(bif decide (x91.Process<x93.Process)then((aq (s6) (0)).bind λx96=>((aq (s6) (0)).bind λx98=>((cn (s6) (1) (((s6).length:Int))).bind λx100=>((g (0) (x98.N)).bind λy102=>(bif decide (y102>0)then(bif decide (((s7:List aj)++([{Process:=x96.Process,N:=y102:aj}]:List aj)).length<=274877906944)then(L (s5) (x100) (s7++[{Process:=x96.Process,N:=y102:aj}]))else none)else(L (s5) (x100) (s7)))))))else((aq (s5) (0)).bind λx105=>((aq (s5) (0)).bind λx107=>((aq (s6) (0)).bind λx109=>((cn (s5) (1) (((s5).length:Int))).bind λx111=>((cn (s6) (1) (((s6).length:Int))).bind λx113=>((g (x107.N) (x109.N)).bind λy115=>(bif decide (y115>0)then(bif decide (((s7:List aj)++([{Process:=x105.Process,N:=y115:aj}]:List aj)).length<=274877906944)then(L (x111) (x113) (s7++[{Process:=x105.Process,N:=y115:aj}]))else none)else(L (x111) (x113) (s7))))))))))))))else(some (s7)))))
theorem S5 {f:Int->Int->Int} {g:Int->Int->Option Int} (hg:∀m n,g m n=some (f m n)) {L:List aj->List aj->List aj->Option (List aj)} (hL:∀a b s,L a b s=rX L g a b s):∀a b s,a.length+b.length+s.length<=274877906944->L a b s=some (s++dh f a b):=by
 intro a b
 induction a,b using dh.induct with
 |case1=>intro s _;rw[hL,rX];simp only[aj.aF,oA,aC];simp[dh]
 |case2 t a ih=>
  intro s hs;rw[hL,rX];simp only[aj.aF,oA,aC,mA,aB,lj,jg,eH,ax,nD,hg];refine(xW (X:=λz=>L a [] z) (by simp at hs;omega)).trans ?_;have:= @yG t.Process (f t.N 0);rw[ih _ (by simp at hs⊢;omega),dh];simp
 |case3 u b ih=>
  intro s hs;rw[hL,rX];simp only[aj.aF,oA,aC,mA,aB,lj,jg,eH,ax,nD,hg];refine(xW (X:=λz=>L [] b z) (by simp at hs;omega)).trans ?_;have:= @yG u.Process (f 0 u.N);rw[ih _ (by simp at hs⊢;omega),dh];simp
 |case4 t a u b h ih=>
  intro s hs;rw[hL,rX];simp only[aj.aF,aC,mA,aB,lj,eH,ax,nD,hg,dN h];refine(xW (X:=λz=>L a (u::b) z) (by simp at hs;omega)).trans ?_;have:= @yG t.Process (f t.N 0);rw[ih _ (by simp at hs⊢;omega),dh,bf h];simp
 |case5 t a u b h g' ih=>
  intro s hs;rw[hL,rX];simp only[aj.aF,aC,mA,aB,lj,eH,ax,nD,hg,dH h,dN g'];refine(xW (X:=λz=>L (t::a) b z) (by simp at hs;omega)).trans ?_;have:= @yG u.Process (f 0 u.N);rw[ih _ (by simp at hs⊢;omega),dh,aM h,bf g'];simp
 |case6 t a u b h g' ih=>
  intro s hs;rw[hL,rX];simp only[aj.aF,aC,mA,aB,lj,eH,ax,nD,hg,dH h,dH g'];refine(xW (X:=λz=>L a b z) (by simp at hs;omega)).trans ?_;have:= @yG t.Process (f t.N u.N);rw[ih _ (by simp at hs⊢;omega),dh,aM h,aM g'];simp
theorem acT (m n:Int):(f266 Pf) m n=some (over m n):=by
 rw[ajb,A8];unfold over;by_cases h:m>n<;>simp[h]
theorem acU (m n:Int):(f274 Pf) m n=some (max m n):=by
 rw[ajc,A9];congr 1;split<;>omega
theorem S6 {a b:List aj} (ha:b6 a) (hb:b6 b):(f230 Pf) a b=some (dh over a b):=by
 have:=ov ha;have:=ov hb;rw[ajd,Ba,adV,yH,o8 ha,ax,fA,aC,o8 hb,ax,fA,aC,S5 (f:=over) acT abk a b [] (by simp;omega)];rfl
theorem RS {a b:List aj} (ha:b6 a) (hb:b6 b):(f235 Pf) a b=some (qp a b):=by
 have:=ov ha;have:=ov hb;rw[aje,Bb,adW,yK,o8 ha,ax,fA,aC,o8 hb,ax,fA,aC,S5 (f:=max) acU abl a b [] (by simp;omega)];rfl
theorem Jq {a b:List aj} (ha:b6 a) (hb:b6 b):∃r,(f174 Pf) a b=some r/\(r=0↔a=b)/\(r=1↔dL a b/\a≠b)/\(r=2↔dL b a/\a≠b):=by
 rw[ajf,Bc,o8 ha,ax,fA,aC,o8 hb,ax,fA,aC,S6 ha hb,ax,S6 hb ha,ax,aj.aF,aj.aF];have h1:=S7 ha hb;have h2:=S7 hb ha;have h3:a=b↔dL a b/\dL b a:=⟨λe=>e▸⟨dL.refl _,dL.refl _⟩,λh=>dL.antisymm ha hb h.1 h.2⟩;rw[Ne,h3];cases e1:dh over a b<;>cases e2:dh over b a<;>simp only[e1,e2,jg,lj,aB,aC,reduceCtorEq,false_iff,true_iff]at h1 h2⊢<;>refine⟨_,rfl,?_⟩<;>simp[h1,h2]
theorem adO {e f:az} (ha:b6 e.a8) (hb:b6 f.a8):∃r,(f144 Pf) e f=some r/\(r=true↔under e f):=by
 obtain⟨r,h,h0,h1,h2⟩:=Jq ha hb;rw[ajg,Bd,h,ax];by_cases e1:r=1
 ·rw[e1];have:=h1.1 e1;exact⟨_,rfl,⟨λ_=>⟨this.1,λh=>absurd h this.2⟩,λ_=>rfl⟩⟩
 ·by_cases e0:r=0
  ·rw[e0];have:=h0.1 e0;refine⟨_,rfl,?_⟩;simp only[beq_iff_eq];exact⟨λhn=>⟨this▸dL.refl _,λ_=>hn⟩,λh=>h.2 this⟩
  ·have a1:(r==1)=false:=by simpa using e1
   have a0:(r==0)=false:=by simpa using e0
   rw[a1,a0];refine⟨_,rfl,⟨λh=>(by cases h),λh=>?_⟩⟩;by_cases e:e.a8=f.a8
   ·exact absurd (h0.2 e) e0
   ·exact absurd (h1.2 ⟨h.1,e⟩) e1
theorem afu {c:List aj} {p:Int} (h:b6 c):(f284 Pf) c p=some (bV p c):=by
 have hl:=ov h;rw[ajh,Be,o8 h,ax,fA,aC];have key:∀k i,k=c.length-i->i<=c.length->(zy Pf) c p (i:Int)=some (bV p (c.drop i)):=by
  intro k
  induction k with
  |zero=>
   intro i hk hi;have:i=c.length:=by omega
   subst this;rw[Uv,uI,aj.aF,aW,Hr];simp[bV]
  |succ k ih=>
   intro i hk hi;obtain⟨x,hx⟩:=bm (by omega:i<c.length);have:decide (i<c.length)=true:=by simp;omega
   rw[Uv,uI,aj.aF,aW,this,aB,a7 hx,ax,bO i (by omega),ih (i+1) (by omega) (by omega),jU hx,bV];by_cases e:x.Process=p
   ·simp[e]
   ·rw[show(x.Process==p)=false by simpa using e,aM e];rfl
 have:=key c.length 0 (by omega) (by omega);simpa using this
def F2 (c:List aj) (p:Int):List aj:=qp c [⟨p,bV p c+1⟩]
theorem Uw {c:List aj} {p:Int} (h:b6 c) (h0:0<=p) (h1:p<=63) (h2:bV p c≠1000000000000000):b6 [⟨p,bV p c+1⟩]:=by
 have n0:0<=bV p c:=qN h;have n1:bV p c<=1000000000000000:=Ez h;exact⟨⟨h0,h1,by show 1<=bV p c+1;omega,by show bV p c+1<=_;omega⟩,by simp,trivial⟩
theorem agp {c:List aj} {p:Int} (h:b6 c) (h0:0<=p) (h1:p<=63):(f271 Pf) c p=some (if bV p c=1000000000000000 then([],6)else(F2 c p,0)):=by
 have n0:0<=bV p c:=qN h;have n1:bV p c<=1000000000000000:=Ez h;rw[aji,Bf,o8 h,ax,fA,aC,dH (by omega),aC,dH (by omega),aC,afu h,ax];by_cases e:bV p c=1000000000000000
 ·rw[bf e,e];rfl
 ·have:(bV p c==1000000000000000)=false:=by simpa using e
  rw[aM e,this,aC,wrap64 (by omega) (by omega),RS h (Uw h h0 h1 e)];rfl
theorem adL {c:List aj} {p:Int} (h:b6 c) (h0:0<=p) (h1:p<=63) (h2:bV p c≠1000000000000000):b6 (F2 c p)/\F2 c p≠[]:=by
 have n0:0<=bV p c:=qN h;have n1:bV p c<=1000000000000000:=Ez h;have hc:=Uw h h0 h1 h2;refine⟨IH h hc,λe=>?_⟩;have:=adX h hc p;have e':qp c [⟨p,bV p c+1⟩]=[]:=e;rw[e']at this;simp[bV]at this;omega
inductive SV:ah->Prop
 |mk {v:ah}:v.Names.length<=274877906944->(∀s∈v.Names,s.length<=274877906944)->v.ak.length<=274877906944->v.Entries.length<=274877906944->(∀e∈v.Entries,e.a8.length<=274877906944/\e.Name.length<=274877906944)->(∀p∈v.ak,SV p)->SV v
theorem SV.bv {v:ah} (h:SV v):BV 274877906944 v:=by
 induction h with
 |mk h1 h2 h3 h4 h5 h6 ih=>exact .mk h1 h3 h4 (λe he=>(h5 e he).1) ih
theorem uh {s:List UInt8} (h:dw s=true):s.length<=16:=(Jl.1 h).1
theorem VE.sv {l:ai} {v:ah} {m:Nat} (hm:m<=274877906944) (h:VE l v):BV m v->SV v:=by
 induction h with
 |flag _ _=>exactλ_=> .mk (by simp) (by simp) (by simp) (by simp) (by simp) (by simp)
 |num _ _ _=>exactλ_=> .mk (by simp) (by simp) (by simp) (by simp) (by simp) (by simp)
 |set _ hn _=>exactλhb=> .mk (by have:=hb.names;omega) (λs hs=>by have:=uh (hn.2 s hs).1;omega) (by simp) (by simp) (by simp) (by simp)
 |Ap _ _=>exactλ_=> .mk (by simp) (by simp) (by simp) (by simp) (by simp) (by simp)
 |Kc _ hn=>exactλhb=> .mk (by simp) (λs hs=>by have:=uh (hn.2 s hs).1;omega) (by simp) (by simp) (by simp) (by simp)
 |CG _ he=>exactλhb=> .mk (by simp) (by simp) (by simp) (by have:=hb.entries;omega) (λe h=>⟨by have:=ov (he.1 e h).2.1;omega,by have:=uh (he.1 e h).2.2;omega⟩) (by simp)
 |map _ _ hn _ _ _ ih=>exactλhb=> .mk (by have:=hb.names;omega) (λs hs=>by have:=uh (hn.2 s hs).1;omega) (by have:=hb.parts;omega) (by simp) (by simp) (λp hp=>ih p hp (hb.part hp))
 |prod _ hl _ ih=>
  refineλhb=> .mk (by simp) (by simp) (by have:=hb.parts;omega) (by simp) (by simp) (λp hp=>?_);obtain⟨i,hi⟩:=jB hp;obtain⟨q,hq⟩:=lN hl hi;exact ih i p q hi hq (hb.part hp)
theorem Xn {B:Nat} (hB:B<=1048576):∀v:ah,v.ok B->SV v:=by
 refine ah.ind λv ih hv=>?_;rw[ah.dA]at hv;obtain⟨_,⟨h1,h2⟩,⟨h3,h4⟩,h5,h6⟩:=hv;exact .mk (by omega) (λs hs=>by have:=h2 s hs;omega) (by omega) (by omega) (λe he=>by have:=h6 e he;unfold az.ok at this;exact⟨by omega,by omega⟩) (λp hp=>ih p hp (ah.fU h4 hp))
theorem xT {a b:ah} {m:Nat} (hm:m<9223372036854775807) (ha:BV m a):∃r,(f94 Pf) a b=some r/\(r=true↔a=b):=by
 rw[e94,CR,ai6,Rf hm a b ha];exact⟨_,rfl,by rw[beq_iff_eq];exact RW⟩
theorem acQ {a b:ah} {R:Type} {X Y:Option R} {m:Nat} (hm:m<9223372036854775807) (ha:BV m a):(a=b/\(((f94 Pf) a b).bind λy=>bif y then X else Y)=X)\/(a≠b/\(((f94 Pf) a b).bind λy=>bif y then X else Y)=Y):=by
 obtain⟨r,h,hr⟩:=xT (b:=b) hm ha;rw[h,ax];cases r
 ·exact .inr ⟨λe=>(by have:=hr.2 e;cases this),rfl⟩
 ·exact .inl ⟨hr.1 rfl,rfl⟩
section
variable {B:Nat} (hB:B<=1048576)
include hB
theorem Ib:∀l:ai,l.ok B->(f125 Pf) l=some (bot l):=by
 refine ai.ind λl ih hl=>?_;have hl':=hl;rw[ai.dA]at hl';obtain⟨_,_,_,_,⟨hp,hpp⟩,_⟩:=hl';have loop:∀{L:Int->List ah->Option ah},(∀i s,L i s=bif decide (i<((ai.rows l.ak).length:Int))then((aq (l.ak) (i)).bind λx10=>(((f125 Pf) x10).bind λy12=>(bif decide (((s:List ah)++([y12]:List ah)).length<=274877906944)then(L (IntKind.i64.wrap (i+1)) (s++[y12]))else none)))else(some ({N:=0,Names:=[],ak:=s,Entries:=[]:ah})))->L 0 []=some ⟨0,[],l.ak.map bot,[]⟩:=by
  intro L hL;have h:=dZ (L:=λi s=>L i s) (P:=λr=>r=⟨0,[],l.ak.map bot,[]⟩) (len:=l.ak.length) (λi s=>s=(l.ak.take i).map bot) (λi s hi hs k=>by
   show ae (L i s) _;obtain⟨x,hx⟩:=bm hi;have hm:=aY hx;have:decide (i<l.ak.length)=true:=by simpa using hi
   rw[hL,ai.aF,aW,this,aB,a7 hx,ax,ih x hm (ai.fU hpp hm),ax,eC (by rw[hs];simp;omega),aB,bO i (by omega)];exact k _ (by rw[hs,fB,hx];simp)) (λs hs=>by
   show ae (L _ s) _;have:decide (l.ak.length<l.ak.length)=false:=by simp
   rw[hL,ai.aF,aW,this,aC];exact ae.ret (by rw[hs,eN])) 0 [] (by omega) (by simp)
  exact ae.of h
 rw[ai7,A5,uZ];by_cases h2:l.Kind=2
 ·rw[bf h2,h2];rfl
 ·by_cases h3:l.Kind=3
  ·rw[aM h2,bf h3,h3];rfl
  ·have e2:(l.Kind==2)=false:=by simpa using h2
   have e3:(l.Kind==3)=false:=by simpa using h3
   rw[aM h2,aM h3,e2,e3,aC,aC];by_cases h6:l.Kind=6
   ·rw[bf (.inl h6),h6];exact loop (L:=λi s=>(zm Pf) l i s) λi s=>afq l i s
   ·have e6:(l.Kind==6)=false:=by simpa using h6
    rw[e6,aC];by_cases h7:l.Kind=7
    ·rw[bf (.inr h7),h7];exact loop (L:=λi s=>(zr Pf) l i s) λi s=>afr l i s
    ·have e7:(l.Kind==7)=false:=by simpa using h7
     rw[e7,aC,aM (by omega)]
theorem RR {l:ai} (hl:l.ok B) (h:cx l):(f190 Pf) l=some (bot l,0):=by
 rw[ai8,A6,Ew (by omega) hl h,ax,Ib hB l hl];rfl
end
def lV (v:ah) (a b c d:Bool):Bool:=(a||v.N==0)&&((b||v.Names.isEmpty)&&((c||v.ak.isEmpty)&&(d||v.Entries.isEmpty)))
theorem F4 {D:Type} (l:List D):((l.length:Int)==0)=l.isEmpty:=by cases l;rfl;rw[lj];rfl
theorem afp (v:ah) (a b c d:Bool):(f121 Pf) v a b c d=some (lV v a b c d):=by
 rw[ai9,A7,bH,ah.aF,az.aF,F4,F4,F4];unfold lV;cases a<;>cases b<;>cases c<;>cases d<;>cases (v.N==0)<;>cases v.Names.isEmpty<;>cases v.ak.isEmpty<;>cases v.Entries.isEmpty<;>rfl
theorem jD {v:ah} {a b c d:Bool}:lV v a b c d=true↔v=⟨bif a then v.N else 0,bif b then v.Names else [],bif c then v.ak else [],bif d then v.Entries else []⟩:=by
 obtain⟨n,ns,ps,es⟩:=v;unfold lV;cases a<;>cases b<;>cases c<;>cases d<;>simp
theorem jM.take {es:List az} (h:jM es) (i:Nat):jM (es.take i):=⟨λe he=>h.1 e (aaz he),h.2.1.sublist (List.take_sublist _ _),λe he f hf=>h.2.2 e (aaz he) f (aaz hf)⟩
theorem acS {K:Option Bool} {L:Int->Option Bool} {x:az} {pre:List az} (hn:pre.length<=274877906944) (hL:∀j,L j=bif decide (j<((az.rows pre).length:Int))then((aq pre j).bind λx21=>(((f174 Pf) x.a8 x21.a8).bind λy23=>(bif y23==1 then(some false)else(bif y23==2 then(some false)else L (IntKind.i64.wrap (j+1))))))else K) (hx:b6 x.a8) (hp:∀e∈pre,b6 e.a8):
  ((∀e∈pre,dL x.a8 e.a8\/dL e.a8 x.a8->x.a8=e.a8)/\L 0=K)\/(¬(∀e∈pre,dL x.a8 e.a8\/dL e.a8 x.a8->x.a8=e.a8)/\L 0=some false):=by
 have key:∀k i,k=pre.length-i->i<=pre.length->((∀e∈pre.drop i,dL x.a8 e.a8\/dL e.a8 x.a8->x.a8=e.a8)/\L (i:Int)=K)\/(¬(∀e∈pre.drop i,dL x.a8 e.a8\/dL e.a8 x.a8->x.a8=e.a8)/\L (i:Int)=some false):=by
  intro k
  induction k with
  |zero=>
   intro i hk hi;have:i=pre.length:=by omega
   subst this;rw[hL,az.aF,aW,Hr];exact .inl ⟨by simp,by simp⟩
  |succ k ih=>
   intro i hk hi;obtain⟨e,he⟩:=bm (by omega:i<pre.length);have:decide (i<pre.length)=true:=by simp;omega
   obtain⟨r,hr,r0,r1,r2⟩:=Jq hx (hp e (aY he));rw[hL,az.aF,aW,this,aB,a7 he,ax,hr,ax,bO i (by omega),jU he];by_cases e1:r=1
   ·subst e1;have:=r1.1 rfl;exact .inr ⟨λh=>this.2 (h e (by simp) (.inl this.1)),rfl⟩
   ·by_cases e2:r=2
    ·subst e2;have:=r2.1 rfl;exact .inr ⟨λh=>this.2 (h e (by simp) (.inr this.1)),rfl⟩
    ·rw[show(r==1)=false by simpa using e1,show(r==2)=false by simpa using e2,aC,aC];rcases ih (i+1) (by omega) (by omega)with⟨h1,h2⟩|⟨h1,h2⟩
     ·refine .inl ⟨λe' he' hc=>?_,h2⟩;rcases ck.1 he' with rfl|he'
      ·refine anU λhne=>?_;rcases hc with hc|hc
       ·exact e1 (r1.2 ⟨hc,hne⟩)
       ·exact e2 (r2.2 ⟨hc,hne⟩)
      ·exact h1 e' he' hc
     ·exact .inr ⟨λh=>h1 λe' he'=>h e' (Dw _ he'),h2⟩
 exact key pre.length 0 (by omega) (by omega)
theorem adU {es:List az} {i:Nat} {x:az} (hx:es[i]? =some x) (h:jM (es.take i)) (h1:x.a8≠[]) (h2:b6 x.a8) (h3:dw x.Name=true) (h4:∀y,0<i->es[i-1]? =some y->fy y x<0) (h5:∀e∈es.take i,dL x.a8 e.a8\/dL e.a8 x.a8->x.a8=e.a8):jM (es.take (i+1)):=by
 have hl:=(cr.1 hx).1;have e:es.take (i+1)=es.take i++[x]:=by rw[fB,hx];rfl
 rw[e];refine⟨λf hf=>?_,?_,λf hf g hg hc=>?_⟩
 ·rcases bU.1 hf with hf|hf
  ·exact h.1 f hf
  ·rw[iL]at hf;subst hf;exact⟨h1,h2,h3⟩
 ·rw[List.pairwise_append];refine⟨h.2.1,by simp,λa ha b hb=>?_⟩;rw[iL]at hb;subst hb;obtain⟨j,hj⟩:=jB ha;have hj1:=(cr.1 hj).1;rw[iv]at hj1;obtain⟨y,hy⟩:=bm (l:=es) (i:=i-1) (by omega);have hyb:=h4 y (by omega) hy;by_cases ej:j=i-1
  ·rw[PX (by omega),ej,hy]at hj;cases hj;exact hyb
  ·have hy':(es.take i)[i-1]? =some y:=by rw[PX (by omega)];exact hy
   have:=h.2.1;rw[Hh]at this;have ha':=cr.1 hj;have hb':=cr.1 hy';obtain⟨a1,a2⟩:=ha';obtain⟨b1,b2⟩:=hb';have:=this j (i-1) a1 b1 (by omega);rw[a2,b2]at this;exact pk.trans _ _ _ this hyb
 ·rcases bU.1 hf with a|a<;>rcases bU.1 hg with b|b
  ·exact h.2.2 f a g b hc
  ·rw[iL]at b;rw[b]at hc⊢;exact(h5 f a (.inr hc)).symm
  ·rw[iL]at a;rw[a]at hc⊢;exact h5 g b (.inl hc)
  ·rw[iL]at a b;rw[a,b]
theorem abj {es:List az} (hn:es.length<=274877906944) (hs:∀e∈es,e.a8.length<=274877906944/\e.Name.length<=274877906944):ae ((f124 Pf) es) (λr=>r=true↔jM es):=by
 rw[ai',wE];refine dZ (L:=λi s=>(ox Pf) es s i) (P:=λr=>r=true↔jM es) (len:=es.length) (λi _=>jM (es.take i)) (λi s hi hI k=>?_) (λs hI=>?_) 0 false (by omega) ⟨by simp,by simp,by simp⟩
 ·show ae ((ox Pf) es s i) _;obtain⟨x,hx⟩:=bm hi;have hm:=aY hx;have hx1:=hs x hm;have:decide (i<es.length)=true:=by simpa using hi
  have bad:∀{Q:Prop},(jM (es.take (i+1))->Q)->¬Q->(false=true↔jM es):=λh hq=>⟨λe=>(by cases e),λhr=>absurd (h (hr.take _)) hq⟩;have mem:x∈es.take (i+1):=by rw[fB,hx];simp
  rw[Ut,uG,XY,az.aF,aW,this,aB,a7 hx,ax,aj.aF,F4,RX (by omega),ax,lM _ (by omega),ax];refine ae.bif (λh=>ae.ret (bad (λhr=>(hr.1 x mem).1) (by simpa using h))) (λh1=>?_);have h1:x.a8≠[]:=λe=>by rw[e]at h1;cases h1
  refine ae.bif (λh=>ae.ret (bad (λhr=>H5.2 (hr.1 x mem).2.1) (by simpa using h))) (λh2=>?_);have h2:b6 x.a8:=H5.1 (by simpa using h2);refine ae.bif (λh=>ae.ret (bad (λhr=>(hr.1 x mem).2.2) (by simpa using h))) (λh3=>?_);have h3:dw x.Name=true:=by simpa using h3
  have hpre:∀e∈es.take i,b6 e.a8:=λe he=>(hI.1 e he).2.1;have sub:∀e∈es.take i,e∈es.take (i+1):=λe he=>by rw[fB];exact mg _ he
  have fin:∀{L:Int->Option Bool} {s:Bool},(∀j,L j=bif decide (j<((az.rows (es.take i)).length:Int))then((aq (es.take i) j).bind λx21=>(((f174 Pf) x.a8 x21.a8).bind λy23=>(bif y23==1 then(some false)else(bif y23==2 then(some false)else L (IntKind.i64.wrap (j+1))))))else(ox Pf) es s (IntKind.i64.wrap (i+1)))->(∀y,0<i->es[i-1]? =some y->fy y x<0)->ae (L 0) (λr=>r=true↔jM es):=by
   intro L s hL h4;rcases acS (by rw[iv];omega) hL h2 hpre with⟨h5,e⟩|⟨h5,e⟩
   ·rw[e,bO i (by omega)];exact k s (adU hx hI h1 h2 h3 h4 h5)
   ·rw[e];refine ae.ret (bad (λhr=>?_) h5);intro e he hc;rcases hc with hc|hc
    ·exact hr.2.2 x mem e (sub e he) hc
    ·exact(hr.2.2 e (sub e he) x mem hc).symm
  refine ae.bif (λh6=>?_) (λh6=>?_)
  ·have h6:0<i:=by simpa using h6
   obtain⟨y,hy⟩:=bm (l:=es) (i:=i-1) (by omega);have e1:IntKind.i64.wrap ((i:Int)-1)=((i-1:Nat):Int):=by rw[wrap64 (by omega) (by omega)];omega
   rw[e1,a7 hy,ax,Rg _ _ (by have:=hs y (aY hy);omega),ax];refine ae.bif (λh7=>ae.ret (bad (Q:=fy y x<0) (λhr=>?_) (by simpa using h7))) (λh7=>?_)
   ·have:=hr.2.1;rw[Hh]at this;have h8:=this (i-1) i (by rw[iv];omega) (by rw[iv];omega) (by omega);rw[List.getElem_take,List.getElem_take]at h8;have a:=(cr.1 hy).2;have b:=(cr.1 hx).2;rw[a,b]at h8;exact h8
   ·have h7:fy y x<0:=by simpa using h7
    rw[uk (by omega),ax];refine fin (s:=s) (λj=>by rw[afs,zt]) λy' _ hy'=>?_;rw[hy]at hy';cases hy';exact h7
  ·have h6:i=0:=by simpa using h6
   rw[uk (by omega),ax];exact fin (s:=s) (λj=>by rw[aft,zw]) λy' h _=>by omega
 ·show ae ((ox Pf) es s es.length) _;have:decide (es.length<es.length)=false:=by simp
  rw[Ut,uG,XY,az.aF,aW,this,aC];rw[eN]at hI;exact ae.ret ⟨λ_=>hI,λ_=>rfl⟩
