/- Lists of names: what the functions about them answer. -/
import Derived.Test.YtnocmolegijmkaaGreatKVe
import Derived.Test.YtnocmolegijmkaaGreatKVd
set_option linter.all false
namespace Go.Proofs.YtnocmolegijmkaaGreat
open Go Go.Bw
section
variable {D:Type}
theorem mV (x:D) (a:List D):decide (((x::a).length:Int)>0)=true:=by simp
theorem oY:decide ((([]:List D).length:Int)>0)=false:=rfl
theorem lO (x:D) (a:List D):(((x::a).length:Int)==0)=false:=by simp;omega
theorem jA:((([]:List D).length:Int)==0)=true:=rfl
theorem eO (x:D) (a:List D):aj (x::a) 0=some x:=rfl
theorem oc (x:D) (a:List D):cy (x::a) 1 ((x::a).length:Int)=some a:=by
 show(bif Nat.ble 1 (x::a).length&&Nat.ble (x::a).length (x::a).length then some (((x::a).take (x::a).length).drop 1)else none)=_;rw[qZ (by simp),qZ (bX _),eV];rfl
theorem eN {n m:Nat} (h:n<=m):decide (n<=m)=true:=by simpa using h
end
theorem ua:∀{l:List (List UInt8)},rising l=true↔l.Pairwise λa b=>Op.bytesLess a b=true
 |[]=>by simp[rising]
 |x::l=>by rw[kN,xO,ua]
theorem adQ {a b:List UInt8}:eK a b<0↔Op.bytesLess a b=true:=by
 unfold eK;cases h:Op.bytesLess a b
 ·cases Op.bytesLess b a<;>simp
 ·simp
theorem Ip {a b:List UInt8}:eK a b<=0↔a=b\/Op.bytesLess a b=true:=by
 rw[<-adQ,<-nN.fQ];omega
theorem py {zs:List (List UInt8)} {j:Nat} (h:j<zs.length):zs.toArray[j]! =zs[j]:=by simp[h]
theorem abk {zs:List (List UInt8)} {x:List UInt8}:x∈Lib.compact zs↔x∈zs:=by
 unfold Lib.compact Lib.compactUpTo;simp only[dP,iN,Dw];constructor
 ·rintro ⟨j,⟨hj,_⟩,rfl⟩;rw[py hj];exact List.getElem_mem hj
 ·intro hx;obtain⟨j,hj,rfl⟩:=anV hx;clear hx
  induction j with
  |zero=>exact⟨0,⟨hj,by simp[Lib.keeps]⟩,py hj⟩
  |succ j ih=>
   by_cases h:zs[j+1]=zs[j]
   ·rw[h];exact ih (by omega)
   ·exact⟨j+1,⟨hj,by simp only[Lib.keeps,jQ];right;rw[py hj,show j+1-1=j from rfl,py (by omega)];exact h⟩,py hj⟩
theorem aaE {zs:List (List UInt8)} (h:zs.Pairwise λa b=>eK a b<=0):rising (Lib.compact zs)=true:=by
 rw[ua];unfold Lib.compact Lib.compactUpTo;rw[List.pairwise_map,List.pairwise_filter];refine List.Pairwise.imp_of_mem (λ{i j} hi hj hlt _ kj=>?_) List.pairwise_lt_range;rw[Dw]at hi hj;rw[py hi,py hj];simp only[Lib.keeps,jQ]at kj;rw[HD]at h;have hne:zs[j]≠zs[j-1]:=by
  rcases kj with k|k
  ·omega
  ·rwa[py hj,py (by omega)]at k
 have h1:Op.bytesLess zs[j-1] zs[j]=true:=by
  rcases Ip.1 (h (j-1) j (by omega) hj (by omega))with e|e
  ·exact absurd e.symm hne
  ·exact e
 by_cases e:i=j-1
 ·subst e;exact h1
 ·rcases Ip.1 (h i (j-1) hi (by omega) (by omega))with e|e
  ·rw[e];exact h1
  ·exact ry e h1
theorem abl {zs:List (List UInt8)}:(Lib.compact zs).length<=zs.length:=by
 unfold Lib.compact Lib.compactUpTo;rw[ja];exact iM (DK _ _) (by simp)
theorem Ry {l:List (List UInt8)} {x:List UInt8}:x∈fh l↔x∈l:=abk.trans (oL l).mem_iff
theorem H7 {l:List (List UInt8)}:rising (fh l)=true:=aaE (tF nN l)
theorem um {l:List (List UInt8)}:(fh l).length<=l.length:=iM abl (by rw[nL];exact bX _)
theorem Ti {l:List (List UInt8)} (h:rising l=true):fh l=l:=D' H7 h λ_=>Ry
theorem Ar {l:List (List UInt8)} (h:l.length<=274877906944):wZ l=some (fh l):=
 (afm l).trans (by rw[eN h];rfl)
def cS:List (List UInt8)->List (List UInt8)->List (List UInt8)
 |[],[]=>[]
 |[],y::b=>y::cS [] b
 |x::a,[]=>x::cS a []
 |x::a,y::b=>if Op.bytesLess x y=true then x::cS a (y::b)else if Op.bytesLess y x=true then y::cS (x::a) b else x::cS a b
termination_by a b=>a.length+b.length
theorem RF:∀a b:List (List UInt8),(cS a b).length<=a.length+b.length:=by
 intro a b
 induction a,b using cS.induct with
 |case1=>simp[cS]
 |case2 y b ih=>rw[cS];simp at*;omega
 |case3 x a ih=>rw[cS];simp at*;omega
 |case4 x a y b h ih=>rw[cS,bg h];simp at*;omega
 |case5 x a y b h g ih=>rw[cS,aM h,bg g];simp at*;omega
 |case6 x a y b h g ih=>rw[cS,aM h,aM g];simp at*;omega
theorem rv:∀{a b:List (List UInt8)} {z:List UInt8},z∈cS a b↔z∈a\/z∈b:=by
 intro a b z
 induction a,b using cS.induct with
 |case1=>simp[cS]
 |case2 y b ih=>rw[cS,cq,ih];simp
 |case3 x a ih=>rw[cS,cq,ih];simp
 |case4 x a y b h ih=>rw[cS,bg h,cq,ih];simp only[cq];exact or_assoc.symm
 |case5 x a y b h g ih=>rw[cS,aM h,bg g,cq,ih];simp only[cq];exact or_left_comm
 |case6 x a y b h g ih=>
  have e:x=y:=by
   rcases sd x y with e|e|e
   ·exact e
   ·exact absurd e h
   ·exact absurd e g
  subst e;rw[cS,aM h,aM g,cq,ih];simp only[cq];constructor
  ·rintro (e|e|e)
   ·exact .inl (.inl e)
   ·exact .inl (.inr e)
   ·exact .inr (.inr e)
  ·rintro ((e|e)|(e|e))
   ·exact .inl e
   ·exact .inr (.inl e)
   ·exact .inl e
   ·exact .inr (.inr e)
theorem Pl:∀{a b:List (List UInt8)},rising a=true->rising b=true->rising (cS a b)=true:=by
 intro a b
 induction a,b using cS.induct with
 |case1=>intro _ _;simp[cS,rising]
 |case2 y b ih=>
  intro ha hb;rw[kN]at hb;rw[cS,kN];exact⟨λz hz=>by rw[rv]at hz;exact hz.elim (by simp) (hb.1 z),ih ha hb.2⟩
 |case3 x a ih=>
  intro ha hb;rw[kN]at ha;rw[cS,kN];exact⟨λz hz=>by rw[rv]at hz;exact hz.elim (ha.1 z) (by simp),ih ha.2 hb⟩
 |case4 x a y b h ih=>
  intro ha hb;have hb':=hb;rw[kN]at ha hb';rw[cS,bg h,kN];refine⟨λz hz=>?_,ih ha.2 hb⟩;rw[rv,cq]at hz;rcases hz with hz|rfl|hz
  ·exact ha.1 z hz
  ·exact h
  ·exact ry h (hb'.1 z hz)
 |case5 x a y b h g ih=>
  intro ha hb;have ha':=ha;rw[kN]at ha' hb;rw[cS,aM h,bg g,kN];refine⟨λz hz=>?_,ih ha hb.2⟩;rw[rv,cq]at hz;rcases hz with(rfl|hz)|hz
  ·exact g
  ·exact ry g (ha'.1 z hz)
  ·exact hb.1 z hz
 |case6 x a y b h g ih=>
  intro ha hb;have e:x=y:=by
   rcases sd x y with e|e|e
   ·exact e
   ·exact absurd e h
   ·exact absurd e g
  subst e;rw[kN]at ha hb;rw[cS,aM h,aM g,kN];exact⟨λz hz=>by rw[rv]at hz;exact hz.elim (ha.1 z) (hb.1 z),ih ha.2 hb.2⟩
theorem adR:∀(a b s:List (List UInt8)),a.length+b.length+s.length<=274877906944->(gh Pf) true true true a b s=some (s++cS a b):=by
 intro a b
 induction a,b using cS.induct with
 |case1=>intro s _;rw[u7,nU];simp only[bN,oY,aC];simp[cS]
 |case2 y b ih=>
  intro s hs;rw[u7,nU];simp only[bN,oY,aC,mV,aB,lO,jA,eO,au,oc];rw[eN (by simp at*;omega),aB,ih (s++[y]) (by simp at*;omega)];simp[cS]
 |case3 x a ih=>
  intro s hs;rw[u7,nU];simp only[bN,oY,aC,mV,aB,lO,jA,eO,au,oc];rw[eN (by simp at*;omega),aB,ih (s++[x]) (by simp at*;omega)];simp[cS]
 |case4 x a y b h ih=>
  intro s hs;rw[u7,nU];simp only[bN,oY,aC,mV,aB,lO,jA,eO,au,oc,h];rw[eN (by simp at*;omega),aB,ih (s++[x]) (by simp at*;omega),cS,bg h];simp
 |case5 x a y b h g ih=>
  intro s hs;have h':Op.bytesLess x y=false:=by simpa using h
  rw[u7,nU];simp only[bN,oY,aC,mV,aB,lO,jA,eO,au,oc,h',g];rw[eN (by simp at*;omega),aB,ih (s++[y]) (by simp at*;omega),cS,aM h,bg g];simp
 |case6 x a y b h g ih=>
  intro s hs;have h':Op.bytesLess x y=false:=by simpa using h
  have g':Op.bytesLess y x=false:=by simpa using g
  rw[u7,nU];simp only[bN,oY,aC,mV,aB,lO,jA,eO,au,oc,h',g'];rw[eN (by simp at*;omega),aB,ih (s++[x]) (by simp at*;omega),cS,aM h,aM g];simp
theorem union_eq {a b:List (List UInt8)} (h:a.length+b.length<=274877906944) (ha:rising a=true) (hb:rising b=true):(f191 Pf) a b=some (cS a b):=by
 rw[ajh,By,aji,Bz,Gd,Ar (by omega),au,Ar (by omega),au,Ti ha,Ti hb,adR a b [] (by simpa using h)];rfl
theorem adC {a b:List (List UInt8)} (ha:a.length<=274877906944) (hb:b.length<=274877906944):∃r,(f180 Pf) a b=some r/\(r=0↔fh a=fh b):=by
 have h1:(fh a).length<=a.length:=um;have h2:(fh b).length<=b.length:=um;rw[ajj,BA,Gd,Ar ha,au,Ar hb,au,ajk,BB,ajl,ajm,bN,bN,Tj,au,RO _ _ (by omega)];by_cases h:lh ((fh a).length:Int) ((fh b).length:Int)=0
 ·rw[h];exact⟨_,rfl,(Er nN).fQ _ _⟩
 ·rw[w4 h];exact⟨_,rfl,⟨λe=>absurd e h,λe=>absurd ((EJ.fQ _ _).2 (by rw[e])) h⟩⟩
theorem rI {l:List (List UInt8)} {x:List UInt8}:(l.any λy=>x==y)=true↔x∈l:=by
 simp only[HK,beq_iff_eq];exact⟨λ⟨y,hy,e⟩=>e▸hy,λh=>⟨x,h,rfl⟩⟩
theorem JR {a b:List (List UInt8)}:(a.all λx=>b.any λy=>x==y)=true↔∀x∈a,x∈b:=by
 rw[gf];exact⟨λh x hx=>rI.1 (h x hx),λh x hx=>rI.2 (h x hx)⟩
def eF (onl:List (List UInt8)) (s:List UInt8):Bool:=onl.isEmpty||onl.any λy=>s==y
theorem yM {onl:List (List UInt8)} {s:List UInt8}:eF onl s=true↔onl=[]\/s∈onl:=by
 unfold eF;rw[tz,rI,List.isEmpty_iff]
theorem H8 {onl ns:List (List UInt8)} (ho:onl.length<9223372036854775807) (hn:ns.length<9223372036854775807) (hs:∀s∈ns,s.length<9223372036854775807):∃r,(f122 Pf) onl ns=some r/\(r=true↔km onl ns):=by
 rw[ajn,BC,oM _ hn,au];cases hr:rising ns
 ·exact⟨_,rfl,by simp[km,hr]⟩
 ·have:=zW (a:=ns) (L:=λi=>(p6 Pf) onl ns i) (λs=>dC s&&eF onl s) true (λi x hx hi=>by
   show(p6 Pf) onl ns i=_;rw[Tl,u9,bN,bN,a7];have:decide (i<ns.length)=true:=by simpa using hi
   rw[this,aB,bf hx,au,ma x (hs x (aV hx)),au,bW i (by omega),has_eq _ _ ho,au];cases hv:dC x
   ·rfl
   ·unfold eF;cases onl with
    |nil=>rfl
    |cons y o=>rw[mV];cases h:((y::o).any λy=>x==y)<;>simp[h]) (by
   show(p6 Pf) onl ns _=_;rw[Tl,u9,bN,bN,a7];simp)
  refine⟨_,this,?_⟩;simp only[q8,gf,bS,yM,km,hr,true_and]
theorem abW {rs:List aX} {ns:List (List UInt8)} (hr:rs.length<9223372036854775807) (hi:∀r∈rs,r.If.length<9223372036854775807) (hn:ns.length<9223372036854775807):∃r,(f123 Pf) rs ns=some r/\(r=true↔mB rs ns):=by
 rw[ajo,w6];have:=zW (a:=rs) (L:=λi=>(p7 Pf) rs ns i) (λr=>!(r.If.all λx=>ns.any λy=>x==y)||(ns.any λy=>r.dY==y)) true (λi x hx hi'=>by
  show(p7 Pf) rs ns i=_;rw[Tm,vb,aX.aH,a7];have:decide (i<rs.length)=true:=by simpa using hi'
  rw[this,aB,bf hx,au,Em _ _ (hi x (aV hx)) hn,au,has_eq _ _ hn,bW i (by omega)];cases (x.If.all λx=>ns.any λy=>x==y)
  ·rfl
  ·cases h:(ns.any λy=>x.dY==y)<;>simp) (by
  show(p7 Pf) rs ns _=_;rw[Tm,vb,aX.aH,a7];simp)
 refine⟨_,this,?_⟩;simp only[q8,gf,tz,kL,mB];constructor
 ·intro h r hr hs;rcases h r hr with e|e
  ·rw[JR.2 hs]at e;cases e
  ·exact rI.1 e
 ·intro h r hr;cases e:(r.If.all λx=>ns.any λy=>x==y)
  ·exact .inl rfl
  ·exact .inr (rI.2 (h r hr (JR.1 e)))
theorem DZ {l:ag} {s:List UInt8} (h:l.Names.length<9223372036854775807):(f184 Pf) l s=some (eF l.Names s):=by
 rw[ajp,BD,bN];unfold eF;cases e:l.Names with
 |nil=>rfl
 |cons x ns=>rw[lO,aC,contains_eq _ _ (by rw[<-e];exact h)];simp
def pg:Int->List ah->Bool
 |_,[]=>true
 |q,t::c=>decide (q<t.Process)&&(decide (t.Process<=63)&&(decide (1<=t.N)&&(decide (t.N<=1000000000000000)&&pg t.Process c)))
theorem I4:∀{c:List ah} {q:Int},-1<=q->(pg q c=true↔cd c/\∀u∈c,q<u.Process)
 |[],q,_=>by simp[pg,cd]
 |t::c,q,hq=>by
  rw[pg,cd];simp only[bS,jQ];constructor
  ·rintro ⟨h1,h2,h3,h4,h5⟩;have:=(I4 (by omega)).1 h5;refine⟨⟨⟨by omega,h2,h3,h4⟩,this.2,this.1⟩,λu hu=>?_⟩;rcases cq.1 hu with rfl|hu
   ·exact h1
   ·have:=this.2 u hu;omega
  ·rintro ⟨⟨⟨h1,h2,h3,h4⟩,h5,h6⟩,h7⟩;exact⟨h7 t (by simp),h2,h3,h4,(I4 (by omega)).2 ⟨h6,h5⟩⟩
theorem RJ:∀{c:List ah} {q:Int},cd c->(∀u∈c,q<u.Process)->q<=63->(c.length:Int)<=63-q
 |[],q,_,_,h=>by simp;omega
 |t::c,q,hc,h,_=>by
  have:=h t (by simp);have:=RJ (q:=t.Process) hc.2.2 hc.2.1 hc.1.2.1;simp;omega
theorem oT {c:List ah} (h:cd c):c.length<=64:=by
 have:=RJ (q:= -1) h (λu hu=>by have:=(h.mem hu).1;omega) (by omega);omega
theorem QL {c:List ah} (h:c.length<9223372036854775807):(f172 Pf) c=some (pg (-1) c):=by
 rw[ai9,wY];have key:∀k i q,k=c.length-i->i<=c.length->(z7 Pf) c q (i:Int)=some (pg q (c.drop i)):=by
  intro k
  induction k with
  |zero=>
   intro i q hk hi;have:i=c.length:=by omega
   subst this;rw[Tf,u5,ah.aH,a7,HL];simp[pg]
  |succ k ih=>
   intro i q hk hi;obtain⟨x,hx⟩:=bo (by omega:i<c.length);have:decide (i<c.length)=true:=by simp;omega
   rw[Tf,u5,ah.aH,a7,this,aB,bf hx,au,bW i (by omega),ih (i+1) x.Process (by omega) (by omega),kr hx,pg];by_cases h1:x.Process<=q
   ·simp[h1];intros;omega
   ·by_cases h2:x.Process>63
    ·simp[h1,h2];intros;omega
    ·by_cases h3:x.N<1
     ·simp[h1,h2,h3];intros;omega
     ·by_cases h4:x.N>1000000000000000
      ·simp[h1,h2,h3,h4];intros;omega
      ·have a1:q<x.Process:=by omega
       have a2:x.Process<=63:=by omega
       have a3:1<=x.N:=by omega
       have a4:x.N<=1000000000000000:=by omega
       simp[h1,h2,h3,h4,a1,a2,a3,a4]
 have:=key c.length 0 (-1) (by omega) (by omega);simpa using this
theorem Ir {c:List ah}:pg (-1) c=true↔cd c:=by
 rw[I4 (by omega)];exact⟨λh=>h.1,λh=>⟨h,λu hu=>by have:=(h.mem hu).1;omega⟩⟩
theorem pG {c:List ah} (h:cd c):(f172 Pf) c=some true:=by
 rw[QL (by have:=oT h;omega),Ir.2 h]
theorem yV {R:Type} {X:List ah->Option R} {s:List ah} {p k:Int} (h:s.length<274877906944):(bif decide (k>0)then(bif decide (((s:List ah)++([{Process:=p,N:=k:ah}]:List ah)).length<=274877906944)then X (s++[{Process:=p,N:=k:ah}])else none)else X s)=X (s++ky p k):=by
 unfold ky;by_cases hk:k>0
 ·rw[dT hk,aB,eN (by simp;omega),aB,bg hk]
 ·rw[dH hk,aC,aM hk,jO]
theorem zx {p k:Int}:(ky p k).length<=1:=by unfold ky;split<;>simp
def sB (L:List ah->List ah->List ah->Option (List ah)) (g:Int->Int->Option Int):List ah->List ah->List ah->Option (List ah):=(λs5 s6 s7=>(bif decide ((↑(ah.rows s5).length:Int)>0)then(bif (↑(ah.rows s6).length:Int)==0 then((aj (s5) (0)).bind λx10=>((aj (s5) (0)).bind λx12=>((cy (s5) (1) (((s5).length:Int))).bind λx14=>((g (x12.N) (0)).bind λy16=>(bif decide (y16>0)then(bif decide (((s7:List ah)++([{Process:=x10.Process,N:=y16:ah}]:List ah)).length<=274877906944)then(L (x14) (s6) (s7++[{Process:=x10.Process,N:=y16:ah}]))else none)else(L (x14) (s6) (s7)))))))else((aj (s5) (0)).bind λx19=>((aj (s6) (0)).bind λx21=>(bif decide (x19.Process<x21.Process)then((aj (s5) (0)).bind λx24=>((aj (s5) (0)).bind λx26=>((cy (s5) (1) (((s5).length:Int))).bind λx28=>((g (x26.N) (0)).bind λy30=>(bif decide (y30>0)then(bif decide (((s7:List ah)++([{Process:=x24.Process,N:=y30:ah}]:List ah)).length<=274877906944)then(L (x28) (s6) (s7++[{Process:=x24.Process,N:=y30:ah}]))else none)else(L (x28) (s6) (s7)))))))else(bif (↑(ah.rows s5).length:Int)==0 then((aj (s6) (0)).bind λx34=>((aj (s6) (0)).bind λx36=>((cy (s6) (1) (((s6).length:Int))).bind λx38=>((g (0) (x36.N)).bind λy40=>(bif decide (y40>0)then(bif decide (((s7:List ah)++([{Process:=x34.Process,N:=y40:ah}]:List ah)).length<=274877906944)then(L (s5) (x38) (s7++[{Process:=x34.Process,N:=y40:ah}]))else none)else(L (s5) (x38) (s7)))))))else((aj (s6) (0)).bind λx43=>((aj (s5) (0)).bind λx45=>(bif decide (x43.Process<x45.Process)then((aj (s6) (0)).bind λx48=>((aj (s6) (0)).bind λx50=>((cy (s6) (1) (((s6).length:Int))).bind λx52=>((g (0) (x50.N)).bind λy54=>(bif decide (y54>0)then(bif decide (((s7:List ah)++([{Process:=x48.Process,N:=y54:ah}]:List ah)).length<=274877906944)then(L (s5) (x52) (s7++[{Process:=x48.Process,N:=y54:ah}]))else none)else(L (s5) (x52) (s7)))))))else((aj (s5) (0)).bind λx57=>((aj (s5) (0)).bind λx59=>((aj (s6) (0)).bind λx61=>((cy (s5) (1) (((s5).length:Int))).bind λx63=>((cy (s6) (1) (((s6).length:Int))).bind λx65=>((g (x59.N) (x61.N)).bind λy67=>(bif decide (y67>0)then(bif decide (((s7:List ah)++([{Process:=x57.Process,N:=y67:ah}]:List ah)).length<=274877906944)then(L (x63) (x65) (s7++[{Process:=x57.Process,N:=y67:ah}]))else none)else(L (x63) (x65) (s7)))))))))))))))))else(bif decide ((↑(ah.rows s6).length:Int)>0)then(bif (↑(ah.rows s6).length:Int)==0 then((aj (s5) (0)).bind λx72=>((aj (s5) (0)).bind λx74=>((cy (s5) (1) (((s5).length:Int))).bind λx76=>((g (x74.N) (0)).bind λy78=>(bif decide (y78>0)then(bif decide (((s7:List ah)++([{Process:=x72.Process,N:=y78:ah}]:List ah)).length<=274877906944)then(L (x76) (s6) (s7++[{Process:=x72.Process,N:=y78:ah}]))else none)else(L (x76) (s6) (s7)))))))else(bif (↑(ah.rows s5).length:Int)==0 then((aj (s6) (0)).bind λx82=>((aj (s6) (0)).bind λx84=>((cy (s6) (1) (((s6).length:Int))).bind λx86=>((g (0) (x84.N)).bind λy88=>(bif decide (y88>0)then(bif decide (((s7:List ah)++([{Process:=x82.Process,N:=y88:ah}]:List ah)).length<=274877906944)then(L (s5) (x86) (s7++[{Process:=x82.Process,N:=y88:ah}]))else none)else(L (s5) (x86) (s7)))))))else((aj (s6) (0)).bind λx91=>((aj (s5) (0)).bind λx93=>(bif decide (x91.Process<x93.Process)then((aj (s6) (0)).bind λx96=>((aj (s6) (0)).bind λx98=>((cy (s6) (1) (((s6).length:Int))).bind λx100=>((g (0) (x98.N)).bind λy102=>(bif decide (y102>0)then(bif decide (((s7:List ah)++([{Process:=x96.Process,N:=y102:ah}]:List ah)).length<=274877906944)then(L (s5) (x100) (s7++[{Process:=x96.Process,N:=y102:ah}]))else none)else(L (s5) (x100) (s7)))))))else((aj (s5) (0)).bind λx105=>((aj (s5) (0)).bind λx107=>((aj (s6) (0)).bind λx109=>((cy (s5) (1) (((s5).length:Int))).bind λx111=>((cy (s6) (1) (((s6).length:Int))).bind λx113=>((g (x107.N) (x109.N)).bind λy115=>(bif decide (y115>0)then(bif decide (((s7:List ah)++([{Process:=x105.Process,N:=y115:ah}]:List ah)).length<=274877906944)then(L (x111) (x113) (s7++[{Process:=x105.Process,N:=y115:ah}]))else none)else(L (x111) (x113) (s7))))))))))))))else(some (s7)))))
theorem RL {f:Int->Int->Int} {g:Int->Int->Option Int} (hg:∀m n,g m n=some (f m n)) {L:List ah->List ah->List ah->Option (List ah)} (hL:∀a b s,L a b s=sB L g a b s):∀a b s,a.length+b.length+s.length<=274877906944->L a b s=some (s++dm f a b):=by
 intro a b
 induction a,b using dm.induct with
 |case1=>intro s _;rw[hL,sB];simp only[ah.aH,oY,aC];simp[dm]
 |case2 t a ih=>
  intro s hs;rw[hL,sB];simp only[ah.aH,oY,aC,mV,aB,lO,jA,eO,au,oc,hg];refine(yV (X:=λz=>L a [] z) (by simp at hs;omega)).trans ?_;have:= @zx t.Process (f t.N 0);rw[ih _ (by simp at hs⊢;omega),dm];simp
 |case3 u b ih=>
  intro s hs;rw[hL,sB];simp only[ah.aH,oY,aC,mV,aB,lO,jA,eO,au,oc,hg];refine(yV (X:=λz=>L [] b z) (by simp at hs;omega)).trans ?_;have:= @zx u.Process (f 0 u.N);rw[ih _ (by simp at hs⊢;omega),dm];simp
 |case4 t a u b h ih=>
  intro s hs;rw[hL,sB];simp only[ah.aH,aC,mV,aB,lO,eO,au,oc,hg,dT h];refine(yV (X:=λz=>L a (u::b) z) (by simp at hs;omega)).trans ?_;have:= @zx t.Process (f t.N 0);rw[ih _ (by simp at hs⊢;omega),dm,bg h];simp
 |case5 t a u b h g' ih=>
  intro s hs;rw[hL,sB];simp only[ah.aH,aC,mV,aB,lO,eO,au,oc,hg,dH h,dT g'];refine(yV (X:=λz=>L (t::a) b z) (by simp at hs;omega)).trans ?_;have:= @zx u.Process (f 0 u.N);rw[ih _ (by simp at hs⊢;omega),dm,aM h,bg g'];simp
 |case6 t a u b h g' ih=>
  intro s hs;rw[hL,sB];simp only[ah.aH,aC,mV,aB,lO,eO,au,oc,hg,dH h,dH g'];refine(yV (X:=λz=>L a b z) (by simp at hs;omega)).trans ?_;have:= @zx t.Process (f t.N u.N);rw[ih _ (by simp at hs⊢;omega),dm,aM h,aM g'];simp
theorem acN (m n:Int):(f266 Pf) m n=some (over m n):=by
 rw[ai',Bp];unfold over;by_cases h:m>n<;>simp[h]
theorem acO (m n:Int):(f274 Pf) m n=some (max m n):=by
 rw[aja,Bq];congr 1;split<;>omega
theorem RM {a b:List ah} (ha:cd a) (hb:cd b):(f230 Pf) a b=some (dm over a b):=by
 have:=oT ha;have:=oT hb;rw[ajb,Br,adN,zy,pG ha,au,fL,aC,pG hb,au,fL,aC,RL (f:=over) acN abi a b [] (by simp;omega)];rfl
theorem QH {a b:List ah} (ha:cd a) (hb:cd b):(f235 Pf) a b=some (qN a b):=by
 have:=oT ha;have:=oT hb;rw[ajc,Bs,adO,zA,pG ha,au,fL,aC,pG hb,au,fL,aC,RL (f:=max) acO abj a b [] (by simp;omega)];rfl
theorem JQ {a b:List ah} (ha:cd a) (hb:cd b):∃r,(f174 Pf) a b=some r/\(r=0↔a=b)/\(r=1↔dN a b/\a≠b)/\(r=2↔dN b a/\a≠b):=by
 rw[ajd,Bt,pG ha,au,fL,aC,pG hb,au,fL,aC,RM ha hb,au,RM hb ha,au,ah.aH,ah.aH];have h1:=RN ha hb;have h2:=RN hb ha;have h3:a=b↔dN a b/\dN b a:=⟨λe=>e▸⟨dN.refl _,dN.refl _⟩,λh=>dN.antisymm ha hb h.1 h.2⟩;rw[Ne,h3];cases e1:dm over a b<;>cases e2:dm over b a<;>simp only[e1,e2,jA,lO,aB,aC,reduceCtorEq,false_iff,true_iff]at h1 h2⊢<;>refine⟨_,rfl,?_⟩<;>simp[h1,h2]
theorem adG {e f:az} (ha:cd e.a8) (hb:cd f.a8):∃r,(f144 Pf) e f=some r/\(r=true↔under e f):=by
 obtain⟨r,h,h0,h1,h2⟩:=JQ ha hb;rw[aje,Bu,h,au];by_cases e1:r=1
 ·rw[e1];have:=h1.1 e1;exact⟨_,rfl,⟨λ_=>⟨this.1,λh=>absurd h this.2⟩,λ_=>rfl⟩⟩
 ·by_cases e0:r=0
  ·rw[e0];have:=h0.1 e0;refine⟨_,rfl,?_⟩;simp only[beq_iff_eq];exact⟨λhn=>⟨this▸dN.refl _,λ_=>hn⟩,λh=>h.2 this⟩
  ·have a1:(r==1)=false:=by simpa using e1
   have a0:(r==0)=false:=by simpa using e0
   rw[a1,a0];refine⟨_,rfl,⟨λh=>(by cases h),λh=>?_⟩⟩;by_cases e:e.a8=f.a8
   ·exact absurd (h0.2 e) e0
   ·exact absurd (h1.2 ⟨h.1,e⟩) e1
theorem afl {c:List ah} {p:Int} (h:cd c):(f284 Pf) c p=some (cg p c):=by
 have hl:=oT h;rw[ajf,Bv,pG h,au,fL,aC];have key:∀k i,k=c.length-i->i<=c.length->(z8 Pf) c p (i:Int)=some (cg p (c.drop i)):=by
  intro k
  induction k with
  |zero=>
   intro i hk hi;have:i=c.length:=by omega
   subst this;rw[Tg,u6,ah.aH,a7,HL];simp[cg]
  |succ k ih=>
   intro i hk hi;obtain⟨x,hx⟩:=bo (by omega:i<c.length);have:decide (i<c.length)=true:=by simp;omega
   rw[Tg,u6,ah.aH,a7,this,aB,bf hx,au,bW i (by omega),ih (i+1) (by omega) (by omega),kr hx,cg];by_cases e:x.Process=p
   ·simp[e]
   ·rw[show(x.Process==p)=false by simpa using e,aM e];rfl
 have:=key c.length 0 (by omega) (by omega);simpa using this
def Ge (c:List ah) (p:Int):List ah:=qN c [⟨p,cg p c+1⟩]
theorem Th {c:List ah} {p:Int} (h:cd c) (h0:0<=p) (h1:p<=63) (h2:cg p c≠1000000000000000):cd [⟨p,cg p c+1⟩]:=by
 have n0:0<=cg p c:=rk h;have n1:cg p c<=1000000000000000:=EI h;exact⟨⟨h0,h1,by show 1<=cg p c+1;omega,by show cg p c+1<=_;omega⟩,by simp,trivial⟩
theorem age {c:List ah} {p:Int} (h:cd c) (h0:0<=p) (h1:p<=63):(f271 Pf) c p=some (if cg p c=1000000000000000 then([],6)else(Ge c p,0)):=by
 have n0:0<=cg p c:=rk h;have n1:cg p c<=1000000000000000:=EI h;rw[ajg,Bx,pG h,au,fL,aC,dH (by omega),aC,dH (by omega),aC,afl h,au];by_cases e:cg p c=1000000000000000
 ·rw[bg e,e];rfl
 ·have:(cg p c==1000000000000000)=false:=by simpa using e
  rw[aM e,this,aC,wrap64 (by omega) (by omega),QH h (Th h h0 h1 e)];rfl
theorem adD {c:List ah} {p:Int} (h:cd c) (h0:0<=p) (h1:p<=63) (h2:cg p c≠1000000000000000):cd (Ge c p)/\Ge c p≠[]:=by
 have n0:0<=cg p c:=rk h;have n1:cg p c<=1000000000000000:=EI h;have hc:=Th h h0 h1 h2;refine⟨I3 h hc,λe=>?_⟩;have:=adP h hc p;have e':qN c [⟨p,cg p c+1⟩]=[]:=e;rw[e']at this;simp[cg]at this;omega
inductive SV:af->Prop
 |mk {v:af}:v.Names.length<=274877906944->(∀s∈v.Names,s.length<=274877906944)->v.ai.length<=274877906944->v.Entries.length<=274877906944->(∀e∈v.Entries,e.a8.length<=274877906944/\e.Name.length<=274877906944)->(∀p∈v.ai,SV p)->SV v
theorem SV.bv {v:af} (h:SV v):BV 274877906944 v:=by
 induction h with
 |mk h1 h2 h3 h4 h5 h6 ih=>exact .mk h1 h3 h4 (λe he=>(h5 e he).1) ih
theorem uJ {s:List UInt8} (h:dC s=true):s.length<=16:=(JL.1 h).1
theorem VE.sv {l:ag} {v:af} {m:Nat} (hm:m<=274877906944) (h:VE l v):BV m v->SV v:=by
 induction h with
 |flag _ _=>exactλ_=> .mk (by simp) (by simp) (by simp) (by simp) (by simp) (by simp)
 |num _ _ _=>exactλ_=> .mk (by simp) (by simp) (by simp) (by simp) (by simp) (by simp)
 |set _ hn _=>exactλhb=> .mk (by have:=hb.names;omega) (λs hs=>by have:=uJ (hn.2 s hs).1;omega) (by simp) (by simp) (by simp) (by simp)
 |AL _ _=>exactλ_=> .mk (by simp) (by simp) (by simp) (by simp) (by simp) (by simp)
 |KA _ hn=>exactλhb=> .mk (by simp) (λs hs=>by have:=uJ (hn.2 s hs).1;omega) (by simp) (by simp) (by simp) (by simp)
 |CM _ he=>exactλhb=> .mk (by simp) (by simp) (by simp) (by have:=hb.entries;omega) (λe h=>⟨by have:=oT (he.1 e h).2.1;omega,by have:=uJ (he.1 e h).2.2;omega⟩) (by simp)
 |map _ _ hn _ _ _ ih=>exactλhb=> .mk (by have:=hb.names;omega) (λs hs=>by have:=uJ (hn.2 s hs).1;omega) (by have:=hb.parts;omega) (by simp) (by simp) (λp hp=>ih p hp (hb.part hp))
 |prod _ hl _ ih=>
  refineλhb=> .mk (by simp) (by simp) (by have:=hb.parts;omega) (by simp) (by simp) (λp hp=>?_);obtain⟨i,hi⟩:=jR hp;obtain⟨q,hq⟩:=lF hl hi;exact ih i p q hi hq (hb.part hp)
theorem Wf {B:Nat} (hB:B<=1048576):∀v:af,v.ok B->SV v:=by
 refine af.ind λv ih hv=>?_;rw[af.dK]at hv;obtain⟨_,⟨h1,h2⟩,⟨h3,h4⟩,h5,h6⟩:=hv;exact .mk (by omega) (λs hs=>by have:=h2 s hs;omega) (by omega) (by omega) (λe he=>by have:=h6 e he;unfold az.ok at this;exact⟨by omega,by omega⟩) (λp hp=>ih p hp (af.gH h4 hp))
theorem yO {a b:af} {m:Nat} (hm:m<9223372036854775807) (ha:BV m a):∃r,(f94 Pf) a b=some r/\(r=true↔a=b):=by
 rw[e94,CY,ai4,P3 hm a b ha];exact⟨_,rfl,by rw[beq_iff_eq];exact QK⟩
theorem acK {a b:af} {R:Type} {X Y:Option R} {m:Nat} (hm:m<9223372036854775807) (ha:BV m a):(a=b/\(((f94 Pf) a b).bind λy=>bif y then X else Y)=X)\/(a≠b/\(((f94 Pf) a b).bind λy=>bif y then X else Y)=Y):=by
 obtain⟨r,h,hr⟩:=yO (b:=b) hm ha;rw[h,au];cases r
 ·exact .inr ⟨λe=>(by have:=hr.2 e;cases this),rfl⟩
 ·exact .inl ⟨hr.1 rfl,rfl⟩
section
variable {B:Nat} (hB:B<=1048576)
include hB
theorem Iz:∀l:ag,l.ok B->(f125 Pf) l=some (bot l):=by
 refine ag.ind λl ih hl=>?_;have hl':=hl;rw[ag.dK]at hl';obtain⟨_,_,_,_,⟨hp,hpp⟩,_⟩:=hl';have loop:∀{L:Int->List af->Option af},(∀i s,L i s=bif decide (i<((ag.rows l.ai).length:Int))then((aj (l.ai) (i)).bind λx10=>(((f125 Pf) x10).bind λy12=>(bif decide (((s:List af)++([y12]:List af)).length<=274877906944)then(L (IntKind.i64.wrap (i+1)) (s++[y12]))else none)))else(some ({N:=0,Names:=[],ai:=s,Entries:=[]:af})))->L 0 []=some ⟨0,[],l.ai.map bot,[]⟩:=by
  intro L hL;have h:=eo (L:=λi s=>L i s) (P:=λr=>r=⟨0,[],l.ai.map bot,[]⟩) (len:=l.ai.length) (λi s=>s=(l.ai.take i).map bot) (λi s hi hs k=>by
   show ae (L i s) _;obtain⟨x,hx⟩:=bo hi;have hm:=aV hx;have:decide (i<l.ai.length)=true:=by simpa using hi
   rw[hL,ag.aH,a7,this,aB,bf hx,au,ih x hm (ag.gH hpp hm),au,eN (by rw[hs];simp;omega),aB,bW i (by omega)];exact k _ (by rw[hs,fM,hx];simp)) (λs hs=>by
   show ae (L _ s) _;have:decide (l.ai.length<l.ai.length)=false:=by simp
   rw[hL,ag.aH,a7,this,aC];exact ae.ret (by rw[hs,eV])) 0 [] (by omega) (by simp)
  exact ae.of h
 rw[ai5,Bm,vx];by_cases h2:l.Kind=2
 ·rw[bg h2,h2];rfl
 ·by_cases h3:l.Kind=3
  ·rw[aM h2,bg h3,h3];rfl
  ·have e2:(l.Kind==2)=false:=by simpa using h2
   have e3:(l.Kind==3)=false:=by simpa using h3
   rw[aM h2,aM h3,e2,e3,aC,aC];by_cases h6:l.Kind=6
   ·rw[bg (.inl h6),h6];exact loop (L:=λi s=>(zX Pf) l i s) λi s=>afh l i s
   ·have e6:(l.Kind==6)=false:=by simpa using h6
    rw[e6,aC];by_cases h7:l.Kind=7
    ·rw[bg (.inr h7),h7];exact loop (L:=λi s=>(zY Pf) l i s) λi s=>afi l i s
    ·have e7:(l.Kind==7)=false:=by simpa using h7
     rw[e7,aC,aM (by omega)]
theorem QG {l:ag} (hl:l.ok B) (h:cA l):(f190 Pf) l=some (bot l,0):=by
 rw[ai6,Bn,EF (by omega) hl h,au,Iz hB l hl];rfl
end
def ml (v:af) (a b c d:Bool):Bool:=(a||v.N==0)&&((b||v.Names.isEmpty)&&((c||v.ai.isEmpty)&&(d||v.Entries.isEmpty)))
theorem Gh {D:Type} (l:List D):((l.length:Int)==0)=l.isEmpty:=by cases l;rfl;rw[lO];rfl
theorem afg (v:af) (a b c d:Bool):(f121 Pf) v a b c d=some (ml v a b c d):=by
 rw[ai7,Bo,bN,af.aH,az.aH,Gh,Gh,Gh];unfold ml;cases a<;>cases b<;>cases c<;>cases d<;>cases (v.N==0)<;>cases v.Names.isEmpty<;>cases v.ai.isEmpty<;>cases v.Entries.isEmpty<;>rfl
theorem jT {v:af} {a b c d:Bool}:ml v a b c d=true↔v=⟨bif a then v.N else 0,bif b then v.Names else [],bif c then v.ai else [],bif d then v.Entries else []⟩:=by
 obtain⟨n,ns,ps,es⟩:=v;unfold ml;cases a<;>cases b<;>cases c<;>cases d<;>simp
theorem ke.take {es:List az} (h:ke es) (i:Nat):ke (es.take i):=⟨λe he=>h.1 e (aay he),h.2.1.sublist (List.take_sublist _ _),λe he f hf=>h.2.2 e (aay he) f (aay hf)⟩
theorem acM {K:Option Bool} {L:Int->Option Bool} {x:az} {pre:List az} (hn:pre.length<=274877906944) (hL:∀j,L j=bif decide (j<((az.rows pre).length:Int))then((aj pre j).bind λx21=>(((f174 Pf) x.a8 x21.a8).bind λy23=>(bif y23==1 then(some false)else(bif y23==2 then(some false)else L (IntKind.i64.wrap (j+1))))))else K) (hx:cd x.a8) (hp:∀e∈pre,cd e.a8):
  ((∀e∈pre,dN x.a8 e.a8\/dN e.a8 x.a8->x.a8=e.a8)/\L 0=K)\/(¬(∀e∈pre,dN x.a8 e.a8\/dN e.a8 x.a8->x.a8=e.a8)/\L 0=some false):=by
 have key:∀k i,k=pre.length-i->i<=pre.length->((∀e∈pre.drop i,dN x.a8 e.a8\/dN e.a8 x.a8->x.a8=e.a8)/\L (i:Int)=K)\/(¬(∀e∈pre.drop i,dN x.a8 e.a8\/dN e.a8 x.a8->x.a8=e.a8)/\L (i:Int)=some false):=by
  intro k
  induction k with
  |zero=>
   intro i hk hi;have:i=pre.length:=by omega
   subst this;rw[hL,az.aH,a7,HL];exact .inl ⟨by simp,by simp⟩
  |succ k ih=>
   intro i hk hi;obtain⟨e,he⟩:=bo (by omega:i<pre.length);have:decide (i<pre.length)=true:=by simp;omega
   obtain⟨r,hr,r0,r1,r2⟩:=JQ hx (hp e (aV he));rw[hL,az.aH,a7,this,aB,bf he,au,hr,au,bW i (by omega),kr he];by_cases e1:r=1
   ·subst e1;have:=r1.1 rfl;exact .inr ⟨λh=>this.2 (h e (by simp) (.inl this.1)),rfl⟩
   ·by_cases e2:r=2
    ·subst e2;have:=r2.1 rfl;exact .inr ⟨λh=>this.2 (h e (by simp) (.inr this.1)),rfl⟩
    ·rw[show(r==1)=false by simpa using e1,show(r==2)=false by simpa using e2,aC,aC];rcases ih (i+1) (by omega) (by omega)with⟨h1,h2⟩|⟨h1,h2⟩
     ·refine .inl ⟨λe' he' hc=>?_,h2⟩;rcases cq.1 he' with rfl|he'
      ·refine anZ λhne=>?_;rcases hc with hc|hc
       ·exact e1 (r1.2 ⟨hc,hne⟩)
       ·exact e2 (r2.2 ⟨hc,hne⟩)
      ·exact h1 e' he' hc
     ·exact .inr ⟨λh=>h1 λe' he'=>h e' (DJ _ he'),h2⟩
 exact key pre.length 0 (by omega) (by omega)
theorem adM {es:List az} {i:Nat} {x:az} (hx:es[i]? =some x) (h:ke (es.take i)) (h1:x.a8≠[]) (h2:cd x.a8) (h3:dC x.Name=true) (h4:∀y,0<i->es[i-1]? =some y->fJ y x<0) (h5:∀e∈es.take i,dN x.a8 e.a8\/dN e.a8 x.a8->x.a8=e.a8):ke (es.take (i+1)):=by
 have hl:=(cr.1 hx).1;have e:es.take (i+1)=es.take i++[x]:=by rw[fM,hx];rfl
 rw[e];refine⟨λf hf=>?_,?_,λf hf g hg hc=>?_⟩
 ·rcases b7.1 hf with hf|hf
  ·exact h.1 f hf
  ·rw[iZ]at hf;subst hf;exact⟨h1,h2,h3⟩
 ·rw[List.pairwise_append];refine⟨h.2.1,by simp,λa ha b hb=>?_⟩;rw[iZ]at hb;subst hb;obtain⟨j,hj⟩:=jR ha;have hj1:=(cr.1 hj).1;rw[iK]at hj1;obtain⟨y,hy⟩:=bo (l:=es) (i:=i-1) (by omega);have hyb:=h4 y (by omega) hy;by_cases ej:j=i-1
  ·rw[OL (by omega),ej,hy]at hj;cases hj;exact hyb
  ·have hy':(es.take i)[i-1]? =some y:=by rw[OL (by omega)];exact hy
   have:=h.2.1;rw[HD]at this;have ha':=cr.1 hj;have hb':=cr.1 hy';obtain⟨a1,a2⟩:=ha';obtain⟨b1,b2⟩:=hb';have:=this j (i-1) a1 b1 (by omega);rw[a2,b2]at this;exact pP.trans _ _ _ this hyb
 ·rcases b7.1 hf with a|a<;>rcases b7.1 hg with b|b
  ·exact h.2.2 f a g b hc
  ·rw[iZ]at b;rw[b]at hc⊢;exact(h5 f a (.inr hc)).symm
  ·rw[iZ]at a;rw[a]at hc⊢;exact h5 g b (.inl hc)
  ·rw[iZ]at a b;rw[a,b]
theorem abh {es:List az} (hn:es.length<=274877906944) (hs:∀e∈es,e.a8.length<=274877906944/\e.Name.length<=274877906944):ae ((f124 Pf) es) (λr=>r=true↔ke es):=by
 rw[ai8,wX];refine eo (L:=λi s=>(oV Pf) es s i) (P:=λr=>r=true↔ke es) (len:=es.length) (λi _=>ke (es.take i)) (λi s hi hI k=>?_) (λs hI=>?_) 0 false (by omega) ⟨by simp,by simp,by simp⟩
 ·show ae ((oV Pf) es s i) _;obtain⟨x,hx⟩:=bo hi;have hm:=aV hx;have hx1:=hs x hm;have:decide (i<es.length)=true:=by simpa using hi
  have bad:∀{Q:Prop},(ke (es.take (i+1))->Q)->¬Q->(false=true↔ke es):=λh hq=>⟨λe=>(by cases e),λhr=>absurd (h (hr.take _)) hq⟩;have mem:x∈es.take (i+1):=by rw[fM,hx];simp
  rw[Te,u4,WM,az.aH,a7,this,aB,bf hx,au,ah.aH,Gh,QL (by omega),au,ma _ (by omega),au];refine ae.bif (λh=>ae.ret (bad (λhr=>(hr.1 x mem).1) (by simpa using h))) (λh1=>?_);have h1:x.a8≠[]:=λe=>by rw[e]at h1;cases h1
  refine ae.bif (λh=>ae.ret (bad (λhr=>Ir.2 (hr.1 x mem).2.1) (by simpa using h))) (λh2=>?_);have h2:cd x.a8:=Ir.1 (by simpa using h2);refine ae.bif (λh=>ae.ret (bad (λhr=>(hr.1 x mem).2.2) (by simpa using h))) (λh3=>?_);have h3:dC x.Name=true:=by simpa using h3
  have hpre:∀e∈es.take i,cd e.a8:=λe he=>(hI.1 e he).2.1;have sub:∀e∈es.take i,e∈es.take (i+1):=λe he=>by rw[fM];exact mE _ he
  have fin:∀{L:Int->Option Bool} {s:Bool},(∀j,L j=bif decide (j<((az.rows (es.take i)).length:Int))then((aj (es.take i) j).bind λx21=>(((f174 Pf) x.a8 x21.a8).bind λy23=>(bif y23==1 then(some false)else(bif y23==2 then(some false)else L (IntKind.i64.wrap (j+1))))))else(oV Pf) es s (IntKind.i64.wrap (i+1)))->(∀y,0<i->es[i-1]? =some y->fJ y x<0)->ae (L 0) (λr=>r=true↔ke es):=by
   intro L s hL h4;rcases acM (by rw[iK];omega) hL h2 hpre with⟨h5,e⟩|⟨h5,e⟩
   ·rw[e,bW i (by omega)];exact k s (adM hx hI h1 h2 h3 h4 h5)
   ·rw[e];refine ae.ret (bad (λhr=>?_) h5);intro e he hc;rcases hc with hc|hc
    ·exact hr.2.2 x mem e (sub e he) hc
    ·exact(hr.2.2 e (sub e he) x mem hc).symm
  refine ae.bif (λh6=>?_) (λh6=>?_)
  ·have h6:0<i:=by simpa using h6
   obtain⟨y,hy⟩:=bo (l:=es) (i:=i-1) (by omega);have e1:IntKind.i64.wrap ((i:Int)-1)=((i-1:Nat):Int):=by rw[wrap64 (by omega) (by omega)];omega
   rw[e1,bf hy,au,P4 _ _ (by have:=hs y (aV hy);omega),au];refine ae.bif (λh7=>ae.ret (bad (Q:=fJ y x<0) (λhr=>?_) (by simpa using h7))) (λh7=>?_)
   ·have:=hr.2.1;rw[HD]at this;have h8:=this (i-1) i (by rw[iK];omega) (by rw[iK];omega) (by omega);rw[List.getElem_take,List.getElem_take]at h8;have a:=(cr.1 hy).2;have b:=(cr.1 hx).2;rw[a,b]at h8;exact h8
   ·have h7:fJ y x<0:=by simpa using h7
    rw[uM (by omega),au];refine fin (s:=s) (λj=>by rw[afj,zZ]) λy' _ hy'=>?_;rw[hy]at hy';cases hy';exact h7
  ·have h6:i=0:=by simpa using h6
   rw[uM (by omega),au];exact fin (s:=s) (λj=>by rw[afk,z6]) λy' h _=>by omega
 ·show ae ((oV Pf) es s es.length) _;have:decide (es.length<es.length)=false:=by simp
  rw[Te,u4,WM,az.aH,a7,this,aC];rw[eV]at hI;exact ae.ret ⟨λ_=>hI,λ_=>rfl⟩
