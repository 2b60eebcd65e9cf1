/- Lemmas for ThreeTurned. -/
import Derived.Test.YtndbpldeabnkbaaGreatDoorM39
import Derived.Test.YtndbpldeabnkbaaGreatDoorM36
import Derived.Test.YtndbpldeabnkbaaGreatDoorM45
set_option linter.all false
set_option maxHeartbeats 8000000
namespace Go.Proofs.YtndbpldeabnkbaaGreatDoor
open Go.RowKit Go.Fk
def Lg(d:Nat)(p:Bool)(e:Nat):Z0:=FH 2++ao d++[(if p then 1 else 0)]++ao e
def Lf(d e:Nat)(p:Bool)(l:List aq):Z0:=au (Lg d p e)++bt d e p l
def vu(d:Bool)(r:aq):aq:=if d then r else⟨0,0,r.source,r.text⟩
def YE(r:aq):Prop:=r.source.length<=1000000/\r.text.length<=1000000
def ly(l:List aq)(d:List Nat)(k:Nat):List aq:=(l.drop (d.take k).sum).take (d.getD k 0)
def S5(p:Bool)(l:List aq)(d:List Nat)(k:Nat)(h:k<d.length):dd p l d k=mN p (dL false (ly l d k)):=by
 have e:(d.take (k+1)).sum=(d.take k).sum+d.getD k 0:=by rw[f8 h,ot,bq,bj h];simp
 unfold dd ly;rw[e,ru,show(d.take k).sum+d.getD k 0-(d.take k).sum=d.getD k 0 by omega]
def Nk(l:List aq)(d:List Nat)(k:Nat):(ly l d k).Sublist l:=(List.take_sublist _ _).trans (List.drop_sublist _ _)
def YF(v:Int)(o:dV)(l:List aq)(A:Z0):Prop:=
 (v=1/\∃(e:Nat) (p:Bool),e<=32768/\o=⟨(e:Int),p,0,0,0,0⟩/\A=Fl e p l) \/
 (v=2/\∃(e h:Nat) (p:Bool),e<=32768/\1<=h/\h<=64/\o=⟨(e:Int),p,(h:Int),0,0,0⟩/\A=Lf e h p l) \/
 (v=3/\∃(e h d q c:Nat) (p:Bool),e<=32768/\1<=h/\h<=64/\1<=d/\d+q<=255/\1<=c/\c<=4096/\o=⟨(e:Int),p,(h:Int),(d:Int),(q:Int),(c:Int)⟩/\A=bO e p h d q c (bt e h p l))
def AQ(x:Nat)(h:x<128):(ao x).length=1:=by rw[ve x h];rfl
theorem IG:∀(l:List Z0) (d:Z0),d.length<=25->(∀s∈l,s.length<=25)->(jR d l).length<=l.length*27
 | [],d,_,_=>by simp[jR]
 | s::l,d,A,h=>by
  have e:=h s σ
  have D:=IG l s e (λx m=>h x (by simp[m]))
  have F:=uP d s
  have o:=AQ (cQ d s) ω
  have z:=AQ (s.drop (cQ d s)).length (by rw[aN];omega)
  rw[jR,am,am,aL,be]
  unfold ci
  rw[am,o,z,aN]
  omega
def Vo(l:List Z0)(h:∀s∈l,s.length<=25):(aZ l).length<=l.length*27:=by
 cases l with
 | nil=>simp[aZ]
 | cons s l=>have d:=h s σ;have o:=IG l s d (λx e=>h x (by simp[e]));have m:=AQ s.length ω;rw[aZ,am,aL,be];unfold ci;rw[am,m];omega
def U1{α:Type}(l:List α)(n:Nat)(d:1<=n):(ek l n).flatten=l:=by
 have key:∀k,((List.range k).map λj=>(l.drop (j*n)).take n).flatten=l.take (k*n):=by
  intro k
  induction k with
  | zero=>simp
  | succ k e=>rw[jr,eD,oz,e,be,dC,List.take_add];simp
 unfold ek;rw[key,cw];have h:¬aH l.length n<aH l.length n:=wl _;rw[qY _ _ d]at h;omega
def TV(n:Nat)(l:List Z0)(q:Z0)(o:1<=n)(K:n<=64)(D:uH l):dn n (lA n l++q)=(l,(lA n l).length,0):=by
 obtain⟨F,z,L⟩:=D;have G:∀c∈ek l n,∀s∈c,s.length<=25:=λc d s A=>by obtain⟨j,m,rfl⟩:=pC.1 d;rw[yz]at A;exact(z s (s7 (fZ A))).2
 refine TN n l (ek l n) q ω (by rw[qg];rfl) (U1 l n o) (λj m=>?_) (λc d=>?_) F z;·have I:=m;rw[qg,qY _ _ o]at I;rw[yz];have e:((l.drop (j*n)).take n).length=min n (l.length-j*n):=(by rw[aA,aN]);refine⟨e,λh=>?_⟩;rw[h,gS]at e;omega
 ·have J:=Vo c (G c d);obtain⟨j,m,rfl⟩:=pC.1 d;rw[yz]at J ⊢;have e:((l.drop (j*n)).take n).length<=n:=List.length_take_le _ _;have M:((l.drop (j*n)).take n).length*27<=64*27:=bQ _ ω;omega
def OI(e d:Nat)(ts:List Z0)(m:List (List Nat))(z:1<=e)(A:e<=64)(h:Cn d ts m):iY e d (jM e d ts m)=(ts,m,0):=by
 have D:=TV e ts (ju d m) z A h.txt;have F:=QP d h.bnd (ju d m) m 0 [] rfl (λq o=>⟨h.ris q o,h.ne q o⟩);unfold iY jM;rw[D,af rfl];show(if(gX d (List.drop (lA e ts).length (lA e ts++ju d m)) ts.length 0 []).2=0 then _ else _)=_;rw[mw,<- h.same,F,af rfl];rfl
def xT(n:Nat):∀x,x<256^n->cU (dz n x)=x:=by
 induction n with
 | zero=>intro x h;simp at h;subst h;rfl
 | succ n d=>intro x h;rw[gC]at h;rw[dz,cU,d (x / 256) ω,jp];omega
def mA(L:List (Nat × Nat)):Z0:=(L.map λp=>ao p.1++ao p.2).flatten
def O4(b q:Z0)(o:Nat)(M:o<=20000)(L:List (Nat × Nat)):∀(s:Cs) (d m:List Nat),s.er=0->b.drop s.at_=mA L++q->(∀p∈L,p.1<=o/\p.2<=8388608) ->
  gZ b o L.length s d m=(d++L.map Prod.fst,m++L.map Prod.snd,⟨s.at_+(mA L).length,0⟩):=by
 induction L with
 | nil=>intro s d m z _ _;obtain⟨a,e⟩:=s;subst z;simp[gZ,mA]
 | cons p L G=>intro s d m z h D;obtain⟨p1,p2⟩:=D p σ;have e:mA (p::L)=ao p.1++(ao p.2++mA L):=(by simp[mA]);rw[e,bG]at h;have F:=Cs.int_back z h p1 ω;have A:=gn h;rw[bG]at A;have I:(s.int b o).2.int b 8388608=(p.2,⟨s.at_+(ao p.1).length+(ao p.2).length,0⟩):=(by rw[F];exact Cs.int_back (s:=⟨s.at_+(ao p.1).length,0⟩) rfl A p2 ω);have J:=gn A;rw[aL,gZ,af z,I,F];have:=G ⟨s.at_+(ao p.1).length+(ao p.2).length,0⟩ (d++[p.1]) (m++[p.2]) rfl J (λx K=>D x (by simp[K]));rw[this,e];simp[jq]
def rX(q:Z0):bE (au q)=q:=by
 unfold bE;rw[af (tz q),gH];unfold au;simp
def Bw(q:Z0):cK (au q)=0:=by unfold cK;rw[af (tz q)]
theorem Hu:∀(d:List Z0) (q:Z0),iC (d.map (·.length)) (d.flatten++q)=d
 | [],q=>rfl
 | f::d,q=>by
  rw[dD,iC,oy,bG,nK,mw,Hu d q]
def SA(d:List Z0):d.flatten.length=(d.map (·.length)).sum:=by
 induction d with
 | nil=>rfl
 | cons f d e=>rw[oy,am,dD,gQ,e]
def OF(d:List Nat)(e:Nat->Z0)(n:Nat):lM d e n=mA ((List.range n).map λi=>(d.getD i 0,(e i).length)):=by
 unfold lM mA;rw[jE];rfl
def Sz(d:List Nat):(List.range d.length).map (λi=>d.getD i 0)=d:=by
 apply gT;·simp
 ·intro i h e;simp[e]
theorem FZ:∀d:List Nat,(∀x∈d,1<=x)->d.length<=d.sum
 | [],_=>al _
 | x::d,h=>by
  have m:=h x σ
  have o:=FZ d λy e=>h y (by simp[e])
  rw[aL,gQ];omega
def TC(d:List Nat)(h:Nat->Z0)(a b:Nat)(o:d.sum<=20000)(G:∀x∈d,1<=x)(I:∀k,(h k).length<=8388608)(J:a<=8388608)(K:b<=8388608):(dm (ej d h a b)).1=d.sum/\cV (ej d h a b)=(d,(List.range d.length).map (λi=>(h i).length),(cV (ej d h a b)).2.2)/\(j9 (ej d h a b)).1=a/\(jQ (ej d h a b)).1=b/\((jQ (ej d h a b)).2.fin (ej d h a b)).er=0:=by
 have e:ej d h a b=ao d.sum++(ao d.length++(mA ((List.range d.length).map λi=>(d.getD i 0,(h i).length))++(ao a++(ao b++[])))):=by unfold ej;rw[OF];simp only[bG,dg]
 have L:=dp List.length e;simp only[am,gS,dq]at L;have hN:dm (ej d h a b)=(d.sum,⟨0+(ao d.sum).length,0⟩):=Cs.int_back (s:=⟨0,0⟩) rfl e o ω;have z:(ej d h a b).drop (0+(ao d.sum).length)=_:=gn (a:=0) e;have M:=FZ d G;have O:mL (ej d h a b)=(d.length,⟨0+(ao d.sum).length+(ao d.length).length,0⟩):=by unfold mL;rw[hN];exact Cs.int_back (s:=⟨0+(ao d.sum).length,0⟩) rfl z M ω
 have A:=gn z;have D:cV (ej d h a b)=(d,(List.range d.length).map (λi=>(h i).length),⟨0+(ao d.sum).length+(ao d.length).length+(mA ((List.range d.length).map λi=>(d.getD i 0,(h i).length))).length,0⟩):=by
  unfold cV;rw [O,hN];have := O4 (ej d h a b) _ d.sum o ((List.range d.length).map fun i => (d.getD i 0, (h i).length)) ⟨0 + (ao d.sum).length + (ao d.length).length, 0⟩ [] [] rfl A (fun p Q => by
    obtain ⟨i, m, rfl⟩ := ee.1 Q;have m := dN.1 m;refine ⟨?_, I i⟩;show d.getD i 0 ≤ _;rw[bq, bj m]
    exact zU _ _ (bJ m))
  rw[cy,jY]at this;rw[this,fJ,fJ,jE,jE];show(List.map (λi=>d.getD i 0) (List.range d.length),_,_)=_;rw[Sz];rfl
 have F:=gn A;have hP:j9 (ej d h a b)=(a,⟨0+(ao d.sum).length+(ao d.length).length+(mA ((List.range d.length).map λi=>(d.getD i 0,(h i).length))).length+(ao a).length,0⟩):=by unfold j9;rw[D];exact Cs.int_back (s:=⟨_,0⟩) rfl F J ω
 have R:=gn F;have hQ:jQ (ej d h a b)=(b,⟨0+(ao d.sum).length+(ao d.length).length+(mA ((List.range d.length).map λi=>(d.getD i 0,(h i).length))).length+(ao a).length+(ao b).length,0⟩):=by unfold jQ;rw[hP];exact Cs.int_back (s:=⟨_,0⟩) rfl R K ω
 refine⟨by rw[hN],by rw[D],by rw[hP],by rw[hQ],?_⟩;have U:(ej d h a b).length<=0+(ao d.sum).length+(ao d.length).length+(mA ((List.range d.length).map λi=>(d.getD i 0,(h i).length))).length+(ao a).length+(ao b).length:=ω
 rw[hQ,Cs.fin_back (s:=⟨_,0⟩) U]
def Ry(d:List Nat)(e:Nat->Z0)(m o:Z0)(K:Nat)(ts:List Nat)(V:Z0)(Y:List Z0)(Z:List (List Nat))(hs:d.sum<=20000)(hp:∀x∈d,1<=x)(hf:∀k,(e k).length<=8388608)(ha:(au m).length<=8388608)(hb:(au o).length<=8388608)
  (hcol:fi d.sum m=(ts,V,m.length,0)) (hidx:iY K d.sum o=(Y,Z,0)) (hl:(au (ej d e (au m).length (au o).length)).length<4294967296) :
  pQ K (oS d e (au m) (au o))=0/\Fk.iz K (oS d e (au m) (au o))=⟨d,(List.range d.length).map (λi=>(e i).length),(au m).length,(au o).length,eF e d.length,ts,V,Y,Z⟩:=by
 obtain⟨L,D2,F,D4,D5⟩:=TC d e (au m).length (au o).length hs hp hf ha hb;have G:oS d e (au m) (au o)=(((eF e d.length).flatten++au m++au o)++au (ej d e (au m).length (au o).length))++dz 4 (au (ej d e (au m).length (au o).length)).length:=rfl;have aj:(eF e d.length).map (·.length)=(List.range d.length).map (λi=>(e i).length):=by unfold eF;rw[jE];rfl
 have M:=SA (eF e d.length);rw[aj]at M;have hF:=qb 4 (au (ej d e (au m).length (au o).length)).length;have a7:=xT 4 (au (ej d e (au m).length (au o).length)).length (by rw[show(256:Nat)^4=4294967296 by decide];exact hl);have ak:=Hu (eF e d.length) (au m++au o);rw[aj]at ak;generalize oS d e (au m) (au o)=B at *;generalize I:(eF e d.length).flatten++au m++au o=R at *;generalize hD:ej d e (au m).length (au o).length=D at *;generalize hX:dz 4 (au D).length=X at *;have z:=dp List.length G;rw[am,am,hF]at z;have O:mJ B=(au D).length:=by unfold mJ;rw[z,show R.length+(au D).length+4-4=(R++au D).length by rw[am];omega,G,mw];exact a7
 have hT:B.take (B.length-4)=R++au D:=by rw[z,show R.length+(au D).length+4-4=(R++au D).length by rw[am];omega,G,nK]
 have ap:pY B=au D:=by unfold pY;rw[hT,O,z,show R.length+(au D).length+4-4-(au D).length=R.length by omega,mw]
 have hE:kQ B=0:=by unfold kQ;rw[ae ω,ae (by rw[O];omega),ap,Bw]
 have J:gP B=R:=by unfold gP;rw[O,z,show R.length+(au D).length+4-4-(au D).length=R.length by omega,G,bG,nK]
 have A:bC B=D:=by unfold bC;rw[ap,rX]
 have Q:(cV D).1=d:=by rw[D2]
 have U:(cV D).2.1=(List.range d.length).map (λi=>(e i).length):=by rw[D2]
 have av:vQ B=(eF e d.length).flatten.length:=by unfold vQ;rw[A,U,M]
 have bb:=dp List.length I;rw[am,am]at bb;have a0:kB B=au m:=by unfold kB;rw[J,A,av,F,<- I,bG,mw,nK]
 have a1:jm B=au o:=by unfold jm;rw[J,A,av,F,<- I,show(eF e d.length).flatten.length+(au m).length=((eF e d.length).flatten++au m).length by rw[am],mw]
 have bc:nC D R.length=0:=by
  unfold nC;rw[af D5,ae];rintro(h | h | h);·rw[Q]at h;have:=hp 0 h;omega
  ·rw[Q,L]at h;exact h rfl
  ·rw[U,F,D4,<- M]at h;omega
 have bd:mM d.sum (au m)=0:=by unfold mM;rw[Bw,af rfl,rX,hcol,af rfl,ae (wl _)]
 constructor;·unfold pQ;rw[hE,af rfl,A,J,bc,af rfl,L,a0,bd,af rfl,a1,Bw,af rfl,rX,hidx]
 ·unfold Fk.iz;rw[A,Q,U,F,D4,J,a0,a1,L,rX,rX,hcol,hidx,<- I,bG,ak]
def I6(d e:Nat)(p:Bool)(l:List aq)(z:1<=e)(A:e<=64)(m:gA l):pQ e (bt d e p l)=0/\Fk.iz e (bt d e p l)=⟨cZ d (bU false) l,(List.range (cZ d (bU false) l).length).map (λi=>(dd p l (cZ d (bU false) l) i).length),(au (ib l)).length,(au (jM e l.length (dy (l.map aq.ts)) (fH (l.map aq.ts)))).length,eF (dd p l (cZ d (bU false) l)) (cZ d (bU false) l).length,l.map (λr=>r.time.toNat),l.map (·.level),dy (l.map aq.ts),fH (l.map aq.ts)⟩:=by
 have o:=sf d e p l z A m;have h:=vA d (bU false) l;have F:=m.len;have L:=BA l F;unfold bt at o ⊢;have G:∀x∈cZ d (bU false) l,1<=x:=by
  cases l with
  | nil=>intro x I;cases I
  | cons r l=>exact G9 d (bU false) l 1 (bU false r) (al _)
 have M:(oS (cZ d (bU false) l) (dd p l (cZ d (bU false) l)) (au (ib l)) (au (jM e l.length (dy (l.map aq.ts)) (fH (l.map aq.ts))))).length=_:=rfl;unfold oS at o;simp only[am]at o;have J:fi (cZ d (bU false) l).sum (ib l)=(l.map (λr=>r.time.toNat),l.map (·.level),(ib l).length,0):=by
  rw [h];have := Ur (l.map fun r => r.time.toNat) (l.map (·.level)) [] (by simp) (fun t K => by
    obtain ⟨r, _, rfl⟩ := ee.1 K
    exact pr _) (by simp; omega)
  rw[cy,dg]at this;exact this
 have D:=OI e l.length (dy (l.map aq.ts)) (fH (l.map aq.ts)) z A m.idx;rw[<- h]at D;have:=Ry (cZ d (bU false) l) (dd p l (cZ d (bU false) l)) (ib l) (jM e (cZ d (bU false) l).sum (dy (l.map aq.ts)) (fH (l.map aq.ts))) e _ _ _ _ ω G (λk=>ay (m.frm p _ k).2 ω) (by rw[gH];omega) (by rw[h];omega) J D (by rw[h];omega);rw[h]at this;exact this
theorem EM(c:Nat)(q:Z0):∀(d:List Z0) (i:Nat),(∀p∈d,p.length=c)->(h:i<d.length)->((gy d++q).drop (i*(c+4))).take (c+4)=au d[i]
 | [],i,_,h=>by cases h
 | p::d,i,o,h=>by
  have e:gy (p::d)=au p++gy d:=by simp[gy]
  have m:(au p).length=c+4:=by rw[gH,o p σ]
  rw[e,bG]
  cases i with
  | zero=>rw[py,wD,sA,<- m,nK]
  | succ i=>
   rw[C0,show(i+1)*(c+4)=(c+4)+i*(c+4) by rw[be,dC,oq],<- lk,<- m,mw,m]
   exact EM c q d i (λx z=>o x (by simp[z])) (by simpa using h)
def Rn(b:Z0)(k m c s:Nat):∀t,s<t->∃r,dJ b k m c t=dJ b k m c s++(pI b k m c (s*(k*c))++r):=by
 intro t
 induction t with
 | zero=>intro h;omega
 | succ t o=>
  intro h;rcases mV s t with d | d;·obtain⟨r,z⟩:=o d;refine⟨r++pI b k m c (t*(k*c)),?_⟩;rw[dJ,z];simp only[bG]
  ·have e:s=t:=ω;subst e;exact⟨[],by rw[dJ,dg]⟩
def iS(b:Z0)(k m c s:Nat):List Z0:=eX b c (s*(k*c)) k++mD m (eX b c (s*(k*c)) k) c
def vU(b:Z0)(k m c s:Nat):(iS b k m c s).length=k+m:=by
 unfold iS;rw[am,mC,xH]
def Ja(b:Z0)(k m c s:Nat):∀p∈iS b k m c s,p.length=c:=by
 intro p d;rcases jD.1 d with h | h;·exact oJ b c _ k p h
 ·exact xI m _ c (oJ b c _ k) p h
def xU(b:Z0)(k m c s t i:Nat)(h:s<t)(d:i<k+m):bY (dJ b k m c t) c (s*((k+m)*(c+4))) i=au ((iS b k m c s)[i]'(by rw[vU];exact d)):=by
 obtain⟨r,o⟩:=Rn b k m c s t h;have e:pI b k m c (s*(k*c))=gy (iS b k m c s):=by unfold pI iS;rw[EO]
 unfold bY;rw[o,<- lk,<- pV b k m c s,mw,e];exact EM c r _ i (Ja b k m c s) (by rw[vU];exact d)
def Sv(l:Z0)(c a n:Nat)(h:∀i,i<n->bz (bY l c a i)=true):bD l c a n=List.replicate n true:=by
 apply gT;·simp[bD]
 ·intro i d m;have e:i<n:=(by simpa [bD] using d);simp[bD,h i e]
def So(n:Nat):bh (List.replicate n true)=List.range n:=by
 unfold bh;rw[jX,wC];intro i d;have:=dN.1 d;simp[this]
def V8(l:Z0)(c a n b:Nat)(h:∀i,i<n->bz (bY l c a i)=true):kX l c a n b=[]:=by
 unfold kX;rw[List.filter_eq_nil_iff.2 λi d=>by rw[h i (dN.1 d)];simp];rfl
def MF(b:Z0)(k m c s t:Nat)(z:s<t)(L:k+m<=255):fE k m c (dJ b k m c t) (s*((k+m)*(c+4)))=(0,eX b c (s*(k*c)) k)/\kX (dJ b k m c t) c (s*((k+m)*(c+4))) (k+m) (s*(k+m))=[]:=by
 have A:∀i,i<k+m->bz (bY (dJ b k m c t) c (s*((k+m)*(c+4))) i)=true:=λi e=>by rw[xU b k m c s t i z e];exact tz _
 have D:=Sv _ _ _ _ A;have F:dH (dJ b k m c t) c (s*((k+m)*(c+4))) (k+m)=iS b k m c s:=by
  apply gT;·simp[dH,vU]
  ·intro i h d;have e:i<k+m:=(by simpa [dH] using h);simp only[dH,fK,jd];rw[xU b k m c s t i z e,rX]
 refine⟨?_,V8 _ _ _ _ _ A⟩;have G:(List.range (k+m)).take k=List.range k:=by rw[List.take_range,fI ω]
 have I:fo (List.range k) (iS b k m c s)=eX b c (s*(k*c)) k:=by
  apply gT;·simp[fo,mC]
  ·intro i h d;have e:i<k:=(by simpa [fo] using h);simp only[fo,fK,jd];unfold iS;rw[bq,q6 (by rw[mC];exact e),bj d];rfl
 have J:kO k m c (List.range k) (eX b c (s*(k*c)) k)=iS b k m c s:=by
  have K : qk (List.range k) (k + m) := ⟨fun r s h d => by
    have d : s < k := (by simpa using d);rw[bq, bq, C2 d, C2 ω]
    exact h, λr o => by have := dN.1 o; omega⟩
  unfold kO iS;rw[Hs k m c (List.range k) _ σ (mC _ _ _ _) K (oJ _ _ _ _) (λr o=>by simp[o])]
 unfold fE;simp only[D,F,So,G,I,J];rw[ae σ];rw[af];·unfold iS;rw[wu (by rw[mC];exact al _),cw (by rw[mC];exact al _)]
 ·unfold pL;rw[pE];intro i _;simp
def B5(l:Z0)(a n m:Nat):kw l a (n+m)=kw l a n++kw l (a+n) m:=by
 unfold kw;rw[List.range_add,eD,jE];congr 1;apply iV;intro i _;show l.getD (a+(n+i)) 0=_;rw[jq]
def EX(l:Z0)(c a:Nat):∀k,(eX l c a k).flatten=kw l a (k*c):=by
 intro k
 induction k with
 | zero=>rw[py];rfl
 | succ k d=>rw[Pb,oz,d,be,dC,B5];simp
def Oo(b:Z0)(k m c t:Nat)(o:k+m<=255):∀f s d e,s+f=t->fU k m c (dJ b k m c t) f s d e=(0,d++kw b (s*(k*c)) (f*(k*c)),e):=by
 intro f
 induction f with
 | zero=>intro s d e _;rw[fU,py];show _=(0,d++[],e);rw[dg]
 | succ f z=>intro s d e h;obtain⟨A,D⟩:=MF b k m c s t ω o;rw[fU];simp only[A,D,lF];rw[z (s+1) _ _ ω,dg,EX,bG,be s 1,dC,be f 1,dC,oq (f*(k*c)),B5 b (s*(k*c))]
def Hw(b:Z0)(n:Nat)(h:b.length<=n):(kw b 0 n).take b.length=b:=by
 apply gT;·rw[aA,yl];omega
 ·intro i e d;rw[qz];simp only[kw,fK,jd];rw[iH,bq,bj d];rfl
def Hx(b:Z0)(n:Nat):((kw b 0 n).drop b.length).all (· == 0)=true:=by
 rw[pE];intro x d;obtain⟨i,e,rfl⟩:=pC.1 d;rw[s9];simp only[kw,fK,jd];rw[iH,bq,iW ω];rfl
def Oj(b:Z0)(k m c:Nat)(e:1<=k)(h:1<=c)(o:k+m<=255)(D:b.length<=8388608)(F:aG k c b.length*((k+m)*(c+4))<=16777216):gj k m c b.length (dJ b k m c (aG k c b.length))=(0,b,[]):=by
 have G:=pV b k m c (aG k c b.length);have z:0<k*c:=Nat.mul_pos e h;have A:¬aG k c b.length<aG k c b.length:=wl _;rw[tf k c b.length z]at A;have d:=Oo b k m c (aG k c b.length) o (aG k c b.length) 0 [] [] ω;rw[py,fJ]at d;unfold gj;rw[ae ω,ae ω,ae ω,ae ω];simp only[d,lF];rw[af (Hx b _),Hw b _ ω]
def vz(e h d q c n:Nat)(p:Bool)(z:e<65536)(A:h<256)(D:d<256)(F:q<256)(G:c<65536)(I:n<4294967296):hX (au (cz e p h d q c n))=(if p then 1 else 0)/\iA (au (cz e p h d q c n))=h/\hD (au (cz e p h d q c n))=d/\hQ (au (cz e p h d q c n))=q/\hC (au (cz e p h d q c n))=c/\jz (au (cz e p h d q c n))=e/\hN (au (cz e p h d q c n))=n/\go (au (cz e p h d q c n))=true:=by
 have J:(256:Nat)^4=4294967296:=δ
 have p2:(256:Nat)^2=65536:=δ
 refine⟨?_,?_,?_,?_,?_,?_,?_,?_⟩;·cases p <;> rfl
 ·show(UInt8.ofNat h).toNat=h;rw[jp];omega
 ·show(UInt8.ofNat d).toNat=d;rw[jp];omega
 ·show(UInt8.ofNat q).toNat=q;rw[jp];omega
 ·show cU (dz 2 c)=c;exact xT 2 c ω
 ·show cU (dz 2 e)=e;exact xT 2 e ω
 ·show cU (dz 4 n)=n;exact xT 4 n ω
 ·unfold go;rw[tz,qA];refine bp ?_;have K:(au (cz e p h d q c n)).length=21:=(by rw[gH,qW]);have m:(au (cz e p h d q c n)).take 4=[70,73,82,75]:=rfl;have o:((au (cz e p h d q c n)).getD 4 0).toNat=3:=rfl;unfold eE;rw[ae ω,af m,o];rfl
def ud(e h d q c:Nat)(p:Bool)(b:Z0)(A:e<65536)(D:h<256)(F:d<256)(G:q<256)(I:c<65536)(J:b.length<4294967296):¬ (bO e p h d q c b).length < 42 ∧ (bO e p h d q c b).take 21 = au (cz e p h d q c b.length) ∧ (bO e p h d q c b).drop ((bO e p h d q c b).length-21) = au (cz e p h d q c b.length) ∧
   an (bO e p h d q c b)=au (cz e p h d q c b.length)/\gm (bO e p h d q c b)=true/\iQ (bO e p h d q c b)=dJ b d q c (aG d c b.length):=by
 have z:=(vz e h d q c b.length p A D F G I J).2.2.2.2.2.2.2;have m:(au (cz e p h d q c b.length)).length=21:=by rw[gH,qW]
 unfold bO;generalize au (cz e p h d q c b.length)=H at *;generalize dJ b d q c (aG d c b.length)=L;have o:(H++L++H).take 21=H:=by rw[bG,<- m,nK]
 have K:(H++L++H).drop ((H++L++H).length-21)=H:=by have M:(H++L++H).length=(H++L).length+H.length:=am;rw[show(H++L++H).length-21=(H++L).length by omega,mw]
 refine⟨by rw[am,am];omega,o,K,?_,?_,?_⟩;·unfold an;rw[o,af z]
 ·unfold gm;rw[o,z,Bool.true_or]
 ·unfold iQ;rw[bG,<- m,mw,am,am,m,show 21+(L.length+21)-42=L.length by omega,nK]
def vM(h e d q c:Nat)(p:Bool)(b:Z0)(o:ew ⟨(h:Int),p,(e:Int),(d:Int),(q:Int),(c:Int)⟩=true)(L:b.length<=8388608)(M:aG d c b.length*((d+q)*(c+4))<=16777216):dt (an (bO h p e d q c b))=⟨(h:Int),p,(e:Int),(d:Int),(q:Int),(c:Int)⟩/\bi (bO h p e d q c b)=(0,b,0)/\iA (an (bO h p e d q c b))=e:=by
 have z:=(kM _).1 o;simp only at z;obtain⟨Z,k2,k3,k4,k5,k6,k7,k8,k9,a0⟩:=z;obtain⟨O,Q,R,m,U,V⟩:=ud h e d q c p b ω ω ω ω ω ω;obtain⟨A,D,F,G,I,X,Y,b8⟩:=vz h e d q c b.length p ω ω ω ω ω ω;have J:dt (an (bO h p e d q c b))=⟨(h:Int),p,(e:Int),(d:Int),(q:Int),(c:Int)⟩:=by rw[m];unfold dt hP;rw[A,D,F,G,I,X];cases p <;> rfl
 have K:gG (bO h p e d q c b)=(0,b,[]):=by unfold gG;rw[m,V,F,G,I,Y];exact Oj b d q c ω ω ω L M
 refine⟨J,?_,by rw[m,D]⟩;rw[yE _ O U (by rw[m,A];cases p <;> decide) (by rw[J];exact o) (by rw[K]),K,Q,R,af rfl];rfl
def VN(b:Z0)(k m c s r t:Nat)(F:k+m<=255)(G:r<k+m)(e:t<c):((iS b k m c s).getD r []).getD t 0=xs k λj=>aT (jI k r j) (((eX b c (s*(k*c)) k).getD j []).getD t 0):=by
 unfold iS;have d:=mC b c (s*(k*c)) k;have o:=oJ b c (s*(k*c)) k;generalize eX b c (s*(k*c)) k=D at *;by_cases h:r<k;·rw[bq (l:=D++_),q6 ω,<- bq,sO k r _ h (λj I z=>by unfold jI;rw[af h,ae (iG z),pF])];unfold jI;rw[af h,af rfl,qQ]
 ·rw[bq (l:=D++_),sE ω,<- bq,d];unfold mD;rw[Dj _ _ m _ c (r-k) t o (al _) ω e,d];refine lH _ _ _ λq A=>?_;rw[I2,dq,rH k _ m (r-k) q ω A,<- CW k (r-k) q ω ω,show k+(r-k)=r by omega]
def ME(b l:Z0)(k m c s t:Nat)(O:s<t)(G:k+m<=255)
  (h:∀i,i<k+m->bz (bY l c (s*((k+m)*(c+4))) i)=true->bY l c (s*((k+m)*(c+4))) i=bY (dJ b k m c t) c (s*((k+m)*(c+4))) i)
  (hb:(kX l c (s*((k+m)*(c+4))) (k+m) (s*(k+m))).length<=m):fE k m c l (s*((k+m)*(c+4)))=(0,eX b c (s*(k*c)) k):=by
 have Q:=λi d=>xU b k m c s t i O d;generalize s*((k+m)*(c+4))=a at *;have I:=tJ l c a (k+m);have Y:k<=(bh (bD l c a (k+m))).length:=by have:=Sq (bD l c a (k+m)) (s*(k+m));rw[<- tZ]at this;omega
 have J:qk ((bh (bD l c a (k+m))).take k) (k+m):=by have:=GB (bD l c a (k+m)) k;rwa [I]at this
 have A:((bh (bD l c a (k+m))).take k).length=k:=by rw[aA];omega
 have K:∀i,i<k+m->(bD l c a (k+m)).getD i false=true->(dH l c a (k+m)).getD i []=(iS b k m c s).getD i []:=λi d z=>by rw[Bj _ _ _ _ _ d]at z;rw[cg _ _ _ (by rw[uV];exact d),cg _ _ _ (by rw[vU];exact d)];simp only[dH,fK,jd];rw[h i d z,Q i d,rX]
 have D:∀r∈(bh (bD l c a (k+m))).take k,r<k+m/\(bD l c a (k+m)).getD r false=true:=λr o=>by have F:=fZ o;unfold bh at F;rw[lG,dN,I]at F;exact F
 have R:fo ((bh (bD l c a (k+m))).take k) (dH l c a (k+m))=fo ((bh (bD l c a (k+m))).take k) (iS b k m c s):=iV λr o=>K r (D r o).1 (D r o).2;have U:kT k m c ((bh (bD l c a (k+m))).take k) (fo ((bh (bD l c a (k+m))).take k) (iS b k m c s))=eX b c (s*(k*c)) k:=by
  refine TZ k m c G _ A J _ _ (mC ..) (oJ b c (s*(k*c)) k) (by rw[fo,cy,A]) (λp V=>?_) λr o t X=>?_;·obtain⟨i,d,rfl⟩:=ee.1 V;have:=(D i d).1;rw[cg _ _ _ (by rw[vU];exact this)];exact Ja b k m c s _ (bJ _)
  ·have e:(fo ((bh (bD l c a (k+m))).take k) (iS b k m c s)).getD r []=(iS b k m c s).getD (((bh (bD l c a (k+m))).take k).getD r 0) []:=(by rw[cg _ _ _ (by rw[fo,cy,A];exact o),cg _ r 0 ω];simp only[fo,fK]);rw[e];exact VN b k m c s _ t G (J.2 _ (by rw[cg _ _ _ ω];exact bJ _)) X
 have L:kO k m c ((bh (bD l c a (k+m))).take k) (fo ((bh (bD l c a (k+m))).take k) (dH l c a (k+m)))=iS b k m c s:=by unfold kO;rw[R,U];rfl
 have M:=Ev (iS b k m c s) (dH l c a (k+m)) (bD l c a (k+m)) λi d z=>(K i ω z).symm;rw[<- L]at M;rw[DW k m c l a ω M,L];unfold iS;rw[wu (by rw[mC];exact al _),cw (by rw[mC];exact al _)]
def Ol(b l:Z0)(k m c t:Nat)(F:k+m<=255)(h:∀s,s<t->fE k m c l (s*((k+m)*(c+4)))=(0,eX b c (s*(k*c)) k)):∀f s d o,s+f=t->∃z,fU k m c l f s d o=(0,d++kw b (s*(k*c)) (f*(k*c)),z):=by
 intro f
 induction f with
 | zero=>intro s d o _;exact⟨o,by rw[fU,py];show _=(0,d++[],o);rw[dg]⟩
 | succ f A=>intro s d o e;rw[fU];simp only[h s ω,lF];obtain⟨z,D⟩:=A (s+1) (d++(eX b c (s*(k*c)) k).flatten) (o++kX l c (s*((k+m)*(c+4))) (k+m) (s*(k+m))) ω;exact⟨z,by rw[D,EX,bG,be s 1,dC,be f 1,dC,oq (f*(k*c)),B5 b (s*(k*c))]⟩
def Og(b l:Z0)(k m c:Nat)(o:1<=k)(z:1<=c)(A:k+m<=255)(G:b.length<=8388608)(I:aG k c b.length*((k+m)*(c+4))<=16777216)(J:l.length=aG k c b.length*((k+m)*(c+4)))(h:∀s,s<aG k c b.length->fE k m c l (s*((k+m)*(c+4)))=(0,eX b c (s*(k*c)) k)):∃d,gj k m c b.length l=(0,b,d):=by
 have D:0<k*c:=Nat.mul_pos o z;have F:¬aG k c b.length<aG k c b.length:=wl _;rw[tf k c b.length D]at F;obtain⟨d,e⟩:=Ol b l k m c (aG k c b.length) A h (aG k c b.length) 0 [] [] ω;rw[py,fJ]at e;refine⟨d,?_⟩;unfold gj;rw[ae ω,ae ω,ae ω,ae ω];simp only[e,lF];rw[af (Hx b _),Hw b _ ω]
def Lv(b:Z0):∀k s e d,(gt b k s e d).2.er=0->(gt b k s e d).1.length=d.length+k:=by
 intro k
 induction k with
 | zero=>intro s e d _;rfl
 | succ k o=>
  intro s e d h;rw[gt]at h ⊢;by_cases m:s.er=0;·rw[af m]at h ⊢;rw[o _ _ _ h,am,kH];omega
  ·rw[ae m]at h;exact absurd h m
def Lu(b:Z0):∀k s m d,(∀t∈d,t<18446744073709551616)->∀t∈(gt b k s m d).1,t<18446744073709551616:=by
 intro k
 induction k with
 | zero=>intro s m d h;exact h
 | succ k o=>
  intro s m d h;rw[gt];split;·refine o _ _ _ λt z=>(jD.1 z).elim (h t) λe=>?_;rw[ow.1 e];exact jB _ δ
  ·exact h
def Qv(b:Z0)(n:Nat):∀f s d,(fG b n f s d).2.er=0->n<=d.length+f->d.length<=n->(fG b n f s d).1.length=n:=by
 intro f
 induction f with
 | zero=>intro s d _ A D;show d.length=n;omega
 | succ f F=>
  intro s d h A D;rw[fG]at h ⊢;by_cases o:d.length<n/\s.er=0
  ·rw[af o]at h ⊢;have m:(qU b n s d).er=0:=wG λe=>(by rw[FM b n f _ _ e]at h;exact e h);have G:¬(iZ b n s d).1=0:=λe=>by
    unfold qU at m;split at m;·cases m
    ·rename_i z;exact z ⟨m,.inl e⟩
   have I:=FO b n s d;exact F _ _ h (by rw[am,jX];omega) (by rw[am,jX];omega)
  ·rw[ae o]at h ⊢;have z:¬d.length<n:=λe=>o ⟨e,h⟩;show d.length=n;omega
def Qw(b:Z0)(n:Nat):∀f s d,¬s.er=0->(fG b n f s d).2.er≠0:=by
 intro f s d h;rw[FM b n f s d h];exact h
def Us(n:Nat)(b:Z0)(h:(fi n b).2.2.2=0):(fi n b).1.length=n/\(fi n b).2.1.length=n/\∀t∈(fi n b).1,t<18446744073709551616:=by
 unfold fi at h ⊢;by_cases d:(rY n b).2.er=0
 ·rw[af d];have m:=wG λe=>Qw b n n _ [] e d;refine⟨?_,?_,?_⟩;·have o:(tQ n b).1.length=0+n:=Lv b n ⟨0,0⟩ 0 [] m;show(tQ n b).1.length=n;omega
  ·exact Qv b n n _ [] d σ (ar _)
  ·exact Lu b n ⟨0,0⟩ 0 [] λt h=>(iU h).elim
 ·rw[ae d]at h;exact absurd h d
def TH(b:Z0)(m:Nat):∀k s d e,d.length=e.length->(gZ b m k s d e).1.length=(gZ b m k s d e).2.1.length:=by
 intro k
 induction k with
 | zero=>intro s d e h;exact h
 | succ k o=>
  intro s d e h;rw[gZ];split;·exact o _ _ _ (by rw[am,am,h];rfl)
  ·exact h
def TI(b:Z0):(cV b).1.length=(cV b).2.1.length:=by unfold cV;exact TH b _ _ _ [] [] rfl
def Uf(l:List Nat):∀b:Z0,∀f∈iC l b,f.length<=b.length:=by
 induction l with
 | nil=>intro b f h;exact(iU h).elim
 | cons z l d=>
  intro b f h;rcases gR.1 h with e | h;·rw[e,aA];omega
  ·have:=d _ f h;rw[aN]at this;omega
def QR(d:Nat)(b:Z0)(n:Nat):∀(a:Nat) (e:List (List Nat)),(∀x∈e,x.length<=d)->(gX d b n a e).1.length<=e.length+n/\∀x∈(gX d b n a e).1,x.length<=d:=by
 induction n with
 | zero=>
  intro a e h;rw[gX];split;·exact⟨ar _,λx m=>(iU m).elim⟩
  ·exact⟨al _,h⟩
 | succ n z=>
  intro a e h;rw[gX];split
  ·rename_i A;split;·exact⟨ar _,λx m=>(iU m).elim⟩
   ·have D:=(He d (b.drop a) A).2.2.1;have o := z (a + (fu d (b.drop a)).2.1) (e ++ [(fu d (b.drop a)).1]) (fun x m => by
      rcases jD.1 m with h | F;·exact (by assumption : ∀x ∈ e, x.length ≤ d) x h
      · rw[ow.1 F]; exact D)
    rw[am]at o;simp only[aL,gS]at o;exact⟨ω,o.2⟩
  ·exact⟨ar _,λx m=>(iU m).elim⟩
def OJ(size e:Nat)(b:Z0)(o:1<=size)(z:size<=64)(D:e<=20000):(iY size e b).1.length<=100000000/\(iY size e b).2.1.length<=100000000/\∀x∈(iY size e b).2.1,x.length<=100000000:=by
 have h:=Hq size b o z;obtain⟨m,A⟩:=QR e (b.drop (dn size b).2.1) (dn size b).1.length 0 [] (λx d=>(iU d).elim);simp only[gS,iH]at m;unfold iY;split
 ·split;·exact⟨h,ay m h,λx d=>by have:=A x d;omega⟩
  ·exact⟨ar _,ar _,λx d=>(iU d).elim⟩
 ·exact⟨ar _,ar _,λx d=>(iU d).elim⟩
structure yV (B:iF):Prop where
 fr:B.frames.length=B.counts.length
 tm:B.times.length=B.counts.sum
 lv:B.levels.length=B.counts.sum
 sm:B.counts.sum<=20000
 nf:B.frames.length<=20000
 fl:∀f∈B.frames,f.length<=1000000
 tl:∀t∈B.times,t<18446744073709551616
 te:B.terms.length<=100000000
 li:B.lists.length<=100000000
 ll:∀x∈B.lists,x.length<=100000000
def P7(d:Nat)(b:Z0):(Fk.iz d b).counts=(cV (bC b)).1/\(Fk.iz d b).frames=iC (cV (bC b)).2.1 (gP b)/\(Fk.iz d b).times=(fi (dm (bC b)).1 (bE (kB b))).1/\(Fk.iz d b).levels=(fi (dm (bC b)).1 (bE (kB b))).2.1 /\
  (Fk.iz d b).terms=(iY d (dm (bC b)).1 (bE (jm b))).1/\(Fk.iz d b).lists=(iY d (dm (bC b)).1 (bE (jm b))).2.1:=by
 refine⟨?_,?_,?_,?_,?_,?_⟩ <;> simp only[Fk.iz]
def Ut(n:Nat)(c:Z0)(h:mM n c=0):(fi n (bE c)).2.2.2=0:=by
 rw[Ig]at h;split at h
 ·split at h;·assumption
  ·rename_i d;exact absurd h d
 ·rename_i e;exact absurd h e
def P6(m:Nat)(b:Z0)(h:pQ m b=0):nC (bC b) (gP b).length=0/\mM (dm (bC b)).1 (kB b)=0:=by
 rw[Fg]at h;split at h
 ·split at h
  ·rename_i d;split at h;·rename_i e;exact⟨d,e⟩
   ·rename_i e;exact absurd h e
  ·rename_i d;exact absurd h d
 ·rename_i o;exact absurd h o
def P8(o:dV)(b:Z0)(L:b.length<=1000000)(h:jO o b=0):yV (Fk.iz o.bu.toNat b):=by
 have F:jN o=true:=by
  cases M:jN o;·unfold jO at h;rw[M]at h;cases h
  ·rfl
 unfold jO at h;rw[af F]at h;obtain⟨_,_,k1,k2⟩:=(xJ o).1 F;have O:1<=o.bu.toNat:=ω
 have Q:o.bu.toNat<=64:=ω
 generalize o.bu.toNat=e at *;have R:=(IP b).1;have G:=B1 (bC b);obtain⟨U,V⟩:=P6 e b h;have m:=(Ho (bC b) _ U).1;have z:=Us _ _ (Ut _ _ V);have A:=OJ e (dm (bC b)).1 (bE (jm b)) O Q G.1;have X:=TI (bC b);have Y:=Uf (cV (bC b)).2.1 (gP b);have I:=Hv (cV (bC b)).2.1 (gP b);obtain⟨d,D,J,Z,e5,K⟩:=P7 e b;obtain⟨g1,_,_,g4,_⟩:=G;refine⟨?_,?_,?_,?_,?_,?_,?_,?_,?_,?_⟩;·rw[d,D,I];exact X.symm
 ·rw[J,d,m];exact z.1
 ·rw[Z,d,m];exact z.2.1
 ·rw[d,m];exact g1
 ·rw[D,I];exact g4
 ·rw[D];intro f hf;exact ay (Y f hf) (ay R L)
 ·rw[J];exact z.2.2
 ·rw[e5];exact A.1
 ·rw[K];exact A.2.1
 ·rw[K];exact A.2.2
def aq.tl(r:aq)(t:Nat)(c:UInt8):aq:=⟨UInt64.ofNat t,c,r.source,r.text⟩
def rA(B:iF)(k:Nat)(l:List aq):List aq:=l.mapIdx λi r=>r.tl (B.times.getD (k+i) 0) (B.levels.getD (k+i) 0)
def ft(B:iF)(k:Nat):Z0:=B.frames.getD k []
def jl(B:iF)(k:Nat):List aq × Nat:=
 if (df (ft B k)).2.2 = 0 then
  (if (df (ft B k)).2.1 < (ft B k).length then ([], 2)
   else if (iN false (df (ft B k)).1).2 = 0 then
     (if (iN false (df (ft B k)).1).1.length = B.counts.getD k 0 then (rA B (B.counts.take k).sum (iN false (df (ft B k)).1).1, 0) else ([], 2))
   else ([], (iN false (df (ft B k)).1).2))
 else([],(df (ft B k)).2.2)
def lP(B:iF):Nat->Nat->List aq->List aq × Nat
 | 0,_,d=>(d,0)
 | n+1,k,d=>if(jl B k).2=0 then lP B n (k+1) (d++(jl B k).1)else([],(jl B k).2)
def lQ(B:iF):List aq × Nat:=lP B B.frames.length 0 []
def qV(B:iF)(l:List aq):Bool:=decide (B.terms=dy (l.map aq.ts)) && decide (B.lists=fH (l.map aq.ts))
def mG(B:iF):List aq × Nat:=
 if(lQ B).2=0 then(if mE (lQ B).1=true then(if qV B (lQ B).1=true then((lQ B).1,0)else([],15))else([],6))else([],(lQ B).2)
def wV(B:iF)(k:Nat)(l:List aq):(rA B k l).length=l.length:=List.length_mapIdx
def S3(B:iF)(k:Nat):(jl B k).1.length<=32768:=by
 have d:=ID (ft B k);have e:=EE false (df (ft B k)).1;unfold jl;split
 ·split;·exact ar _
  ·split
   ·split;·rw[wV];omega
    ·exact ar _
   ·exact ar _
 ·exact ar _
def Di(B:iF)(k:Nat)(l:List aq)(i:Nat)(h:i<l.length):(rA B k l)[i]'(by rw[wV];exact h)=l[i].tl (B.times.getD (k+i) 0) (B.levels.getD (k+i) 0):=by
 unfold rA;rw[List.getElem_mapIdx]
def Qk{α:Type}(R l:List α)(i:Nat)(o:R.length=l.length)(d:i<l.length):(R.take i++l.drop i).set i (R[i]'ω)=R.take (i+1)++l.drop (i+1):=by
 have e:R.take (i+1)=R.take i++[R[i]'ω]:=f8 ω;have h:=gE d;have m:i-(R.take i).length=0:=by rw[aA];omega
 rw[e,h,Cv _ _ (by rw[aA];omega),m,List.set_cons_zero,bG,pB]
def F5{α:Type}(R l:List α)(i:Nat)(d:R.length=l.length)(e:i<=l.length):(R.take i++l.drop i).length=l.length:=by
 rw[am,aA,aN];omega
def Ql{α:Type}(R l:List α)(i:Nat)(d:R.length=l.length)(e:i<l.length):(R.take i++l.drop i)[i]'(by rw[F5 R l i d ω];exact e)=l[i]:=by
 rw[jZ (by rw[aA];omega)];simp only[s9,aA];congr 1;omega
def Tt(l:List aq)(i:Nat)(h:i<l.length)(t:Nat)(d:t<18446744073709551616)(c:UInt8):eR.cells (l.set i (l[i].tl t c))=((eR.cells l).set (i*4) (.int .u64 (t:Int))).set (i*4+1) (Fk.u8 c):=by
 induction l generalizing i with
 | nil=>cases h
 | cons y l m=>
  have e:∀(y:aq) l,eR.cells (y::l)=.int .u64 y.time.toNat::Fk.u8 y.level::S y.source::S y.text::eR.cells l:=λy l=>by simp[aw.cells,eR,aq.cells]
  cases i with
  | zero=>have:(UInt64.ofNat t).toNat=t:=(by rw[UInt64.toNat_ofNat',nI d]);show Value.int .u64 ((UInt64.ofNat t).toNat:Int)::Fk.u8 c::S y.source::S y.text::_=_;rw[this];rfl
  | succ i=>rw[List.set_cons_succ,e,e,C0,m i (by simpa using h),show(i+1)*4=i*4+1+1+1+1 by omega];rfl
def Pq{w:World}{base g n d:Nat}{l:List aq}(h:Ow w base eR (.slice (some ⟨g,0,none⟩) n d) l)(i:Nat)(e:i<l.length)(t:Nat)(m:t<18446744073709551616)(c:UInt8):Ow ((w.setCell ⟨g,i*4,none⟩ (.int .u64 (t:Int))).setCell ⟨g,i*4+1,none⟩ (Fk.u8 c)) base eR (.slice (some ⟨g,0,none⟩) n d) (l.set i (l[i].tl t c)):=by
 obtain⟨o,z,A,D,F,G,I,J⟩:=h.parts;have K:(eR).k=4:=rfl;have L:=Tt l i e t m c;refine⟨eR.length_cells _,.inr ⟨g,d,(A.setIfInBounds (i*4) (.int .u64 (t:Int))).setIfInBounds (i*4+1) (Fk.u8 c),by rw[o,mW],z,aJ (aJ D _ _) _ _,by rw[mW];exact F,G,by simpa using I,?_⟩⟩;rw[L,<- J,mW,K,zt,zt,List.take_set,List.take_set]
def LI(s:Z0):1<=(ci s).length:=by
 unfold ci;rw[am];have:1<=(ao s.length).length:=by
  rw[ao];split;·exact al _
  ·simp
 omega
def Fm(d:Bool)(r:aq):1<=(gV d r).length:=by
 have:=LI r.text;unfold gV;simp only[am];omega
def Ou(d:Bool)(b q:Z0)(r:aq)(s:Cs)(A:s.er=0)(L:s.at_<=b.length)(m:r.source.length<=4000/\r.text.length<=4000)(h:b.drop s.at_=gV d r++q):iO d b s=vu d r/\(fF d b s).2=⟨s.at_+(gV d r).length,0⟩:=by
 obtain⟨t,c,x,y⟩:=r;simp only at m;have I:=dp List.length h;rw[aN,am]at I
 cases d with
 | false=>have e:gV false ⟨t,c,x,y⟩=ci x++ci y:=rfl;rw[e,bG]at h;have o:kK false b s=(x,⟨s.at_+(ci x).length,0⟩):=Cs.text_back A h m.1 ω;have z:fF false b s=(y,⟨s.at_+(ci x).length+(ci y).length,0⟩):=(by unfold fF;rw[o];exact Cs.text_back (s:=⟨_,0⟩) rfl (gn h) m.2 ω);refine⟨?_,by rw[z,e,am,jq]⟩;unfold iO;rw[o,z];rfl
 | true=>have e:gV true ⟨t,c,x,y⟩=ao t.toNat++([c]++(ci x++ci y)):=(by unfold gV;simp);have J:(gV true ⟨t,c,x,y⟩).length=(ao t.toNat).length+(1+((ci x).length+(ci y).length)):=(by rw[e];simp only[am,aL,gS] <;> omega);rw[e]at h;simp only[bG]at h;have D:uS true b s=(t.toNat,⟨s.at_+(ao t.toNat).length,0⟩):=(by unfold uS;rw[af rfl];exact Cs.num_back A h (pr _));have F:=gn h;have o:tj true b s=(c.toNat,⟨s.at_+(ao t.toNat).length+1,0⟩):=(by unfold tj;rw[af rfl,D];exact Cs.byte_back (s:=⟨_,0⟩) rfl F (by show s.at_+(ao t.toNat).length<=b.length;omega));have G:=gn F;have z:kK true b s=(x,⟨s.at_+(ao t.toNat).length+1+(ci x).length,0⟩):=(by unfold kK;rw[o];exact Cs.text_back (s:=⟨_,0⟩) rfl G m.1 ω);have K:=gn G;have k3:fF true b s=(y,⟨s.at_+(ao t.toNat).length+1+(ci x).length+(ci y).length,0⟩):=(by unfold fF;rw[z];exact Cs.text_back (s:=⟨_,0⟩) rfl K m.2 ω);refine⟨?_,by rw[k3,J,show s.at_+(ao t.toNat).length+1+(ci x).length+(ci y).length=s.at_+((ao t.toNat).length+(1+((ci x).length+(ci y).length))) by omega]⟩;unfold iO;rw[D,o,z,k3];show aq.mk (UInt64.ofNat t.toNat) (UInt8.ofNat c.toNat) x y=_;rw[UInt64.ofNat_toNat,UInt8.ofNat_toNat];rfl
def NY(d:Bool)(b:Z0)(l:List aq):∀(f:Nat) (s:Cs) (m:List aq),l.length<=f->s.er=0->s.at_<=b.length->(∀r∈l,r.source.length<=4000/\r.text.length<=4000)->b.drop s.at_=dL d l->kJ d b f s m=(m++l.map (vu d),0):=by
 induction l with
 | nil=>intro f s m _ o z _ h;have:=dp List.length h;rw[aN]at this;have e:(dL d []).length=0:=rfl;rw[EG d b f s m ω o];simp
 | cons r l G=>intro f s m A o z D h;have e:dL d (r::l)=gV d r++dL d l:=(by simp[dL]);rw[e]at h;have L:=Fm d r;have I:=dp List.length h;rw[aN,am]at I;obtain⟨J,F⟩:=Ou d b _ r s o z (D r σ) h;obtain⟨f,rfl⟩:∃g,f=g+1:=⟨f-1,by simp at A;omega⟩;rw[EF d b f s m ω (by rw[F]),J,F,G f ⟨s.at_+(gV d r).length,0⟩ (m++[vu d r]) (by simpa using A) rfl (by show s.at_+(gV d r).length<=b.length;omega) (λx K=>D x (by simp[K])) (gn h)];simp
def US(d:Bool)(l:List aq):l.length<=(dL d l).length:=by
 induction l with
 | nil=>exact al _
 | cons r l h=>have m:=Fm d r;have e:dL d (r::l)=gV d r++dL d l:=(by simp[dL]);rw[e,am,aL];omega
def NZ(d:Bool)(l:List aq)(e:∀r∈l,r.source.length<=4000/\r.text.length<=4000):iN d (dL d l)=(l.map (vu d),0):=by
 have:=NY d (dL d l) l (dL d l).length ⟨0,0⟩ [] (US d l) rfl (ar _) e rfl;rw[fJ]at this;exact this
def gA.r4{l:List aq}(h:gA l):∀r∈l,r.source.length<=4000/\r.text.length<=4000:=λr d=>by
 have:=h.each r d
 omega
def Nl{l:List aq}{d:List Nat}{k:Nat}{r:aq}(h:r∈ly l d k):r∈l:=s7 (fZ h)
def zP(d:List Nat)(k:Nat)(h:k<d.length):(d.take (k+1)).sum=(d.take k).sum+d.getD k 0:=by
 rw[f8 h,ot,bq,bj h];simp
def Ej(l:List aq)(d:List Nat)(e:d.sum=l.length)(k:Nat)(h:k<d.length):(ly l d k).length=d.getD k 0:=by
 have m:=zP d k h;have o:=pX d (k+1);unfold ly;rw[aA,aN];omega
def Lw(B:iF)(l:List aq)(A:B.times=l.map (λr=>r.time.toNat))(D:B.levels=l.map (·.level))(d:List Nat)(F:d.sum=l.length)(k:Nat)(h:k<d.length):rA B (d.take k).sum ((ly l d k).map (vu false))=ly l d k:=by
 have K:=zP d k h;have L:=pX d (k+1);have M:=Ej l d F k h;apply gT;·rw[wV,cy]
 ·intro i O o;have m:(d.take k).sum+i<l.length:=ω;have G:i<d.getD k 0:=ω;have e:(ly l d k)[i]=l[(d.take k).sum+i]:=(by have z:(ly l d k)[i]?=l[(d.take k).sum+i]?:=(by unfold ly;rw[List.getElem?_take,af G,List.getElem?_drop]);rw[bj o,bj m]at z;exact jU z);rw[Di _ _ _ i (by rw[cy];exact o),fK,e,A,D];have I:(l.map (λr=>r.time.toNat)).getD ((d.take k).sum+i) 0=(l[(d.take k).sum+i]).time.toNat:=(by rw[bq,List.getElem?_map,bj m];rfl);have J:(l.map (·.level)).getD ((d.take k).sum+i) 0=(l[(d.take k).sum+i]).level:=(by rw[bq,List.getElem?_map,bj m];rfl);rw[I,J];generalize l[(d.take k).sum+i]=r;obtain⟨t,c,x,y⟩:=r;show aq.mk (UInt64.ofNat t.toNat) c x y=_;rw[UInt64.ofNat_toNat]
def QC(o m:Nat)(p:Bool)(l:List aq)(J:1<=m)(K:m<=64)(z:gA l):mG (Fk.iz m (bt o m p l))=(l,0):=by
 rw[(I6 o m p l J K z).2];have F:=vA o (bU false) l;generalize cZ o (bU false) l=d at *;obtain⟨B,e⟩:∃B,B=(⟨d,(List.range d.length).map (λi=>(dd p l d i).length),(au (ib l)).length,(au (jM m l.length (dy (l.map aq.ts)) (fH (l.map aq.ts)))).length,eF (dd p l d) d.length,l.map (λr=>r.time.toNat),l.map (·.level),dy (l.map aq.ts),fH (l.map aq.ts)⟩:iF):=⟨_,rfl⟩;rw[<- e];have L:B.counts=d:=by rw[e]
 have G:B.frames=eF (dd p l d) d.length:=by rw[e]
 have M:B.times=l.map (λr=>r.time.toNat):=by rw[e]
 have O:B.levels=l.map (·.level):=by rw[e]
 have Q:B.terms=dy (l.map aq.ts):=by rw[e]
 have R:B.lists=fH (l.map aq.ts):=by rw[e]
 clear e;have U:∀k,k<d.length->jl B k=(ly l d k,0):=by intro k A;have hX:ft B k=mN p (dL false (ly l d k)):=(by unfold ft;rw[G];unfold eF;rw[bq,List.getElem?_map,C2 A];exact S5 p l d k A);have I:=Vm p (dL false (ly l d k)) [] (ay (z.bytes _ (Nk l d k)) ω);rw[dg]at I;unfold jl;rw[hX,I,af rfl,ae (wl _),NZ false _ (λr V=>z.r4 r (Nl V)),af rfl,L,af (by rw[cy,Ej l d F k A]),Lw B l M O d F k A]
 have X:∀n k D,k+n=d.length->lP B n k D=(D++l.drop (d.take k).sum,0):=by
  intro n
  induction n with
  | zero=>intro k D h;rw[lP,show k=d.length by omega,dY,F,nL,dg]
  | succ n Y=>intro k D h;rw[lP,U k ω,af rfl,Y (k+1) _ ω,zP d k ω,bG];unfold ly;rw[<- lk,jC]
 have Z:lQ B=(l,0):=by unfold lQ;rw[X _ 0 [] (by rw[G];simp[eF])];simp
 have hI:qV B l=true:=by unfold qV;rw[Q,R];simp
 unfold mG;rw[Z,af rfl,af z.ok,af hI]
end Go.Proofs.YtndbpldeabnkbaaGreatDoor
namespace Go.Fk
def Y2(e:Nat):Prop:=e<=9\/e=12\/e=13\/e=15
end Go.Fk
namespace Go.Proofs.YtndbpldeabnkbaaGreatDoor
open Go.RowKit Go.Fk
open Go.RowKit Go.Fk
def Md(b:Z0):Z0 × Cs:=(⟨0,0⟩:Cs).take b 5
def Dy(b:Z0):Nat × Cs:=(Md b).2.int b 32768
def wX(b:Z0):Nat × Cs:=(Dy b).2.byte b
def Mc(b:Z0):Cs:=if 1<(wX b).1 then(wX b).2.fail 2 else(wX b).2
def zQ(b:Z0):Nat × Cs:=(Mc b).int b 64
def rB(b:Z0):Z0 × Cs:=(zQ b).2.take b 4
def Dv(b:Z0):dV:=⟨((Dy b).1:Int),decide ((wX b).1=1),((zQ b).1:Int),0,0,0⟩
def Dx(b:Z0):Nat:=if(rB b).2.er=0 then(if cK (b.take (rB b).2.at_)=0 then(if jN (Dv b)then 0 else 9)else cK (b.take (rB b).2.at_))else(rB b).2.er
def Dw(b:Z0):Nat:=if(rB b).2.er=0 then(if cK (b.take (rB b).2.at_)=0 then(rB b).2.at_ else 0)else 0
def Du(b:Z0):Nat:=if(eE b).2=0 then(if(eE b).1=2 then(if Dx b=0 then jO (Dv b) (b.drop (Dw b))else Dx b)else 4)else(eE b).2
def zR(b:Z0):iF:=Fk.iz (zQ b).1 (b.drop (Dw b))
def De(b:Z0):Nat:=if Du b=0 then(mG (zR b)).2 else Du b
def jJ(b:Z0):Nat:=if fd b=0 then(mG (iy b)).2 else fd b
