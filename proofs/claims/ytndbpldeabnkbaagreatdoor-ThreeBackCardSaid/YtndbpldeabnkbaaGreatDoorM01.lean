/- Lemmas for ThreeTurned. -/
import Derived.Test.YtndbpldeabnkbaaGreatDoorM00
set_option linter.all false
set_option maxHeartbeats 8000000
namespace Go.Fk
abbrev cw:=@List.take_of_length_le
abbrev bG:=@List.append_assoc
abbrev cy:=@List.length_map
abbrev dg:=@List.append_nil
abbrev dY:=@List.take_length
abbrev fZ:=@List.mem_of_mem_take
abbrev jZ:=@List.getElem_append_right
abbrev fK:=@List.getElem_map
abbrev fI:=@Nat.min_eq_left
abbrev jX:=@List.length_replicate
abbrev jd:=@List.getElem_range
abbrev eo:=@Nat.mul_one
abbrev jY:=@List.length_range
abbrev dp:=@congrArg
abbrev pD:=@List.getElem?_eq_some_iff
abbrev mU:=@Option.some.injEq
abbrev lG:=@List.mem_filter
abbrev oj:=@Nat.mul_le_mul_left
abbrev qu:=@Nat.div_lt_iff_lt_mul
abbrev rr:=@Nat.add_sub_cancel_left
abbrev qy:=@List.mem_of_getElem?
abbrev sA:=@List.getElem_cons_zero
abbrev pq:=@UInt8.xor_assoc
abbrev qx:=@Nat.div_eq_of_lt
abbrev ur:=@List.filter_cons_of_pos
abbrev ut:=@List.filter_cons_of_neg
abbrev iG:=@Ne.symm
abbrev wG:=@Classical.byContradiction
abbrev ui:=@Nat.le_div_iff_mul_le
abbrev uq:=@List.length_filter_le
abbrev ox:=@List.map_nil
abbrev wB:=@List.getElem?_cons_succ
abbrev rn:=@UInt8.xor_zero
abbrev ro:=@UInt8.xor_self
abbrev wC:=@List.filter_eq_self
abbrev ul:=@Nat.div_add_mod
abbrev uo:=@List.nodup_cons
abbrev lF:=@if_true
abbrev wn:=@Nat.le_of_lt_succ
abbrev wE:=@List.count_append
abbrev um:=@List.take_take
abbrev Cx:=@List.mem_take_iff_getElem
abbrev wj:=@UInt8.zero_xor
abbrev Cr:=@UInt64.le_iff_toNat_le
def lX(c t i:Nat)(d:0<c):i / c=t↔c*t<=i/\i<c*t+c:=by
 constructor;·intro h;subst h;have e:=ul i c;have m:=jB i d;omega
 ·rintro⟨e,m⟩;refine Nat.le_antisymm ?_ ?_;·refine wn ((qu d).2 ?_);rw[dX,Nat.mul_succ];omega
  ·rw[ui d,dX];exact e
structure im (key f0 f:Nat->Nat) (c n lim:Nat):Prop where
 rear:du f0 f 0 n
 loc:∀p,p<n->∃q,q<n/\q / c=p / c/\f p=f0 q
 srt:∀i j,i<j->j<n->j<lim->i / c=j / c->bK key (f i) (f j)
def im.start(key d:Nat->Nat)(c n:Nat):im key d d c n 0:=⟨du.refl _ _ _,λp h=>⟨p,h,rfl,rfl⟩,λi j _ _ h _=>by omega⟩
def im.double{key d f:Nat->Nat}{c n:Nat}(h:im key d f c n n):im key d f (2*c) n 0:=
 ⟨h.rear, fun p e => by
   obtain ⟨q, m, o, z⟩ := h.loc p e
   exact ⟨q, m, by rw[dX 2 c, ← uk, ← uk, o], z⟩, λi j _ _ h _ => by omega⟩
def im.step{key A g m h:Nat->Nat}{c n t b:Nat}(o:0<c)(z:im key A g c n (c*t))(I:∀p,c*t<=p->g p=h p)(d:du g m (c*t) b)(J:bW key m (c*t) b)(K:c*t<=b)(L:b<=n)(aa:b<=c*t+c)(ab:b=c*t+c\/b=n):im key A m c n b/\∀p,b<=p->m p=h p:=by
 refine⟨⟨z.rear.trans (d.widen (ar _) K L),λp D=>?_,λi j F M O G=>?_⟩,λp D=>?_⟩
 ·by_cases e:c*t<=p/\p<b;·obtain⟨q,Q,h2,R⟩:=d.mem p e.1 e.2;obtain⟨r,U,V,X⟩:=z.loc q ω;refine⟨r,U,?_,by rw[R,X]⟩;rw[V,(lX c t q o).2 ⟨Q,ω⟩,(lX c t p o).2 ⟨e.1,ω⟩]
  ·rw[d.1 p ω];exact z.loc p D
 ·by_cases e:j<c*t;·rw[d.1 i ω,d.1 j ω];exact z.srt i j F M e G
  ·have Y:j / c=t:=(lX c t j o).2 ⟨ω,ω⟩;have Z:=(lX c t i o).1 (G.trans Y);exact J i j Z.1 F O
 ·rw[d.1 p ω];exact I p ω
def im.parts{key z f:Nat->Nat}{c n t b:Nat}(d:0<c)(m:im key z f c n n)(I:∀p q,p<q->q<n->z p<z q)(R:2*c*t+c<=b)(U:b<=n)(V:b<=2*c*t+2*c):pe f (2*c*t) (2*c*t+c) b/\bW key f (2*c*t) (2*c*t+c)/\bW key f (2*c*t+c) b:=by
 have J:2*c*t=c*(2*t):=by simp[dX,rp]
 have X:2*c*t+c=c*(2*t+1):=by rw[J,Nat.mul_succ]
 refine⟨λp q A o D Y=>?_,λi j A o D=>?_,λi j A o D=>?_⟩;·obtain⟨F,Z,K,L⟩:=m.loc p ω;obtain⟨G,M,O,Q⟩:=m.loc q ω;have e:p / c=2*t:=(lX c (2*t) p d).2 ⟨ω,ω⟩;have h:q / c=2*t+1:=(lX c (2*t+1) q d).2 ⟨ω,ω⟩;have m1:=(lX c (2*t) F d).1 (K.trans e);have m2:=(lX c (2*t+1) G d).1 (O.trans h);rw[L,Q];exact I F G ω M
 ·have e:i / c=2*t:=(lX c (2*t) i d).2 ⟨ω,ω⟩;have h:j / c=2*t:=(lX c (2*t) j d).2 ⟨ω,ω⟩;exact m.srt i j o ω ω (e.trans h.symm)
 ·have e:i / c=2*t+1:=(lX c (2*t+1) i d).2 ⟨ω,ω⟩;have h:j / c=2*t+1:=(lX c (2*t+1) j d).2 ⟨ω,ω⟩;exact m.srt i j o ω ω (e.trans h.symm)
def im.rest{key h f:Nat->Nat}{c n t:Nat}(d:0<c)(m:im key h f c n n)(D:n<=2*c*t+c):bW key f (2*c*t) n:=λi j F o e=>by
 have G:2*c*t=c*(2*t):=by simp[dX,rp]
 have z:i / c=2*t:=(lX c (2*t) i d).2 ⟨ω,ω⟩
 have A:j / c=2*t:=(lX c (2*t) j d).2 ⟨ω,ω⟩
 exact m.srt i j o e e (z.trans A.symm)
def im.whole{key e f:Nat->Nat}{c n:Nat}(h:im key e f c n n)(o:n<=c):bW key f 0 n:=λi j _ m d=>
 h.srt i j m d d (by rw[qx ω,qx ω])
def im.okay{key d f:Nat->Nat}{c n h:Nat}(m:im key d f c n h){e:Nat->Prop}(o:∀p,p<n->e (d p)):∀p,p<n->e (f p):=λp z=>by
 obtain⟨q,A,_,D⟩:=m.loc p z
 rw[D];exact o q A
structure It where
 w:UInt64
 leaf:Bool
 syms:List Nat
instance:Inhabited It:=⟨⟨0,false,[]⟩⟩
def cH:List It->List It
 | a::b::l=>⟨a.w+b.w,false,a.syms++b.syms⟩::cH l
 | _=>[]
def aW:List It->List It->List It
 | [],d=>d
 | l::e,[]=>l::e
 | l::e,k::d=>if l.w<=k.w then l::aW e (k::d)else k::aW (l::e) d
termination_by a b=>a.length+b.length
def rN(a:List It):aW a []=a:=by cases a <;> simp[aW]
def vf(a:List It):aW [] a=a:=by simp[aW]
def AW:∀a b:List It,(aW a b).length=a.length+b.length:=by
 intro a b
 induction a,b using aW.induct with
 | case1 e=>simp[aW]
 | case2 l m=>simp[aW]
 | case3 l m k e h d=>rw[aW,af h,aL,d];simp;omega
 | case4 l m k e h d=>rw[aW,ae h,aL,d];simp;omega
theorem rI:∀l:List It,(cH l).length=l.length / 2
 | []=>rfl
 | [_]=>by simp[cH]
 | a::b::l=>by rw[cH,aL,rI l];simp only[aL];omega
def aM(d:List It):Nat->List It
 | 0=>d
 | r+1=>aW d (cH (aM d r))
def ND(d:List It)(r:Nat):(aM d r).length<=2*d.length:=by
 induction r with
 | zero=>simp[aM];omega
 | succ r e=>rw[aM,AW,rI];omega
def NC(d:List It):∀r,2*d.length<=(aM d r).length+(d.length+2^r-1) / 2^r:=by
 intro r
 induction r with
 | zero=>simp[aM];omega
 | succ r o=>rw[aM,AW,rI];have h:(d.length+2^(r+1)-1) / 2^(r+1)=((d.length+2^r-1) / 2^r+1) / 2:=(by rw[gC,<- uk];have m:=lh r;have e:d.length+2^r*2-1=(d.length+2^r-1)+2^r*1:=ω;rw[e,Nat.add_mul_div_left _ _ m]);rw[h];omega
def Ah(d:List It)(r:Nat)(h:d.length<=2*2^r):2*d.length-2<=(aM d r).length:=by
 have m:=NC d r;have e:=lh r;have o:(d.length+2^r-1) / 2^r<=2:=by refine wn ((qu e).2 ?_);omega
 omega
def aV(l:List It):Nat:=(l.filter (·.leaf)).length
def Bc(l:List It):aV l<=l.length:=uq _ _
def xO(d:List It)(D:∀x∈d,x.leaf=true)(o:List It)(F:∀x∈o,x.leaf=false):∀t, t ≤ (aW d o).length → ∃n m, n + m = t ∧ n ≤ d.length ∧ m ≤ o.length ∧ aV ((aW d o).take t) = n ∧
   ((aW d o).take t).filter (·.leaf)=d.take n/\((aW d o).take t).filter (λx=>!x.leaf)=o.take m:=by
 induction d,o using aW.induct with
 | case1 o=>intro t A;rw[vf]at *;have G:(o.take t).filter (·.leaf)=[]:=List.filter_eq_nil_iff.2 λx z=>(by simp[F x (fZ z)]);have I:(o.take t).filter (λx=>!x.leaf)=o.take t:=wC.2 λx z=>(by simp[F x (fZ z)]);exact⟨0,t,ω,σ,A,by rw[aV,G];rfl,by rw[G];simp,I⟩
 | case2 l d=>intro t A;rw[rN]at *;have G:((l::d).take t).filter (·.leaf)=(l::d).take t:=wC.2 λx z=>D x (fZ z);have I:((l::d).take t).filter (λx=>!x.leaf)=[]:=List.filter_eq_nil_iff.2 λx z=>(by simp[D x (fZ z)]);exact⟨t,0,ω,A,σ,by rw[aV,G,aA];omega,G,by rw[I];simp⟩
 | case3 l d k o h J=>
  intro t A;rw[aW,af h]at *
  cases t with
  | zero=>exact⟨0,0,rfl,σ,σ,by simp[aV],σ,σ⟩
  | succ t=>
   obtain⟨n,m,R,K,L,M,O,Q⟩:=J (λx z=>D x (by simp[z])) F t (by simpa using A);have e:=D l σ;refine⟨n+1,m,ω,by simpa using K,L,?_,?_,?_⟩;·rw[aV,gD,ur (by exact e),aL];exact dp (·+1) M
   ·rw[gD,ur (by exact e),O,gD]
   ·rw[gD,ut (by simp[e]),Q]
 | case4 l d k o h J=>
  intro t A;rw[aW,ae h]at *
  cases t with
  | zero=>exact⟨0,0,rfl,σ,σ,by simp[aV],σ,σ⟩
  | succ t=>
   obtain⟨n,m,R,K,L,M,O,Q⟩:=J D (λx z=>F x (by simp[z])) t (by simpa using A);have e:=F k σ;refine⟨n,m+1,ω,K,by simpa using L,?_,?_,?_⟩;·rw[aV,gD,ut (by simp[e])];exact M
   ·rw[gD,ut (by simp[e]),O]
   ·rw[gD,ur (by simp[e]),Q,gD]
theorem tp:∀(l:List It),∀x∈cH l,x.leaf=false
 | [],x,h=>by simp[cH]at h
 | [_],x,h=>by simp[cH]at h
 | a::b::l,x,h=>by
  rw[cH]at h
  rcases gR.1 h with rfl | h
  ·rfl
  ·exact tp l x h
def dO(l:List It):List Nat:=(l.map (·.syms)).flatten
theorem rC(x:It)(l:List It):dO (x::l)=x.syms++dO l:=rfl
def D8(l m:List It):dO (l++m)=dO l++dO m:=by simp[dO]
theorem Fb:∀(l:List It) (m:Nat),m<=l.length / 2->dO ((cH l).take m)=dO (l.take (2*m))
 | [],m,h=>by simp at h;subst h;rfl
 | [_],m,h=>by simp at h;subst h;rfl
 | a::b::l,0,h=>by simp
 | a::b::l,m+1,h=>by
  rw[cH,gD,rC,Fb l m (by simp at h;omega),show 2*(m+1)=2*m+2 by omega,gD,gD,rC,rC,bG]
def Uj(s:Nat)(l:List It):(dO l).count s=(dO (l.filter (·.leaf))).count s+(dO (l.filter (λx=>!x.leaf))).count s:=by
 induction l with
 | nil=>rfl
 | cons x l d=>
  rw[rC,wE,d];by_cases h:x.leaf=true;·rw[ur (p:=λx:It=>x.leaf) h,ut (by simp[h]),rC,wE];omega
  ·rw[ut (p:=λx:It=>x.leaf) h,ur (by simp[h]),rC,wE];omega
def nB(d:List It):Nat->Nat->Nat->Nat
 | 0,t,s=>(dO (d.take (aV ((aM d 0).take t)))).count s
 | r+1,t,s=>(dO (d.take (aV ((aM d (r+1)).take t)))).count s+nB d r (2*(t-aV ((aM d (r+1)).take t))) s
def yi(d:List It)(h:∀x∈d,x.leaf=true)(s:Nat):∀r t,t<=(aM d r).length->(dO ((aM d r).take t)).count s=nB d r t s:=by
 intro r
 induction r with
 | zero=>intro t e;have z:(d.take t).filter (·.leaf)=d.take t:=wC.2 λx A=>h x (fZ A);have D:t<=d.length:=e;show(dO (d.take t)).count s=(dO (d.take (aV (d.take t)))).count s;rw[aV,z,aA,fI D]
 | succ r F=>intro t e;obtain⟨n,m,K,L,o,G,I,J⟩:=xO d h (cH (aM d r)) (tp _) t e;rw[rI]at o;show _=(dO (d.take (aV ((aW d (cH (aM d r))).take t)))).count s+nB d r (2*(t-aV ((aW d (cH (aM d r))).take t))) s;rw[G,Uj];show(dO (((aW d (cH (aM d r))).take t).filter (·.leaf))).count s+(dO (((aW d (cH (aM d r))).take t).filter (λx=>!x.leaf))).count s=_;rw[I,J,Fb _ _ o,show t-n=m by omega,F _ ω]
def Ty(d:List It)(e:∀x∈d,x.leaf=true)(r t:Nat)(h:t<=(aM d (r+1)).length):aV ((aM d (r+1)).take t)<=t/\aV ((aM d (r+1)).take t)<=d.length/\2*(t-aV ((aM d (r+1)).take t))<=(aM d r).length:=by
 obtain⟨n,m,A,D,o,z,F,G⟩:=xO d e (cH (aM d r)) (tp _) t h;rw[rI]at o;show aV ((aW d (cH (aM d r))).take t)<=t/\aV ((aW d (cH (aM d r))).take t)<=d.length/\2*(t-aV ((aW d (cH (aM d r))).take t))<=_;rw[z];omega
def dR(d:List It):Nat->Nat->Nat->Nat
 | 0,_,_=>0
 | q+1,t,s=>(dO (d.take (aV ((aM d q).take t)))).count s+dR d q (2*(t-aV ((aM d q).take t))) s
def Ua(d:List It)(s:Nat):∀r t,dR d (r+1) t s=nB d r t s:=by
 intro r
 induction r with
 | zero=>intro t;rw[dR,dR,nB];rfl
 | succ r e=>intro t;rw[dR,e,nB]
def Ub(d:List It)(e:∀x∈d,x.leaf=true)(r t s:Nat)(h:t<=(aM d r).length):dR d (r+1) t s=(dO ((aM d r).take t)).count s:=by
 rw[Ua,<- yi d e s r t h]
def Rg(l:List It)(k:Nat)(h:k<l.length):aV (l.take (k+1))=aV (l.take k)+if l[k].leaf then 1 else 0:=by
 unfold aV;rw[f8 h,sF,am];by_cases c:l[k].leaf=true;·rw[ur (p:=λx:It=>x.leaf) c,af c];rfl
 ·rw[ut (p:=λx:It=>x.leaf) c,ae c];rfl
def Ml(l:List It)(k:Nat)(h:k<l.length)(s:Nat)(d:l[k].syms=[s]):dO (l.take (k+1))=dO (l.take k)++[s]:=by
 rw[f8 h,D8];show _++(l[k].syms++[])=_;rw[d];rfl
def Ge(d:List It)(m:∀x∈d,x.leaf=true)(q t:Nat)(h:t<=(aM d q).length):aV ((aM d q).take t)<=t/\aV ((aM d q).take t)<=d.length/\(0<q->2*(t-aV ((aM d q).take t))<=(aM d (q-1)).length):=by
 cases q with
 | zero=>
  have e:=Bc (d.take t);rw[aA]at e;refine⟨?_,?_,λh=>by omega⟩;·show aV (d.take t)<=t;omega
  ·show aV (d.take t)<=d.length;omega
 | succ r=>obtain⟨e,o,z⟩:=Ty d m r t h;exact⟨e,o,λ_=>z⟩
def Rh(l:List It)(j t:Nat)(h:j<=t):aV (l.take j)<=aV (l.take t):=by
 unfold aV;have:l.take j=(l.take t).take j:=by rw[um,fI h]
 rw[this];exact List.Sublist.length_le ((List.take_sublist _ _).filter _)
def oM(l:Z0)(n:Nat):Z0:=l++(List.replicate n 0).drop l.length
def AC(l:Z0)(n:Nat)(h:l.length<=n):(oM l n).length=n:=by simp[oM];omega
def Pi(l:Z0)(n i:Nat):(oM l n).getD i 0=l.getD i 0:=by
 unfold oM;rw[bq,bq];by_cases h:i<l.length;·rw[q6 h]
 ·rw[sE ω,iW (l:=l) ω,List.getElem?_drop,List.getElem?_replicate];split <;> rfl
def Pc(l:Z0)(n A d j c:Nat)(m:l.length<=n)(z:A+d<=n)(D:j+c<=d):((((oM l n).drop A).take d).drop j).take c=kw l (A+j) c:=by
 have h:=AC l n m;apply gT;·rw[yl,aA,aN,aA,aN,h];omega
 ·intro i F o;rw[yl]at o;have e:=Pi l n (A+j+i);rw[cg _ _ _ (by rw[h];omega)]at e;simp only[kw,qz,s9,fK,jd];rw[<- e];congr 1;omega
def dQ(d:List It)(r t:Nat):Nat:=aV ((aM d r).take t)
def vp(d:List It)(r t:Nat):dQ d r t<=t:=by
 unfold dQ;have e:=Bc ((aM d r).take t);rw[aA]at e;omega
def dI(d:List It)(i:Nat):Nat->Nat->Nat
 | 0,t=>if i<dQ d 0 t then 1 else 0
 | r+1,t=>(if i<dQ d (r+1) t then 1 else 0)+dI d i r (2*(t-dQ d (r+1) t))
def wI(d:List It)(i:Nat):Nat->Nat->Nat
 | 0,t=>if i<dQ d 0 t then 1 else 0
 | r+1,t=>(if i<dQ d (r+1) t then 2^(r+1)else 0)+wI d i r (2*(t-dQ d (r+1) t))
def sI(d:List It):Nat->Nat->Nat
 | 0,t=>dQ d 0 t
 | r+1,t=>dQ d (r+1) t*2^(r+1)+sI d r (2*(t-dQ d (r+1) t))
def yQ(d:List It)(R:Nat):Prop:=∀r t,r<R->t<=(aM d (r+1)).length->dQ d r (2*(t-dQ d (r+1) t))<=dQ d (r+1) t
def uQ(d:List It)(h:∀x∈d,x.leaf=true)(r t:Nat)(e:t<=(aM d (r+1)).length):2*(t-dQ d (r+1) t)<=(aM d r).length/\dQ d (r+1) t<=d.length:=by
 rw[aM]at e;obtain⟨n,m,D,F,o,z,_⟩:=xO d h (cH (aM d r)) (tp _) t e;rw[rI]at o;have A:dQ d (r+1) t=n:=z;rw[A];omega
def Nw(d:List It)(m:∀x∈d,x.leaf=true):∀r t,t<=(aM d r).length->sI d r t=t*2^r:=by
 intro r
 induction r with
 | zero=>intro t h;show aV (d.take t)=_;unfold aV;rw[wC.2 λx o=>m x (fZ o),aA];have:t<=d.length:=h;simp;omega
 | succ r z=>intro t h;have A:=uQ d m r t h;have D:=vp d (r+1) t;rw[sI,z _ A.1];have e:2*(t-dQ d (r+1) t)*2^r=(t-dQ d (r+1) t)*2^(r+1):=(by rw[gC,dX 2,pA,dX 2]);rw[e,<- be];congr 1;omega
def Uc(d:List It)(o:∀x∈d,x.leaf=true){R:Nat}(z:yQ d R)(i:Nat):∀r t,r<=R->t<=(aM d r).length->dQ d r t<=i->dI d i r t=0/\wI d i r t=0:=by
 intro r
 induction r with
 | zero=>intro t _ _ h;unfold dI wI;rw[ae ω];exact⟨rfl,rfl⟩
 | succ r A=>intro t F e h;have D:=uQ d o r t e;have G:=z r t ω e;have m:=A _ ω D.1 ω;rw[dI,wI,m.1,m.2,ae ω,ae ω];exact⟨rfl,rfl⟩
def KF(e:List It)(m:∀x∈e,x.leaf=true){R:Nat}(o:yQ e R)(i:Nat):∀r t,r<=R->t<=(aM e r).length->dI e i r t<=r+1/\wI e i r t+2^(r+1-dI e i r t)=2^(r+1):=by
 intro r
 induction r with
 | zero=>intro t _ _;unfold dI wI;split <;> simp
 | succ r F=>
  intro t G z;have A:=uQ e m r t z;have I:=F _ ω A.1;have J:=o r t ω z;by_cases h:i<dQ e (r+1) t;·rw[dI,wI,af h,af h];generalize wI e i r (2*(t-dQ e (r+1) t))=x,dI e i r (2*(t-dQ e (r+1) t))=d at *;refine⟨ω,?_⟩;rw[show r+1+1-(1+d)=r+1-d by omega,gC 2 (r+1)];omega
  ·have D:=Uc e m o i r _ ω A.1 ω;rw[dI,wI,ae h,ae h,D.1,D.2];simp
def DH(N n c:Nat)(h:n<=N):((List.range N).map λi=>if i<n then c else 0).sum=n*c:=by
 induction N with
 | zero=>have:n=0:=ω;subst this;simp
 | succ N d=>
  rw[jr,eD,ot];simp only[dD,ox,gQ,List.sum_nil,dq];by_cases m:n<=N;·rw[d m,ae ω,dq]
  ·have e:n=N+1:=ω;subst e;rw[af ω];have o:((List.range N).map λi=>if i<N+1 then c else 0)=(List.range N).map λ_=>c:=(by apply iV;intro i z;have:=dN.1 z;rw[af ω]);rw[o,List.map_const',List.sum_replicate_nat,jY,be,dC]
def DD{f g:Nat->Nat}(l:List Nat):(l.map λi=>f i+g i).sum=(l.map f).sum+(l.map g).sum:=by
 induction l with
 | nil=>rfl
 | cons x l d=>simp only[dD,gQ,d];omega
def K9(d:List It)(z:∀x∈d,x.leaf=true):∀r t,t<=(aM d r).length->((List.range d.length).map λi=>wI d i r t).sum=sI d r t:=by
 intro r
 induction r with
 | zero=>intro t e;have h:=vp d 0 t;have m:t<=d.length:=e;have:=DH d.length (dQ d 0 t) 1 ω;rw[eo]at this;exact this
 | succ r A=>intro t e;have h:=uQ d z r t e;have m:=DH d.length (dQ d (r+1) t) (2^(r+1)) h.2;have o:=DD (f:=λi=>if i<dQ d (r+1) t then 2^(r+1)else 0) (g:=λi=>wI d i r (2*(t-dQ d (r+1) t))) (List.range d.length);rw[m,A _ h.1]at o;exact o
def Ru(d:List It)(m:∀x∈d,x.leaf=true)(r:Nat)(A:yQ d r)(D:1<=d.length)(o:2*d.length-2<=(aM d r).length):((List.range d.length).map λi=>2^(r+1-dI d i r (2*d.length-2))).sum=2^(r+1):=by
 have z:=K9 d m r _ o;rw[Nw d m r _ o]at z;have h:=DD (f:=λi=>wI d i r (2*d.length-2)) (g:=λi=>2^(r+1-dI d i r (2*d.length-2))) (List.range d.length);have e:(λi=>wI d i r (2*d.length-2)+2^(r+1-dI d i r (2*d.length-2)))=λ_=>2^(r+1):=by funext i;exact(KF d m A i r _ (al _) o).2
 rw[e,z,List.map_const',List.sum_replicate_nat,jY]at h;obtain⟨n,hN⟩:∃n,d.length=n+1:=⟨d.length-1,ω⟩;rw[hN]at h ⊢;rw[show 2*(n+1)-2=2*n by omega]at h ⊢;rw[show 2*n*2^r=n*2^(r+1) by rw[gC,dX 2,pA,dX 2],be,dC]at h;omega
def nE(l:List It):Prop:=l.Pairwise λx y=>x.w.toNat<=y.w.toNat
def Qo(d m:List It)(J:nE d)(G:∀x∈d,x.leaf=true)(K:∀x∈m,x.leaf=false):∀t,t<=(aW d m).length->∀(z:aV ((aW d m).take t)<d.length) (A:aV ((aW d m).take t)<t),∃k,m[t-aV ((aW d m).take t)-1]?=some k/\k.w.toNat<(d[aV ((aW d m).take t)]).w.toNat:=by
 induction d,m using aW.induct with
 | case1 m=>intro t _ h;simp at h
 | case2 l d=>intro t D z A;exfalso;rw[rN]at A D;unfold aV at A;rw[wC.2 λx F=>G x (fZ F),aA]at A;omega
 | case3 l d k m h L=>
  intro t D z A
  cases t with
  | zero=>omega
  | succ t=>
   have e:aV ((aW (l::d) (k::m)).take (t+1))=aV ((aW d (k::m)).take t)+1:=(by rw[aW,af h,gD];unfold aV;rw[mX,af (G l σ),aL]);have M:t<=(aW d (k::m)).length:=(by rw[aW,af h,aL]at D;omega);have I:aV ((aW d (k::m)).take t)<d.length:=(by rw[e,aL]at z;omega);have O:aV ((aW d (k::m)).take t)<t:=ω;obtain⟨q,Q,R⟩:=L (kG.1 J).2 (λx F=>G x (by simp[F])) K t M I O;refine⟨q,?_,?_⟩;·rw[e,show t+1-(aV ((aW d (k::m)).take t)+1)-1=t-aV ((aW d (k::m)).take t)-1 by omega];exact Q
   ·simp only[e,C0];exact R
 | case4 l d k m h L=>
  intro t D z A
  cases t with
  | zero=>omega
  | succ t=>
   have e:aV ((aW (l::d) (k::m)).take (t+1))=aV ((aW (l::d) m).take t):=(by rw[aW,ae h,gD];unfold aV;rw[mX,ae (by rw[K k σ];simp)]);have M:t<=(aW (l::d) m).length:=(by rw[aW,ae h,aL]at D;omega);have U:k.w.toNat<l.w.toNat:=by
    rcases mV k.w.toNat l.w.toNat with o | o;·exact o
    ·exact absurd (Cr.2 o) h
   have I:aV ((aW (l::d) m).take t)<(l::d).length:=(by rw[e]at z;exact z);have V:l.w.toNat<=((l::d)[aV ((aW (l::d) m).take t)]).w.toNat:=by
    rcases kE (aV ((aW (l::d) m).take t))with o | o;·simp only[o,sA];exact al _
    ·exact rt.1 J 0 _ σ I o
   by_cases O:aV ((aW (l::d) m).take t)<t
   ·obtain⟨q,Q,R⟩:=L J G (λx F=>K x (by simp[F])) t M I O;refine⟨q,?_,?_⟩;·rw[e,show t+1-aV ((aW (l::d) m).take t)-1=(t-aV ((aW (l::d) m).take t)-1)+1 by omega,wB];exact Q
    ·simp only[e];exact R
   ·refine⟨k,?_,?_⟩;·have o:=Bc ((aW (l::d) m).take t);rw[aA]at o;rw[e,show t+1-aV ((aW (l::d) m).take t)-1=0 by omega];rfl
    ·simp only[e];omega
def AV(d e:List It):∀x,x∈aW d e↔x∈d\/x∈e:=by
 induction d,e using aW.induct with
 | case1 e=>intro x;rw[vf];simp
 | case2 l d=>intro x;rw[rN];simp
 | case3 l d k e h m=>intro x;rw[aW,af h,gR,m x,gR (b:=l)];exact or_assoc.symm
 | case4 l d k e h m=>
  intro x;rw[aW,ae h,gR,m x,gR (b:=k)];constructor
  ·rintro(h | h | h);·exact .inr (.inl h)
   ·exact .inl h
   ·exact .inr (.inr h)
  ·rintro(h | h | h);·exact .inr (.inl h)
   ·exact .inl h
   ·exact .inr (.inr h)
def Qm(e m:List It):nE e->nE m->nE (aW e m):=by
 induction e,m using aW.induct with
 | case1 m=>intro _ h;rw[vf];exact h
 | case2 l e=>intro h _;rw[rN];exact h
 | case3 l e k m h D=>
  intro z A;have o:=Cr.1 h;obtain⟨F,K⟩:=kG.1 z;obtain⟨G,_⟩:=kG.1 A;rw[aW,af h];refine kG.2 ⟨λx I=>?_,D K A⟩;rcases(AV _ _ x).1 I with d | d;·exact F x d
  ·rcases gR.1 d with rfl | d;·exact o
   ·exact ay o (G x d)
 | case4 l e k m h D=>
  intro z A;have o:k.w.toNat<=l.w.toNat:=by
   rcases mV l.w.toNat k.w.toNat with J | J;·exact absurd (Cr.2 ω) h
   ·exact J
  obtain⟨F,_⟩:=kG.1 z;obtain⟨G,L⟩:=kG.1 A;rw[aW,ae h];refine kG.2 ⟨λx I=>?_,D z L⟩;rcases(AV _ _ x).1 I with d | d
  ·rcases gR.1 d with rfl | d;·exact o
   ·exact ay o (F x d)
  ·exact G x d
theorem uW:∀(l:List It) (j:Nat) (k:It),(cH l)[j]?=some k->∃a b,l[2*j]?=some a/\l[2*j+1]?=some b/\k.w=a.w+b.w
 | [],j,k,h=>by simp[cH]at h
 | [_],j,k,h=>by simp[cH]at h
 | a::b::l,j,k,h=>by
  rw[cH]at h
  cases j with
  | zero=>
   simp only[List.getElem?_cons_zero,mU]at h
   subst h
   exact⟨a,b,rfl,rfl,rfl⟩
  | succ j=>
   rw[wB]at h
   obtain⟨x,y,d,e,m⟩:=uW l j k h
   refine⟨x,y,?_,?_,m⟩
   ·rw[show 2*(j+1)=2*j+1+1 by omega,wB,wB];exact d
   ·rw[show 2*(j+1)+1=2*j+1+1+1 by omega,wB,wB];exact e
def Cd{a b:UInt64}{B:Nat}(d:a.toNat<=B)(e:b.toNat<=B)(h:2*B<18446744073709551616):(a+b).toNat=a.toNat+b.toNat:=by
 rw[UInt64.toNat_add];exact nI ω
def E5(o:List It)(M:Nat)(h:∀x∈o,x.w.toNat<=M):∀r,∀x∈aM o r,x.w.toNat<=M*2^r:=by
 intro r
 induction r with
 | zero=>intro x d;have:=h x d;simpa using this
 | succ r z=>
  intro x d;have F:2^r≥1:=lh r;have e:M*2^(r+1)=M*2^r+M*2^r:=(by rw[gC,<- pA];omega);rw[aM]at d;rcases(AV _ _ x).1 d with m | m;·have A:=h x m;have D:M*1<=M*2^r:=oj _ F;omega
  ·obtain⟨j,G⟩:=List.mem_iff_getElem?.1 m;obtain⟨a,b,A,D,I⟩:=uW _ _ _ G;have J:=z a (qy A);have K:=z b (qy D);rw[I,UInt64.toNat_add,e];exact ay (Nat.mod_le _ _) ω
def zZ{l:List It}(h:nE l){i j:Nat}{a b:It}(o:i<=j)(z:l[i]?=some a)(A:l[j]?=some b):a.w.toNat<=b.w.toNat:=by
 obtain⟨D,e⟩:=pD.1 z;obtain⟨F,m⟩:=pD.1 A;rcases Nat.eq_or_lt_of_le o with d | d;·subst d;rw[<- e,<- m];exact al _
 ·have:=rt.1 h i j D F d;rw[e,m]at this;exact this
def Ph(l:List It)(B:Nat)(h:nE l)(e:∀x∈l,x.w.toNat<=B)(m:2*B<18446744073709551616):nE (cH l):=by
 refine rt.2 λi j F G Q=>?_;obtain⟨a,b,o,z,I⟩:=uW l i _ (bj F);obtain⟨c,d,A,D,J⟩:=uW l j _ (bj G);have K:=e a (qy o);have L:=e b (qy z);have M:=e c (qy A);have O:=e d (qy D);have R:=zZ h (show 2*i<=2*j by omega) o A;have U:=zZ h (show 2*i+1<=2*j+1 by omega) z D;rw[I,J,Cd K L m,Cd M O m];omega
def N6(d:List It)(M:Nat)(m:nE d)(h:∀x∈d,x.w.toNat<=M):∀r,M*2^r<18446744073709551616->nE (aM d r):=by
 intro r
 induction r with
 | zero=>intro _;exact m
 | succ r o=>intro z;have e:M*2^(r+1)=2*(M*2^r):=(by rw[gC,<- pA];omega);rw[aM];exact Qm _ _ m (Ph _ _ (o ω) (E5 d M h r) ω)
def Re(d:List It)(A:∀x∈d,x.leaf=true)(r t:Nat)(e:t<=(aM d r).length)(i:Nat)(h:i<dQ d r t):∃x,d[i]?=some x/\x∈(aM d r).take t:=by
 cases r with
 | zero=>have D:=vp d 0 t;have F:t<=d.length:=e;have o:i<d.length:=ω;refine⟨d[i],bj o,?_⟩;show d[i]∈d.take t;exact Cx.2 ⟨i,ω,rfl⟩
 | succ r=>unfold dQ at h;rw[aM]at e h ⊢;obtain⟨n,m,D,F,o,G,I,_⟩:=xO d A (cH (aM d r)) (tp _) t e;rw[G]at h;have J:i<d.length:=ω;refine⟨d[i],bj J,?_⟩;have z:d[i]∈d.take n:=Cx.2 ⟨i,ω,rfl⟩;rw[<- I]at z;exact(lG.1 z).1
def Qi(d:List It)(M R:Nat)(m:∀x∈d,x.leaf=true)(z:nE d)(h:∀x∈d,x.w.toNat<=M)(hB:M*2^R<18446744073709551616):yQ d R:=by
 intro r t G o;have I:2^(r+1)<=2^R:=fp ω G;have ap:M*2^(r+1)<=M*2^R:=oj _ I;have e:M*2^(r+1)=2*(M*2^r):=by rw[gC,<- pA];omega
 have J:=uQ d m r t o;have av:=vp d (r+1) t;rcases mV (dQ d (r+1) t) (dQ d r (2*(t-dQ d (r+1) t)))with K | L;·exfalso;have h1:=vp d r (2*(t-dQ d (r+1) t));obtain⟨x,O,Q⟩:=Re d m r _ J.1 _ K;obtain⟨U,V⟩:=pD.1 O;have X:dQ d (r+1) t<t:=ω;have Y:aV ((aW d (cH (aM d r))).take t)=dQ d (r+1) t:=rfl;obtain⟨k,A,Z⟩:=Qo d (cH (aM d r)) z m (tp _) t (by rw[aM]at o;exact o) U X;rw[Y]at A;have k3:k.w.toNat<x.w.toNat:=(by rw[<- V];exact Z);obtain⟨a,b,q1,D,q3⟩:=uW _ _ _ A;have F:=E5 d M h r;have ac:=Cd (F a (qy q1)) (F b (qy D)) ω;obtain⟨i,hi,aj⟩:=Cx.1 Q;have a2:x.w.toNat<=b.w.toNat:=zZ (N6 d M z h r ω) (i:=i) (j:=2*(t-dQ d (r+1) t-1)+1) ω (by rw[bj ω,aj]) D;rw[q3,ac]at k3;omega
 ·exact L
def GQ(d:Z0)(l:Nat)(e:1<=l)(h:l<=14):bM d (l+1)*2^(15-(l+1))=(bM d l+aE d l)*2^(15-l):=by
 rw[ye d l e,show 15-l=(15-(l+1))+1 by omega,gC,dX 2 (bM d l+aE d l),pA,dX 2]
def SF(e:Z0)(l:Nat)(m:1<=l):∀d,l+1+d<=15->(bM e l+aE e l)*2^(15-l)<=bM e (l+1+d)*2^(15-(l+1+d)):=by
 intro d
 induction d with
 | zero=>intro h;rw[dq,GQ e l m ω];exact al _
 | succ d o=>intro h;refine ay (o ω) ?_;rw[show l+1+(d+1)=(l+1+d)+1 by omega,GQ e (l+1+d) ω ω];exact bQ _ ω
def Fh(d:Z0)(x l m:Nat)(h:1<=l)(D:l<m)(F:m<=15)(o:x / 2^(15-l)<bM d l+aE d l)(z:bM d m<=x / 2^(15-m)):False:=by
 have e:m=l+1+(m-(l+1)):=ω
 have A:=SF d l h (m-(l+1)) ω;rw[<- e]at A;have G:=(qu (lh _)).1 o;have I:=(ui (lh _)).1 z;omega
def rU(d:Z0)(x e s:Nat):Bool:=
 decide (0<bg d s) && decide (bg d s<=e) && decide (x / 2^(15-bg d s)=bV d (bg d s) s)
def nZ(d:Z0)(x e:Nat):Option Nat:=(List.range d.length).find? (rU d x e)
def rT(d:Z0)(x e s:Nat):rU d x e s=true↔0<bg d s/\bg d s<=e/\x / 2^(15-bg d s)=bV d (bg d s) s:=by
 unfold rU;simp only[fL,en];exact⟨λh=>⟨h.1.1,h.1.2,h.2⟩,λh=>⟨⟨h.1,h.2.1⟩,h.2.2⟩⟩
def xk(d:Z0)(l:Nat):∀n,n<=d.length->∀k,k<aE (d.take n) l->∃s,s<n/\(sM d n l)[k]?=some s/\bg d s=l/\aE (d.take s) l=k:=by
 intro n
 induction n with
 | zero=>intro _ k h;simp[aE]at h
 | succ n m=>
  intro F k h;have o:=Af d n l ω;rw[qe _ _ _ (show n<d.length by omega)]at h;rw[xj d n l ω];by_cases z:k<aE (d.take n) l;·obtain⟨s,G,e,A,D⟩:=m ω k z;exact⟨s,ω,by rw[q6 ω];exact e,A,D⟩
  ·by_cases e:d[n].toNat=l;·rw[af e]at h;refine⟨n,ω,?_,by rw[nN d n ω];exact e,ω⟩;rw[af e,sE ω,o,show k-aE (d.take n) l=0 by omega];rfl
   ·rw[ae e]at h;omega
def yq(d:Z0)(s l:Nat)(e:s<d.length)(h:bg d s=l):aE (d.take s) l<aE d l:=by
 have m:=yr d (s+1) l;rw[qe _ _ _ e,af (by rw[<- nN d s e];exact h)]at m;omega
def Ik(d:Z0)(l s t:Nat)(o:s<d.length)(z:t<d.length)(A:bg d s=l)(D:bg d t=l)(h:aE (d.take s) l=aE (d.take t) l):s=t:=by
 have key:∀a b,a<b->b<d.length->bg d a=l->aE (d.take a) l<aE (d.take b) l:=by intro a b G I F;have e:(d.take b).take (a+1)=d.take (a+1):=(by rw[um,fI ω]);have m:=yr (d.take b) (a+1) l;rw[e,qe _ _ _ (show a<d.length by omega),af (by rw[<- nN d a ω];exact F)]at m;omega
 rcases qr s t with m | m | m;·have:=key s t m z A;omega
 ·exact m
 ·have:=key t s m o D;omega
def G7(d:Z0)(x m l k:Nat)(G:1<=l)(X:l<=m)(Y:m<=15)(I:k<aE d l)(J:x / 2^(15-l)=bM d l+k):∃s,s<d.length/\(sM d d.length l)[k]?=some s/\nZ d x m=some s/\bg d s=l:=by
 obtain⟨s,z,K,A,L⟩:=xk d l d.length (al _) k (by rw[dY];exact I);refine⟨s,z,K,?_,A⟩;have M:rU d x m s=true:=(rT _ _ _ _).2 ⟨ω,ω,by rw[A,J];unfold bV;rw[L]⟩;have O:∀t,t<d.length->rU d x m t=true->t=s:=by
  intro t F h;obtain⟨Q,Z,o⟩:=(rT _ _ _ _).1 h;have hb:=yq d t _ F rfl;have R:x / 2^(15-bg d t)<bM d (bg d t)+aE d (bg d t):=(by rw[o];unfold bV;omega);have U:bM d (bg d t)<=x / 2^(15-bg d t):=(by rw[o];unfold bV;omega);rcases qr (bg d t) l with e | e | e;·exact(Fh d x _ l Q e ω R ω).elim
  ·refine Ik d l t s F z e A ?_;rw[e]at o;unfold bV at o;omega
  ·exact(Fh d x l _ G e ω ω U).elim
 unfold nZ;cases D:(List.range d.length).find? (rU d x m)with
 | none=>exact absurd M (by simpa using List.find?_eq_none.1 D s (by simpa using z))
 | some t=>have e:=List.find?_some D;have V:=List.mem_of_find?_eq_some D;rw[O t (by simpa using V) e]
def Sd(d:Z0)(x e:Nat)(h:∀l,1<=l->l<=e->¬(bM d l<=x / 2^(15-l)/\x / 2^(15-l)<bM d l+aE d l)):nZ d x e=none:=by
 unfold nZ;rw[List.find?_eq_none];intro s m o;obtain⟨z,A,D⟩:=(rT _ _ _ _).1 o;have F:=yq d s _ (by simpa using m) rfl;exact h _ z A (by rw[D];unfold bV;omega)
def oK(d:Z0)(y l:Nat):Bool:=(List.range d.length).any λs=>decide (l<bg d s) && decide (bV d (bg d s) s / 2^(bg d s-l)=y)
def Fa(d:Z0)(y l:Nat)(A:∀s,bg d s<=15):oK d y l=true↔∃k,l<k/\k<=15/\0<aE d k/\y*2^(k-l)<bM d k+aE d k/\bM d k<(y+1)*2^(k-l):=by
 unfold oK;rw[List.any_eq_true];constructor;·rintro⟨s,e,h⟩;simp only[fL,en]at h;obtain⟨m,o⟩:=h;have K:=yq d s _ (by simpa using e) rfl;have z:=(Nat.div_eq_iff (lh _)).1 o;have L:bV d (bg d s) s=bM d (bg d s)+aE (d.take s) (bg d s):=rfl;have M:=lh (bg d s-l);refine⟨bg d s,m,A s,ω,ω,?_⟩;rw[be,dC];omega
 ·rintro⟨k,m,o,z,O,Q⟩;obtain⟨j,D,F,G⟩:∃j,j<aE d k/\y*2^(k-l)<=bM d k+j/\bM d k+j<(y+1)*2^(k-l):=by
   by_cases R:y*2^(k-l)<=bM d k;·exact⟨0,z,ω,ω⟩
   ·refine⟨y*2^(k-l)-bM d k,ω,ω,?_⟩;have:=lh (k-l);rw[be,dC];omega
  obtain⟨s,e,U,I,J⟩:=xk d k d.length (al _) j (by rw[dY];exact D);refine⟨s,by simpa using e,?_⟩;simp only[fL,en];refine⟨ω,?_⟩;rw[I];unfold bV;rw[J];exact Nat.div_eq_of_lt_le F G
def vo(f g:Nat->Nat)(d:∀p q,p<256->q<256->f (p ^^^ q)=f p ^^^ f q)(m:∀p q,p<256->q<256->g (p ^^^ q)=g p ^^^ g q)(X:∀k,k<8->f (2^k)=g (2^k))(i:Nat)(Y:i<256):f i=g i:=by
 have e:vN i=i:=by simpa using jT 256 _ Vr i Y
 have Z:f 0=0:=by have:=d 0 0 ω ω;simpa using this
 have g0:g 0=0:=by have:=m 0 0 ω ω;simpa using this
 have o:∀k,k<8->mP i k<2^8:=by
  intro k h;unfold mP;split;·exact Nat.pow_lt_pow_right ω h
  ·omega
 have z:∀k,k<8->f (mP i k)=g (mP i k):=by
  intro k h;unfold mP;split;·exact X k h
  ·rw[Z,g0]
 have A:∀ {p q:Nat},p<2^8->q<2^8->p ^^^ q<2^8:=λD F=>jV D F;have U:=o 0 ω;have D:=o 1 ω;have F:=o 2 ω;have G:=o 3 ω;have I:=o 4 ω;have J:=o 5 ω;have K:=o 6 ω;have L:=o 7 ω;have M:=A K L;have O:=A J M;have Q:=A I O;have k3:=A G Q;have R:=A F k3;have V:=A D R;have:f (vN i)=g (vN i):=by unfold vN;rw[d _ _ U V,d _ _ D R,d _ _ F k3,d _ _ G Q,d _ _ I O,d _ _ J M,d _ _ K L,m _ _ U V,m _ _ D R,m _ _ F k3,m _ _ G Q,m _ _ I O,m _ _ J M,m _ _ K L];rw[z 0 ω,z 1 ω,z 2 ω,z 3 ω,z 4 ω,z 5 ω,z 6 ω,z 7 ω]
 rwa [e]at this
def M4(f:Nat):∀p q b,p<256->q<256->dG f (p ^^^ q) b=dG f p b ^^^ dG f q b:=by
 induction f with
 | zero=>intro p q b _ _;simp[dG]
 | succ f h=>intro p q b d e;rw[dG,dG,dG,Df p q d e,h _ _ _ (r9 p d) (r9 q e),wN];congr 1;split <;> simp
def rJ(p q b:Nat)(d:p<256)(e:q<256):aS (p ^^^ q) b=aS p b ^^^ aS q b:=by rw[nV,nV,nV,M4 8 p q b d e]
def Up:jn 8 (λi=>jn 8 λj=>aS (2^i) (2^j) == aS (2^j) (2^i))=true:=by decide +kernel
def F4(a b:Nat)(h:a<256)(m:b<256):aS a b=aS b a:=by
 refine vo (λb=>aS a b) (λb=>aS b a) (λp q _ _=>rK a p q) (λp q d e=>rJ p q a d e) ?_ b m;intro j o;refine vo (λa=>aS a (2^j)) (λa=>aS (2^j) a) (λp q d e=>rJ p q _ d e) (λp q _ _=>rK _ p q) ?_ a h;intro i z;simpa using jT 8 _ (jT 8 _ Up i z) j o
def VE:jn 8 (λi=>jn 8 λj=>jn 8 λk=>aS (aS (2^i) (2^j)) (2^k) == aS (2^i) (aS (2^j) (2^k)))=true:=by decide +kernel
def Qd(a b c:Nat)(h:a<256)(m:b<256)(o:c<256):aS (aS a b) c=aS a (aS b c):=by
 refine vo (λc=>aS (aS a b) c) (λc=>aS a (aS b c)) (λp q _ _=>by simp only[rK]) (λp q _ _=>by simp only[rK]) ?_ c o;intro k z;refine vo (λb=>aS (aS a b) (2^k)) (λb=>aS a (aS b (2^k))) (λp q _ _=>?_) (λp q d e=>?_) ?_ b m;·rw[rK,rJ _ _ _ (nU a p h) (nU a q h)]
 ·rw[rJ _ _ _ d e,rK]
 intro j A;refine vo (λa=>aS (aS a (2^j)) (2^k)) (λa=>aS a (aS (2^j) (2^k))) (λp q d e=>?_) (λp q d e=>?_) ?_ a h;·rw[rJ _ _ _ d e,rJ _ _ _ (nU p _ d) (nU q _ e)]
 ·rw[rJ _ _ _ d e]
 intro i D;simpa using jT 8 _ (jT 8 _ (jT 8 _ VE i D) j A) k z
def aT(a b:UInt8):UInt8:=UInt8.ofNat (aS a.toNat b.toNat)
def gl(a:UInt8):UInt8:=UInt8.ofNat (if a.toNat=0 then 0 else n9 a.toNat)
def oN(n:Nat)(h:n<256):(UInt8.ofNat n).toNat=n:=by rw[jp];exact nI h
def mF(a b:UInt8):(aT a b).toNat=aS a.toNat b.toNat:=oN _ (nU _ _ a.toNat_lt)
def qS(a b:UInt8):aT a b=aT b a:=by unfold aT;rw[F4 _ _ a.toNat_lt b.toNat_lt]
def oO(a b c:UInt8):aT (aT a b) c=aT a (aT b c):=eP.1 (by rw[mF,mF,mF,mF,Qd _ _ _ a.toNat_lt b.toNat_lt c.toNat_lt])
def rL(a b c:UInt8):aT a (aT b c)=aT b (aT a c):=by rw[<- oO,qS a b,oO]
def vg(a b c:UInt8):aT a (b ^^^ c)=aT a b ^^^ aT a c:=eP.1 (by rw[mF,UInt8.toNat_xor,UInt8.toNat_xor,mF,mF,rK])
def uC(a b c:UInt8):aT (a ^^^ b) c=aT a c ^^^ aT b c:=by rw[qS,vg,qS c,qS c]
def lN(a:UInt8):aT a 0=0:=eP.1 (by rw[mF];exact F3 _)
def pF(a:UInt8):aT 0 a=0:=eP.1 (by rw[mF];exact Fz _)
def Fj:jn 256 (λa=>aS a 1 == a)=true:=by decide +kernel
def t7(a:UInt8):aT a 1=a:=eP.1 (by rw[mF];simpa using jT 256 _ Fj a.toNat a.toNat_lt)
def qQ(a:UInt8):aT 1 a=a:=by rw[qS,t7]
def Lr(a:UInt8)(h:a≠0):a.toNat≠0:=λe=>h (eP.1 e)
def rM(a:UInt8)(h:a≠0):aT a (gl a)=1:=by
 have d:=Lr a h;have e:=Gv a.toNat d a.toNat_lt;unfold gl;rw[ae d];exact eP.1 (by rw[mF,oN _ e.1,e.2.1];rfl)
def RE:gl 1=1:=by decide +kernel
def vh(a b:UInt8)(e:a≠0)(h:aT a b=0):b=0:=by
 have d:aT (gl a) (aT a b)=b:=by rw[<- oO,qS (gl a),rM a e,qQ]
 rw[h,lN]at d;exact d.symm
def Be(a:UInt8)(h:a≠0):gl a≠0:=by
 intro e;have:=rM a h;rw[e,lN]at this;exact absurd this δ
def CD{a b:UInt8}(h:a ^^^ b=0):a=b:=by
 have:a ^^^ b ^^^ b=b:=by rw[h];exact wj
 rwa [pq,ro,rn]at this
def ry{a b:UInt8}(h:a≠b):a ^^^ b≠0:=λe=>h (CD e)
def gp:Z0->UInt8
 | []=>0
 | x::l=>x ^^^ gp l
def Kj(a b:Z0):gp (a++b)=gp a ^^^ gp b:=by
 induction a with
 | nil=>simp[gp]
 | cons x a d=>rw[lm,gp,gp,d,pq]
def zA(c:UInt8)(l:Z0):aT c (gp l)=gp (l.map (aT c)):=by
 induction l with
 | nil=>exact lN c
 | cons x l d=>rw[gp,vg,d,dD,gp]
def uD(a b c d:UInt8):(a ^^^ b) ^^^ (c ^^^ d)=(a ^^^ c) ^^^ (b ^^^ d):=by
 rw[pq,pq,<- pq b,UInt8.xor_comm b c,pq c]
def Kk{α:Type}(f g:α->UInt8)(l:List α):gp (l.map f) ^^^ gp (l.map g)=gp (l.map λx=>f x ^^^ g x):=by
 induction l with
 | nil=>simp[gp]
 | cons x l d=>simp only[dD,gp];rw[uD,d]
def UO(a b d g:UInt8)(h:a≠0)(e:b≠0):aT (a ^^^ b) (aT (aT g (aT d (gl b))) (gl a))=aT (a ^^^ d) (aT g (gl a)) ^^^ aT (b ^^^ d) (aT g (gl b)):=by
 have A:∀z,aT a (aT z (gl a))=z:=λz=>by rw[rL,rM a h,t7]
 have B:∀z,aT b (aT z (gl b))=z:=λz=>by rw[rL,rM b e,t7]
 rw[uC,uC,uC,A,A,B,uD,ro,wj,oO g,oO d,rL b g,rL b d,<- oO b,rM b e,qQ,rL d g,rL d g,UInt8.xor_comm]
def UN:∀(D xs:Z0) (c:UInt8->UInt8),D≠[]->D.length<=xs.length->D.Nodup->xs.Nodup->(∀x∈xs,x ∉ D)->(∀y∈D,c y≠0)->(∀x∈xs,gp (D.map λy=>aT (c y) (gl (x ^^^ y)))=0)->False:=by
 intro D
 induction D with
 | nil=>intro xs c h;exact absurd rfl h
 | cons o D ih=>
  intro xs c _ L M O F Q R;obtain _ | ⟨A,xs⟩:=xs;·simp at L
  have I:=F A σ;have G:=R A σ;rw[dD,gp]at G;by_cases U:D=[];·subst U;rw[ox,gp,rn]at G;exact Be _ (ry (λe=>I (by simp[e]))) (vh _ _ (Q o σ) G)
  ·refine ih xs (λy=>aT (c y) (aT (y ^^^ o) (gl (A ^^^ y)))) U (by simpa using L) (uo.1 M).2 (uo.1 O).2 (λx h=>λJ=>F x (by simp[h]) (by simp[J])) ?_ ?_;·intro y h e;have h1:=vh _ _ (Q y (by simp[h])) e;have J:=vh _ _ (ry (λe:y=o=>(uo.1 M).1 (e ▸ h))) h1;exact Be _ (ry (λe=>I (by simp[e,h]))) J
   ·intro x h;have V:=R x (by simp[h]);rw[dD,gp]at V;have ac:x ^^^ A≠0:=ry (λe:x=A=>(uo.1 O).1 (e ▸ h));refine vh _ _ ac ?_;have m:∀z,z∈A::xs->aT (z ^^^ o) (aT (c o) (gl (z ^^^ o)))=c o:=(by intro z hz;rw[rL,rM _ (ry (λe=>F z hz (by simp[e]))),t7]);have X:=dp (aT (A ^^^ o)) G;have Y:=dp (aT (x ^^^ o)) V;rw[vg,m A σ,lN,zA,jE]at X;rw[vg,m x (by simp[h]),lN,zA,jE]at Y;have K:=congr (dp (· ^^^ ·) Y) X;simp only[rn]at K;rw[uD,ro,wj,Kk]at K;rw[zA,jE,<- K];congr 1;refine iV λy Z=>?_;simp only[Function.comp];have ha:x ^^^ y≠0:=ry (λe=>F x (by simp[h]) (by simp[e,Z]));have hb:A ^^^ y≠0:=ry (λe=>I (by simp[e,Z]));have q1:x ^^^ A=(x ^^^ y) ^^^ (A ^^^ y):=(by rw[uD,ro,rn]);have q2:x ^^^ o=(x ^^^ y) ^^^ (y ^^^ o):=(by rw[pq,<- pq y,ro,wj]);have q3:A ^^^ o=(A ^^^ y) ^^^ (y ^^^ o):=(by rw[pq,<- pq y,ro,wj]);rw[q1,q2,q3];generalize c y=g,y ^^^ o=d,A ^^^ y=b,x ^^^ y=a at *;exact UO a b d g ha hb
def xs:Nat->(Nat->UInt8)->UInt8
 | 0,_=>0
 | n+1,f=>xs n f ^^^ f n
def CA(n:Nat)(f:Nat->UInt8)(h:∀j,j<n->f j=0):xs n f=0:=by
 induction n with
 | zero=>rfl
 | succ n d=>rw[xs,d (λj e=>h j ω),h n ω];rfl
def lH(n:Nat)(f g:Nat->UInt8)(h:∀j,j<n->f j=g j):xs n f=xs n g:=by
 induction n with
 | zero=>rfl
 | succ n d=>rw[xs,xs,d (λj e=>h j ω),h n ω]
def sO(n i:Nat)(f:Nat->UInt8)(z:i<n)(h:∀j,j<n->j≠i->f j=0):xs n f=f i:=by
 induction n with
 | zero=>omega
 | succ n d=>
  by_cases e:i=n;·subst e;rw[xs,CA i f (λj m=>h j ω ω),wj]
  ·rw[xs,d ω (λj m o=>h j ω o),h n ω ω,rn]
def zB(n:Nat)(f g:Nat->UInt8):xs n f ^^^ xs n g=xs n (λj=>f j ^^^ g j):=by
 induction n with
 | zero=>exact ro.symm ▸ rfl
 | succ n d=>rw[xs,xs,xs,uD,d]
def wM(n:Nat)(c:UInt8)(f:Nat->UInt8):aT c (xs n f)=xs n (λj=>aT c (f j)):=by
 induction n with
 | zero=>exact lN c
 | succ n d=>rw[xs,vg,d,xs]
def Kl(n r i:Nat)(f:Nat->UInt8)(z:r<n)(A:i<n)(D:r≠i)(h:∀j,j<n->j≠r->j≠i->f j=0):xs n f=f r ^^^ f i:=by
 have e:xs n f=xs n (λj=>(if j=r then f r else 0) ^^^ (if j=i then f i else 0)):=by
  refine lH n _ _ λj F=>?_;by_cases d:j=r;·subst d;simp[D]
  ·by_cases m:j=i;·subst m;simp[d]
   ·simp[d,m,h j F d m]
 rw[e,<- zB,sO n r _ z (λj _ o=>by simp[o]),sO n i _ A (λj _ o=>by simp[o])];simp
def Km(n:Nat)(f:Nat->UInt8):xs n f=gp ((List.range n).map f):=by
 induction n with
 | zero=>rfl
 | succ n d=>rw[xs,d,jr,eD,Kj];simp[gp]
def Ki(l:List Nat)(f:Nat->UInt8)(p:Nat->Bool)(h:∀x∈l,p x=false->f x=0):gp (l.map f)=gp ((l.filter p).map f):=by
 induction l with
 | nil=>rfl
 | cons x l d=>
  rw[dD,gp,d (λy e=>h y (by simp[e])),mX];cases m:p x;·rw[h x σ m];simp
  ·simp[gp]
def oI(A:Nat->Nat->UInt8)(c:Nat):Nat->Nat->Nat
 | 0,p=>p
 | f+1,p=>if A p c=0 then oI A c f (p+1)else p
def iP(A:Nat->Nat->UInt8)(n i:Nat):Nat:=oI A i (n-i) i
def gU(A:Nat->Nat->UInt8)(i p:Nat):Nat->Nat->UInt8:=λr j=>A (if r=i then p else if r=p then i else r) j
def lJ(A:Nat->Nat->UInt8)(i:Nat)(c:UInt8):Nat->Nat->UInt8:=λr j=>if r=i then aT c (A i j)else A r j
def dK(A:Nat->Nat->UInt8)(i K:Nat):Nat->Nat->UInt8:=λr j=>if r<K/\r≠i then A r j ^^^ aT (A r i) (A i j)else A r j
def jh(A:Nat->Nat->UInt8)(n i:Nat):Nat->Nat->UInt8:=lJ (gU A i (iP A n i)) i (gl (A (iP A n i) i))
def m7(A:Nat->Nat->UInt8)(n i:Nat):Nat->Nat->UInt8:=dK (jh A n i) i n
def iL(A:Nat->Nat->UInt8)(n:Nat):Nat->Nat->Nat->UInt8
 | 0=>A
 | i+1=>m7 (iL A n i) n i
def OV(A:Nat->Nat->UInt8)(c:Nat):∀f p,p<=oI A c f p/\oI A c f p<=p+f/\(∀q,p<=q->q<oI A c f p->A q c=0)/\(oI A c f p<p+f->A (oI A c f p) c≠0):=by
 intro f
 induction f with
 | zero=>intro p;rw[oI];exact⟨al _,al _,λq d m=>by omega,λh=>by omega⟩
 | succ f o=>
  intro p;rw[oI];by_cases h:A p c=0
  ·rw[af h];obtain⟨d,m,z,D⟩:=o (p+1);refine⟨ω,ω,λq G F=>?_,λI=>D ω⟩;by_cases e:q=p;·subst e;exact h
   ·exact z q ω F
  ·rw[ae h];exact⟨al _,ω,λq d m=>by omega,λ_=>h⟩
structure qo (A:Nat->Nat->UInt8) (n i:Nat):Prop where
 ge:i<=iP A n i
 lt:iP A n i<n
 ne:A (iP A n i) i≠0
 zero:∀q,i<=q->q<iP A n i->A q i=0
def OU(A:Nat->Nat->UInt8)(n i:Nat)(F:i<n)(h:¬∀q,i<=q->q<n->A q i=0):qo A n i:=by
 obtain⟨m,G,d,o⟩:=OV A i (n-i) i;have e:iP A n i<n:=by apply wG;intro z;refine h λq D I=>d q D ?_;unfold iP at z;omega
 exact⟨m,e,o (by unfold iP at e;omega),d⟩
def bN(A:Nat->Nat->UInt8)(n r:Nat)(v:Nat->UInt8):UInt8:=xs n λj=>aT (A r j) (v j)
def T5(A:Nat->Nat->UInt8)(n i p:Nat)(v:Nat->UInt8)(o:i<n)(z:p<n)(h:∀r,r<n->bN (gU A i p) n r v=0):∀r,r<n->bN A n r v=0:=by
 intro r D;by_cases d:r=i
 ·subst d;have:=h p z;unfold bN gU at this;by_cases e:p=r;·subst e;simpa [bN] using this
  ·simpa [bN,e] using this
 ·by_cases m:r=p;·subst m;have:=h i o;simpa [bN,gU] using this
  ·have:=h r D;simpa [bN,gU,d,m] using this
def T7(A:Nat->Nat->UInt8)(n i:Nat)(c:UInt8)(v:Nat->UInt8)(m:c≠0)(h:∀r,r<n->bN (lJ A i c) n r v=0):∀r,r<n->bN A n r v=0:=by
 intro r o;have d:=h r o;by_cases e:r=i;·subst e;refine vh c _ m ?_;unfold bN;rw[wM,<- d];unfold bN lJ;exact lH n _ _ λj _=>by simp[oO]
 ·simpa [bN,lJ,e] using d
def T8(A:Nat->Nat->UInt8)(n i:Nat)(v:Nat->UInt8)(D:i<n)(h:∀r,r<n->bN (dK A i n) n r v=0):∀r,r<n->bN A n r v=0:=by
 have d:bN A n i v=0:=by simpa [bN,dK] using h i D
 intro r m;by_cases o:r=i;·subst o;exact d
 ·have z:=h r m;have e:bN (dK A i n) n r v=bN A n r v ^^^ aT (A r i) (bN A n i v):=(by unfold bN;rw[wM,zB];refine lH n _ _ λj _=>?_;simp only[dK,m,o,ne_eq,not_false_eq_true,and_self,lF];rw[uC,oO]);rw[e,d,lN,rn]at z;exact z
def T6(A:Nat->Nat->UInt8)(n i:Nat)(v:Nat->UInt8)(d:i<n)(e:qo A n i)(h:∀r,r<n->bN (m7 A n i) n r v=0):∀r,r<n->bN A n r v=0:=
 T5 A n i _ v d e.lt (T7 _ n i _ v (Be _ e.ne) (T8 _ n i v d h))
def Ce(A:Nat->Nat->UInt8)(n i:Nat):Prop:=∀c,c<i->∀r,r<n->A r c=if r=c then 1 else 0
def KQ(A:Nat->Nat->UInt8)(n i:Nat)(F:i<n)(o:qo A n i)(z:Ce A n i):Ce (m7 A n i) n (i+1):=by
 have D:∀c,c<i->∀r,r<n->jh A n i r c=if r=c then 1 else 0:=by
  intro c m r h;have J:=o.ge;have I:=o.lt;unfold jh lJ gU;by_cases e:r=i;·subst e;rw[af rfl,af rfl,z c m _ I,ae ω,ae ω,lN]
  ·rw[ae e,ae e];by_cases d:r=iP A n i;·rw[af d,z c m i F,ae ω,ae ω]
   ·rw[ae d,z c m r h]
 have G:jh A n i i i=1:=by unfold jh lJ gU;rw[af rfl,af rfl,qS,rM _ o.ne]
 intro c m r h;unfold m7 dK;by_cases e:r=i
 ·subst e;rw[ae σ];by_cases d:c=r;·subst d;rw[G,af rfl]
  ·exact D c ω r h
 ·rw[af ⟨h,e⟩];by_cases d:c=i;·subst d;rw[G,t7,ro,ae e]
  ·rw[D c ω r h,D c ω i F,ae (c:=i=c) ω,lN,rn]
def pd(A:Nat->Nat->UInt8)(n:Nat):Prop:=∀v:Nat->UInt8,(∀r,r<n->bN A n r v=0)->∀j,j<n->v j=0
def GK(A:Nat->Nat->UInt8)(n:Nat)(G:pd A n):∀i,i<=n->Ce (iL A n i) n i/\(∀v:Nat->UInt8,(∀r,r<n->bN (iL A n i) n r v=0)->∀r,r<n->bN A n r v=0)/\∀t,t<i->qo (iL A n t) n t:=by
 intro i
 induction i with
 | zero=>exact λ_=>⟨λc R=>by omega,λv h=>h,λt I=>by omega⟩
 | succ i J=>
  intro U;obtain⟨o,D,K⟩:=J ω;have z:qo (iL A n i) n i:=by
   refine OU _ n i ω λL=>?_;have key:=G (λj=>if j<i then iL A n i j i else if j=i then 1 else 0) (D _ λr d=>?_) i ω;·simp at key
   ·unfold bN;by_cases F:r<i
    ·rw[Kl n r i _ d ω ω];·rw[o r F r d];simp[F,qQ,t7]
     ·intro j M O Q;by_cases m:j<i;·rw[o j m r d,ae (iG O),pF]
      ·simp[m,Q,lN]
    ·refine CA n _ λj M=>?_;by_cases m:j<i;·rw[o j m r d,ae ω,pF]
     ·by_cases e:j=i;·subst e;rw[L r ω d,pF]
      ·simp[m,e,lN]
  refine⟨KQ _ n i ω z o,λv h=>D v (T6 _ n i v ω z h),λt I=>?_⟩;by_cases e:t=i;·subst e;exact z
  ·exact K t ω
def GJ(A:Nat->Nat->UInt8)(n:Nat)(d:pd A n)(i:Nat)(e:i<n):qo (iL A n i) n i:=(GK A n d n (al _)).2.2 i e
def dB(M:Nat->Nat->UInt8)(n:Nat):Nat->Nat->UInt8:=λr j=>if j<n then M r j else if j-n=r then 1 else 0
def IU(M:Nat->Nat->UInt8)(n:Nat)(h:pd M n):pd (dB M n) n:=by
 intro v d;refine h v λr e=>?_;rw[<- d r e];exact lH n _ _ λj m=>by simp[dB,m]
def GM(M d:Nat->Nat->UInt8)(n:Nat)(h:pd M n)(m:∀r,r<n->∀j,j<n->d r j=M r j):pd d n:=by
 intro v o;refine h v λr e=>?_;rw[<- o r e];exact lH n _ _ λj z=>by rw[m r e j z]
def MS(M:Nat->Nat->UInt8)(n:Nat)(h:∀r,r<n->∀j,j<n->M r j=if r=j then 1 else 0):∀i,i<=n->∀r,r<n->∀j,iL (dB M n) n i r j=dB M n r j:=by
 intro i
 induction i with
 | zero=>intro _ r _ j;rfl
 | succ i m=>
  intro F r d j;have m:=m ω;have z:iP (iL (dB M n) n i) n i=i:=(by unfold iP;obtain⟨f,A⟩:∃f,n-i=f+1:=⟨n-i-1,ω⟩;rw[A,oI,m i ω,ae];simp only[dB,show i<n from by omega,lF];rw[h i ω i ω];simp);have D:dB M n i i=1:=(by simp only[dB,show i<n from by omega,lF];rw[h i ω i ω];simp);have o:∀r,r<n->∀j,jh (iL (dB M n) n i) n i r j=dB M n r j:=by
   intro r d j;unfold jh lJ gU;rw[z];by_cases e:r=i;·subst e;rw[af rfl,af rfl,m r d,m r d,D,RE,qQ]
   ·rw[ae e,ae e,ae e,m r d]
  show dK _ i n r j=_;unfold dK;by_cases e:r=i;·subst e;rw[ae σ];exact o r d j
  ·rw[af ⟨d,e⟩,o r d j,o r d i,show dB M n r i=0 from ?_,pF,rn];simp only[dB,show i<n from by omega,lF];rw[h r d i ω,ae e]
def jI(k t j:Nat):UInt8:=if t<k then(if t=j then 1 else 0)else gl (UInt8.ofNat (t ^^^ j))
def PY:∀(n:Nat) (l:List Nat),l.Nodup->(∀x∈l,x<n)->l.length<=n:=by
 intro n
 induction n with
 | zero=>
  intro l _ h;obtain _ | ⟨x,l⟩:=l;·exact al _
  ·exact absurd (h x σ) ω
 | succ n e=>
  intro l d h;have := e (l.erase n) (d.erase n) (fun x m => by
    have o := (d.mem_erase_iff).1 m;have z := h x o.2
    omega)
  rw[List.length_erase]at this;split at this <;> omega
def AI{a b:Nat}(d:a<256)(e:b<256)(h:UInt8.ofNat a=UInt8.ofNat b):a=b:=by
 rw[<- oN a d,<- oN b e,h]
def AU{α β:Type}(f:α->β):∀(l:List α),l.Nodup->(∀x∈l,∀y∈l,f x=f y->x=y)->(l.map f).Nodup:=by
 intro l
 induction l with
 | nil=>intro _ _;exact List.nodup_nil
 | cons x l o=>intro d h;rw[dD,uo];refine⟨λz=>?_,o (uo.1 d).2 (λa A b D=>h a (by simp[A]) b (by simp[D]))⟩;obtain⟨y,m,e⟩:=ee.1 z;have:=h y (by simp[m]) x σ e;subst this;exact(uo.1 d).1 m
def CU(k m:Nat)(a4:k+m<=255)(o:Nat->Nat)(U:∀r s,r<s->s<k->o r<o s)(aa:∀r,r<k->o r<k+m):pd (λr j=>jI k (o r) j) k:=by
 intro v V
 apply wG
 intro ab
 obtain⟨j0,aj⟩:=Classical.not_forall.1 ab
 obtain⟨ak,ap⟩:=Classical.not_imp.1 aj
 have av:∀r,r<k->∀s,s<k->o r=o s->r=s:=by
  intro r d s O e
  rcases qr r s with h | h | h
  ·have:=U r s h O;omega
  ·exact h
  ·have:=U s r h d;omega
 -- those that are lost are not among the places
 have a0:∀r,r<k->o r<k->v (o r)=0:=by
  intro r d G
  have:=V r d
  unfold bN at this
  rw[sO k (o r) _ G]at this
  ·simpa [jI,G,qQ] using this
  ·intro j _ he
   simp[jI,G,iG he,pF]
 let Y:=(List.range k).filter λj=>v j != 0
 let T:=(List.range k).map o
 have X:Y.Nodup:=List.nodup_range.filter _
 have Z:=AU _ _ List.nodup_range (λr d s O e=>av r (dN.1 d) s (dN.1 O) e)
 have a2:Y.length<=(T.filter λt=>decide (k<=t)).length:=by
  have F:(Y++T.filter λt=>decide (t<k)).length<=k:=by
   refine PY k _ ?_ ?_
   ·rw[List.nodup_append]
    refine⟨X,Z.filter _,λa I b J e=>?_⟩
    subst e
    obtain⟨D,G⟩:=lG.1 J
    obtain⟨r,d,rfl⟩:=ee.1 D
    have Q:=a0 r (dN.1 d) (by simpa using G)
    have:=(lG.1 I).2
    rw[Q]at this
    simp at this
   ·intro x K
    rcases jD.1 K with h | h
    ·exact dN.1 (lG.1 h).1
    ·simpa using (lG.1 h).2
  have A:=List.length_eq_countP_add_countP (λt=>decide (t<k)) (l:=T)
  rw[am]at F
  have h3:T.length=k:=by simp[T]
  rw[List.countP_eq_length_filter,List.countP_eq_length_filter]at A
  have h4:(T.filter λa=>decide (¬(decide (a<k)=true)))=T.filter λt=>decide (k<=t):=by
   refine List.filter_congr λx _=>?_
   simp
  rw[h4]at A
  omega
 have L:∀j∈Y,j<k/\v j≠0:=λj z=>⟨dN.1 (lG.1 z).1,by simpa using (lG.1 z).2⟩
 have M:∀t∈T.filter (λt=>decide (k<=t)),∃r,r<k/\t=o r/\k<=t/\t<k+m:=by
  intro t D
  obtain⟨F,A⟩:=lG.1 D
  obtain⟨r,d,rfl⟩:=ee.1 F
  exact⟨r,dN.1 d,rfl,by simpa using A,aa r (dN.1 d)⟩
 refine UN (Y.map UInt8.ofNat) ((T.filter λt=>decide (k<=t)).map UInt8.ofNat) (λy=>v y.toNat) ?_ ?_ ?_ ?_ ?_ ?_ ?_
 ·intro e
  have:j0∈Y:=lG.2 ⟨dN.2 ak,by simpa using ap⟩
  rw[List.map_eq_nil_iff]at e
  rw[e]at this
  simp at this
 ·simpa using a2
 ·exact AU _ _ X λa I b J e=>AI (by have:=(L a I).1;omega) (by have:=(L b J).1;omega) e
 ·exact AU _ _ (Z.filter _) λa I b J e=>by
    obtain⟨_,_,_,_,F⟩:=M a I
    obtain⟨_,_,_,_,A⟩:=M b J
    exact AI ω ω e
 ·intro x K R
  obtain⟨t,D,rfl⟩:=ee.1 K
  obtain⟨j,z,e⟩:=ee.1 R
  obtain⟨_,_,_,Q,F⟩:=M t D
  have:=(L j z).1
  have:=AI ω ω e
  omega
 ·intro y R
  obtain⟨j,z,rfl⟩:=ee.1 R
  have:=L j z
  rw[oN j ω]
  exact this.2
 ·intro x K
  obtain⟨t,D,rfl⟩:=ee.1 K
  obtain⟨r,d,rfl,Q,F⟩:=M t D
  have A:=V r d
  unfold bN at A
  rw [Km, Ki _ _ (fun j => v j != 0) (fun j _ z => by
    have : v j = 0 := by simpa using z
    rw[this, lN])] at A
  rw[jE,<- A]
  congr 1
  refine iV λj z=>?_
  have a6:=L j z
  simp only[Function.comp]
  rw[oN j ω,qS]
  congr 1
  rw[jI,ae ω,UInt8.ofNat_xor]
def bo(C:Nat)(f:Nat->Nat->UInt8)(n:Nat):Z0:=(List.range n).map λt=>f (t / C) (t%C)
def gk(C:Nat)(f:Nat->Nat->UInt8)(n:Nat):(bo C f n).length=n:=by simp[bo]
def tO(C i j:Nat)(d:j<C):(i*C+j) / C=i:=by
 rw[dX,Nat.mul_add_div ω,qx d,dq]
def tA(C i j:Nat)(d:j<C):(i*C+j)%C=j:=by
 rw[dX,Nat.mul_add_mod,nI d]
def EQ(C:Nat)(f:Nat->Nat->UInt8)(i j:Nat)(d:j<C):bo C f (i*C+(j+1))=bo C f (i*C+j)++[f i j]:=by
 rw[<- jq];unfold bo;rw[jr,eD,dD,ox,tO C i j d,tA C i j d]
def ES(C:Nat)(f:Nat->Nat->UInt8)(i:Nat):bo C f ((i+1)*C+0)=bo C f (i*C+C):=by rw[be];simp
def xF(C:Nat)(f g:Nat->Nat->UInt8)(n:Nat)(h:∀t,t<n->f (t / C) (t%C)=g (t / C) (t%C)):bo C f n=bo C g n:=by
 unfold bo;exact iV λt d=>h t (dN.1 d)
def OC(C:Nat)(f:Nat->Nat->UInt8)(n t:Nat)(h:t<n):(bo C f n).getD t 0=f (t / C) (t%C):=by
 rw[cg _ _ _ (by rw[gk];exact h)];simp[bo]
def rH(C:Nat)(f:Nat->Nat->UInt8)(R i j:Nat)(e:i<R)(d:j<C):(bo C f (R*C)).getD (i*C+j) 0=f i j:=by
 have:i*C+j<R*C:=by have:=bQ C (show i+1<=R by omega);rw[be]at this;omega
 rw[OC _ _ _ _ this,tO C i j d,tA C i j d]
def kj(C:Nat)(f:Nat->Nat->UInt8)(i:Nat):Z0:=(List.range C).map (f i)
def ti(C:Nat)(f:Nat->Nat->UInt8)(i:Nat):(kj C f i).length=C:=by simp[kj]
def uU(C:Nat)(f:Nat->Nat->UInt8)(R i:Nat)(e:i<R):(((bo C f (R*C)).take ((i+1)*C)).drop (i*C))=kj C f i:=by
 have h:(i+1)*C=i*C+C:=by rw[be];omega
 have m:i*C+C<=R*C:=by have:=bQ C (show i+1<=R by omega);omega
 apply gT;·rw[aN,aA,gk,ti];omega
 ·intro j o d;rw[ti]at d;simp only[s9,qz,bo,kj,fK,jd];rw[tO C i j d,tA C i j d]
def jL(f:Nat->Nat->UInt8)(i:Nat)(g:Nat->UInt8):Nat->Nat->UInt8:=λr j=>if r=i then g j else f r j
def A8(C:Nat)(f:Nat->Nat->UInt8)(R i:Nat)(A:i<R)(g:Nat->UInt8):(bo C f (R*C)).take (i*C)++((List.range C).map g++(bo C f (R*C)).drop (i*C+C))=bo C (jL f i g) (R*C):=by
 have D:i*C+C<=R*C:=by have:=bQ C (show i+1<=R by omega);rw[be]at this;omega
 apply gT;·simp only[am,aA,aN,gk,cy,jY];omega
 ·intro t F d;rw[gk]at d;by_cases h:t<i*C;·rw[kI (by rw[aA,gk];omega)];simp only[qz,bo,fK,jd,jL];have:t / C<i:=(qu (by rcases kE C with e | e;(subst e;simp at h);exact e)).2 h;rw[ae ω]
  ·rw[jZ (by rw[aA,gk];omega)];by_cases G:t<i*C+C;·rw[kI (by simp only[aA,gk,cy,jY];omega)];simp only[aA,fK,jd,bo,jL];have m:t / C=i:=(by have:=tO C i (t-i*C) ω;rw[show i*C+(t-i*C)=t by omega]at this;exact this);have o:t%C=t-i*C:=(by have:=tA C i (t-i*C) ω;rw[show i*C+(t-i*C)=t by omega]at this;exact this);rw[af m,o];congr 1;rw[cy,jY];omega
   ·rw[jZ (by simp only[aA,gk,cy,jY];omega)];simp only[s9,aA,cy,jY,bo,fK,jd,jL];have hC:0<C:=by
     rcases kE C with e | e;·subst e;simp at d
     ·exact e
    have z:i*C+C+(t-min (i*C) (R*C)-C)=t:=ω;rw[z,ae];intro e;have:=(qu hC (x:=t) (y:=i+1)).1 ω;rw[be]at this;omega
def OA(C:Nat)(f:Nat->Nat->UInt8)(n i j:Nat)(d:j<C)(x:UInt8):(bo C f n).set (i*C+j) x=bo C (λr c=>if r=i/\c=j then x else f r c) n:=by
 apply gT;·rw[mW,gk,gk]
 ·intro t z A;by_cases e:t=i*C+j;·subst e;rw[List.getElem_set_self];simp only[bo,fK,jd];rw[tO C i j d,tA C i j d,af ⟨rfl,rfl⟩]
  ·rw[List.getElem_set_ne (λh=>e h.symm)];simp only[bo,fK,jd];rw[ae];rintro⟨m,o⟩;have:=ul t C;rw[m,o,dX]at this;exact e this.symm
def VX(l b:Z0)(c:UInt8):jc l c.toNat b=l.zipWith (λx y=>x ^^^ aT c y) b:=by
 unfold jc;congr 1;funext x y;exact eP.1 (by rw[UInt8.toNat_xor,mF,oN _ (jV (n:=8) x.toNat_lt (nU _ _ c.toNat_lt))])
def VU(n:Nat)(f:Nat->Nat->UInt8)(i k:Nat)(c:UInt8):jc (kj n f i) c.toNat (kj n f k)=(List.range n).map λj=>f i j ^^^ aT c (f k j):=by
 rw[VX];unfold kj;apply gT;·simp
 ·intro t d e;simp
def Oy(f:Nat->Nat->UInt8)(i j:Nat):jL (jL f i (f j)) j (f i)=gU f i j:=by
 funext r c;unfold jL gU;by_cases e:r=j
 ·subst e;by_cases d:r=i;·subst d;simp
  ·simp[d]
 ·by_cases d:r=i;·subst d;simp[e]
  ·simp[e,d]
def jA(M:Z0)(C:Nat):Nat->Nat->UInt8:=λr j=>M.getD (r*C+j) 0
def ET(M:Z0)(C R:Nat)(h:M.length=R*C):bo C (jA M C) (R*C)=M:=by
 apply gT;·rw[gk,h]
 ·intro t e d;simp only[bo,fK,jd,jA];rw[dX,ul,cg _ _ _ d]
def jP(i j:Nat):UInt8:=if i=j then 1 else 0
def gK(n:Nat):Z0:=bo n jP (n*n)
def gq(k m:Nat):Z0:=bo k (jI k) ((k+m)*k)
def ea(M:Z0)(C:Nat)(d:List Nat):Z0:=(d.map λr=>(M.take ((r+1)*C)).drop (r*C)).flatten
def AB(k m:Nat)(d:List Nat)(h:∀r∈d,r<k+m):ea (gq k m) k d=bo k (λr j=>jI k (d.getD r 0) j) (d.length*k):=by
 have key:∀n,n<=d.length->ea (gq k m) k (d.take n)=bo k (λr j=>jI k (d.getD r 0) j) (n*k):=by
  intro n
  induction n with
  | zero=>intro _;simp[ea,bo]
  | succ n o=>intro D;have z:d.take (n+1)=d.take n++[d[n]]:=(by rw[List.take_add_one,bj ω];rfl);have A:ea (gq k m) k (d.take n++[d[n]])=ea (gq k m) k (d.take n)++((gq k m).take ((d[n]+1)*k)).drop (d[n]*k):=(by unfold ea;rw[eD,oz,dD,ox,oy,List.flatten_nil,dg]);rw[z,A,o ω,gq,uU k (jI k) (k+m) _ (h _ (bJ _))];unfold bo kj;rw[be,dC,List.range_add,eD,jE];congr 1;refine iV λj e=>?_;have e:=dN.1 e;simp only[Function.comp];rw[tO k n j e,tA k n j e,cg _ _ _ ω]
 have:=key d.length (al _);rwa [cw (al _)]at this
def Gw(M:Z0)(n:Nat):Nat->Nat->UInt8:=λr j=>iL (dB (jA M n) n) n n r (n+j)
def pW(M:Z0)(n:Nat):Z0:=bo n (Gw M n) (n*n)
def JC(M:Z0)(n:Nat):Prop:=∀i,i<n->qo (iL (dB (jA M n) n) n i) n i
def qk(d:List Nat)(n:Nat):Prop:=(∀r s,r<s->s<d.length->d.getD r 0<d.getD s 0)/\∀r∈d,r<n
def OX(k m:Nat)(o:k+m<=255)(d:List Nat)(z:d.length=k)(h:qk d (k+m)):JC (ea (gq k m) k d) k:=by
 intro i A;refine GJ _ k (IU _ k (GM _ _ k (CU k m o (λr=>d.getD r 0) (λr s D G=>h.1 r s D ω) λr e=>?_) λr e j F=>?_)) i A;·rw[cg _ _ _ ω];exact h.2 _ (bJ _)
 ·rw[AB k m d h.2,z];exact rH k _ k r j e F
def NK(d:List Nat)(n:Nat)(h:qk d n):∀r,r<d.length->r<=d.getD r 0:=by
 intro r
 induction r with
 | zero=>intro _;omega
 | succ r m=>intro e;have o:=h.1 r (r+1) ω e;omega
def NL(e:List Nat)(n:Nat)(h:qk e n)(A:0<e.length)(o:e.getD (e.length-1) 0=e.length-1):∀r,r<e.length->e.getD r 0=r:=by
 have key:∀d r,r+d=e.length-1->e.getD r 0=r:=by
  intro d
  induction d with
  | zero=>intro r m;rw[dq]at m;rw[m];exact o
  | succ d z=>intro r m;have D:=z (r+1) ω;have F:=h.1 r (r+1) ω ω;have G:=NK e n h r ω;omega
 intro r m;exact key (e.length-1-r) r ω
def R9(k m:Nat)(d:List Nat)(G:d.length=k)(h:qk d (k+m))(I:∀r,r<k->d.getD r 0=r):pW (ea (gq k m) k d) k=gK k:=by
 refine xF k _ _ _ λt A=>?_;have D:0<k:=by rcases kE k with e | e;(subst e;simp at A);exact e
 have o:=(qu D).2 A;have F:t%k<k:=jB _ D;unfold Gw;rw[MS _ k ?_ k (al _) _ o]
 ·simp only[dB,jP,show ¬k+t%k<k by omega,if_false];have e:k+t%k-k=t%k:=ω;rw[e];by_cases z:t%k=t / k;·rw[af z,af z.symm]
  ·rw[ae z,ae (iG z)]
 ·intro r o j F;rw[AB k m d h.2,G,jA,rH k _ k r j o F,I r o,jI,af o]
def P9(y:Nat)(h:y<256):aS 1 y=y:=by rw[F4 1 y ω h];simpa using jT 256 _ Fj y h
def Jg(l b:Z0)(L:Nat)(d:l.length=L)(e:b.length=L):jc l (0:UInt8).toNat b=l:=by
 rw[UInt8.toNat_zero];exact Jf l b (by rw[d,e])
def VV(b:Z0)(L:Nat)(d:b.length=L):jc (List.replicate L 0) (1:UInt8).toNat b=b:=by
 rw[UInt8.toNat_one];apply gT;·rw[jc,List.length_zipWith,jX,d,Nat.min_self]
 ·intro t e d;simp only[jc,List.getElem_zipWith,List.getElem_replicate];rw[P9 _ (nH _),UInt8.toNat_zero,Nat.zero_xor,UInt8.ofNat_toNat]
def N8(n i:Nat)(d:List Z0)(L:Nat)(m:i<n)(F:d.length=n)(A:∀p∈d,p.length=L)(j:Nat)(G:j<=n):iM (gK n) n i d L j=if i<j then d.getD i []else List.replicate L 0:=by
 have o:∀q,q<n->(d.getD q []).length=L:=λq I=>by rw[cg _ _ _ ω];exact A _ (bJ _)
 induction j with
 | zero=>rw[ae ω];rfl
 | succ j D=>
  have h:=o j ω;rw[iM,D ω,gK,rH n jP n i j m ω,jP];by_cases e:i=j;·subst e;rw[af rfl,ae ω,af ω];exact VV _ L h
  ·rw[ae e];by_cases z:i<j;·rw[af z,af ω];exact Jg _ _ L (o i m) h
   ·rw[ae z,ae ω];exact Jg _ _ L σ h
def LB(d:List Z0)(L:Nat)(h:∀p∈d,p.length=L):lI (gK d.length) d.length d.length d L=d:=by
 apply gT;·rw[uJ]
 ·intro i m e;rw[zO _ _ _ _ _ i e,N8 _ i d L e rfl h _ (al _),af e,cg _ _ _ e]
def kT(k m c:Nat)(d:List Nat)(l:List Z0):List Z0:=lI (pW (ea (gq k m) k d) k) k k l c
def B4(k m c:Nat)(d:List Nat)(l:List Z0):(kT k m c d l).length=k:=uJ _ _ _ _ _
def Hs(k m c:Nat)(d:List Nat)(l:List Z0)(e:d.length=k)(o:l.length=k)(h:qk d (k+m))(z:∀p∈l,p.length=c)(A:∀r,r<k->d.getD r 0=r):kT k m c d l=l:=by
 unfold kT;rw[R9 k m d e h A,<- o];exact LB l c z
def yk(k m c:Nat)(d:List Nat)(l:List Z0)(o:l.length=k)(e:∀p∈l,p.length=c):∀p∈kT k m c d l,p.length=c:=by
 intro p h;obtain⟨i,_,rfl⟩:=ee.1 h;exact rF _ _ _ _ _ _ e ω
def CB(n m:Nat)(f:Nat->UInt8):xs (n+m) f=xs n f ^^^ xs m (λj=>f (n+j)):=by
 induction m with
 | zero=>simp[xs]
 | succ m d=>rw[<- jq,xs,d,xs,pq]
def S1(A:Nat->Nat->UInt8)(n i N:Nat)(v:Nat->UInt8)(D:i<n)(F:iP A n i<n)(h:∀r,r<n->bN A N r v=0):∀r,r<n->bN (m7 A n i) N r v=0:=by
 have z:∀r,r<n->bN (gU A i (iP A n i)) N r v=0:=λr d=>h (if r=i then iP A n i else if r=iP A n i then i else r) (by split <;> (try split) <;> omega);have o:∀r,r<n->bN (jh A n i) N r v=0:=λr d=>by
  by_cases e:r=i;·subst e;have m:bN (jh A n r) N r v=aT (gl (A (iP A n r) r)) (bN (gU A r (iP A n r)) N r v):=(by unfold bN;rw[wM];exact lH _ _ _ λj _=>by simp[jh,lJ,oO]);rw[m,z r d,lN]
  ·have m:bN (jh A n i) N r v=bN (gU A i (iP A n i)) N r v:=lH _ _ _ λj _=>(by simp[jh,lJ,e]);rw[m,z r d]
 intro r d;by_cases e:r=i;·subst e;have m:bN (m7 A n r) N r v=bN (jh A n r) N r v:=lH _ _ _ λj _=>(by simp[m7,dK]);rw[m,o r d]
 ·have m:bN (m7 A n i) N r v=bN (jh A n i) N r v ^^^ aT (jh A n i r i) (bN (jh A n i) N i v):=(by unfold bN;rw[wM,zB];refine lH _ _ _ λj _=>?_;simp only[m7,dK,d,e,ne_eq,not_false_eq_true,and_self,lF];rw[uC,oO]);rw[m,o r d,o i D,lN];rfl
def S2(A:Nat->Nat->UInt8)(n N:Nat)(v:Nat->UInt8)(d:pd A n)(h:∀r,r<n->bN A N r v=0):∀i,i<=n->∀r,r<n->bN (iL A n i) N r v=0:=by
 intro i
 induction i with
 | zero=>exact λ_=>h
 | succ i e=>exact λm=>S1 _ n i N v ω (GJ A n d i ω).lt (e ω)
def RA(M:Nat->Nat->UInt8)(n:Nat)(D:pd M n)(x:Nat->UInt8)(r:Nat)(d:r<n):xs n (λj=>aT (iL (dB M n) n n r (n+j)) (bN M n j x))=x r:=by
 have o:=IU M n D;have z:=(GK (dB M n) n o n (al _)).1;have F:∀r,r<n->bN (dB M n) (n+n) r (λj=>if j<n then x j else bN M n (j-n) x)=0:=λr d=>by have h:xs n (λj=>aT (dB M n r j) (if j<n then x j else bN M n (j-n) x))=bN M n r x:=lH n _ _ λj e=>(by simp[dB,e]);have G:xs n (λj=>aT (dB M n r (n+j)) (if n+j<n then x (n+j)else bN M n (n+j-n) x))=bN M n r x:=(by rw[sO n r _ d (λj e m=>by simp[dB,m,pF,show ¬n+j<n by omega])];simp[dB,qQ,show ¬n+r<n by omega]);show xs (n+n) _=0;rw[CB,h,G];exact ro
 have A:xs (n+n) (λj=>aT (iL (dB M n) n n r j) (if j<n then x j else bN M n (j-n) x))=0:=S2 _ n (n+n) _ o F n (al _) r d;have h:xs n (λj=>aT (iL (dB M n) n n r j) (if j<n then x j else bN M n (j-n) x))=x r:=by rw[sO n r _ d (λj e m=>by rw[z j e r d,ae (iG m),pF]),z r d r d,af rfl,af d,qQ]
 rw[CB,h]at A;rw[CD A];exact lH _ _ _ λj _=>by rw[ae ω,rr]
def UK(M:Z0)(C i:Nat)(d:List Z0)(n j:Nat):UInt8.ofNat (oX M C i d n j)=xs j λq=>aT (M.getD (i*C+q) 0) ((d.getD q []).getD n 0):=by
 induction j with
 | zero=>rfl
 | succ j e=>rw[oX,xs,<- e,UInt8.ofNat_xor];rfl
def N9(M:Z0)(C i:Nat)(d:List Z0)(L n:Nat)(e:∀p∈d,p.length=L)(hC:C<=d.length)(h:n<L):(iM M C i d L C).getD n 0=xs C λq=>aT (M.getD (i*C+q) 0) ((d.getD q []).getD n 0):=by
 rw[cg _ _ _ (by rw[rF M C i d L C e hC];exact h),NA M C i d L n C e hC h,UK]
def Dj(M:Z0)(C R:Nat)(d:List Z0)(L i n:Nat)(m:∀p∈d,p.length=L)(hC:C<=d.length)(e:i<R)(o:n<L):((lI M C R d L).getD i []).getD n 0=xs C λq=>aT (M.getD (i*C+q) 0) ((d.getD q []).getD n 0):=by
 have h:i<(lI M C R d L).length:=by rw[uJ];exact e
 rw[cg _ _ _ h,zO M C R d L i e h,N9 M C i d L n m hC o]
def QO(a b:List Z0)(k c:Nat)(D:a.length=k)(F:b.length=k)(m:∀p∈a,p.length=c)(o:∀p∈b,p.length=c)(h:∀i,i<k->∀t,t<c->(a.getD i []).getD t 0=(b.getD i []).getD t 0):a=b:=by
 apply gT ω;intro i d e;have G:=m _ (bJ d);have I:=o _ (bJ e);apply gT ω;intro t z A;have:=h i ω t ω;rwa [cg a i [] d,cg b i [] e,cg _ t 0 z,cg _ t 0 A]at this
def TZ(k m c:Nat)(L:k+m<=255)(d:List Nat)(M:d.length=k)(A:qk d (k+m))(o z:List Z0)(O:o.length=k)(Q:∀p∈o,p.length=c)(R:z.length=k)(I:∀p∈z,p.length=c)
  (h:∀r,r<k->∀t,t<c->(z.getD r []).getD t 0=xs k λj=>aT (jI k (d.getD r 0) j) ((o.getD j []).getD t 0)):kT k m c d z=o:=by
 have hP:∀r,r<k->∀j,j<k->jA (ea (gq k m) k d) k r j=jI k (d.getD r 0) j:=λr J j D=>by rw[AB k m d A.2,M];exact rH k _ k r j J D
 have hF:pd (jA (ea (gq k m) k d) k) k:=GM _ _ k (CU k m L (λr=>d.getD r 0) (λr s U V=>A.1 r s U ω) λr J=>by rw[cg _ _ _ ω];exact A.2 _ (bJ _)) hP;refine QO _ _ k c (B4 ..) O (yk k m c d z R I) Q λi F t K=>?_;unfold kT;rw[Dj _ k k z c i t I ω F K,<- RA _ k hF (λj=>(o.getD j []).getD t 0) i F];refine lH _ _ _ λq G=>?_;unfold pW;rw[rH k _ k i q F G,h q G t K];have e:bN (jA (ea (gq k m) k d) k) k q (λj=>(o.getD j []).getD t 0)=xs k λj=>aT (jI k (d.getD q 0) j) ((o.getD j []).getD t 0):=lH _ _ _ λj D=>by rw[hP q G j D]
 rw[e];rfl
def Qq(l:List Nat):Nat:=l.foldl max 0
def O3(d:List Nat)(n:Nat):List Nat:=d.take (d.length-n)++[Qq (d.drop (d.length-n))+1]
