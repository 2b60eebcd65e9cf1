/- Parts of the proof of ArchPacks: SpecL SpecL2 SpecT SpecT2 SpecF SpecI SpecM SpecX SpecLe SpecJ SpecJ2 SpecJ9 Spec28b. -/
import Derived.Test.YtdamnfpigajmoaaGreatDoorM11
set_option linter.unusedVariables false
set_option linter.unusedSectionVars false
set_option linter.unusedSimpArgs false
set_option maxHeartbeats 8000000
namespace Go.Fk
abbrev cWQb:=@Nat.mul_le_mul_right
abbrev eD:=@List.mem_of_mem_take
abbrev eE:=@List.append_assoc
abbrev grQb:=@Nat.min_eq_left
abbrev jw:=@List.getElem_map
abbrev kh:=@List.getElem_range
abbrev jsQb:=@Nat.zero_add
abbrev ot:=@List.filter_cons_of_pos
abbrev ou:=@List.filter_cons_of_neg
abbrev fXQb:=@congrArg
abbrev ow:=@List.count_append
abbrev vN:=@List.length_filter_le
end Go.Fk
namespace Go.Fk
structure It where
 w:UInt64
 leaf:Bool
 syms:List Nat
instance:Inhabited It:=⟨⟨0,false,[]⟩⟩
def bH:List It->List It
 | a::b::l=>⟨a.w+b.w,false,a.syms++b.syms⟩::bH l
 | _=>[]
def bj:List It->List It->List It
 | [],d=>d
 | l::e,[]=>l::e
 | l::e,k::d=>if l.w<=k.w then l::bj e (k::d)else k::bj (l::e) d
termination_by a b=>a.length+b.length
theorem lH(a:List It):bj a []=a:=by cases a <;> simp [bj]
theorem n8(a:List It):bj [] a=a:=by simp [bj]
theorem tW:∀ a b:List It,(bj a b).length=a.length+b.length:=by
 intro a b
 induction a,b using bj.induct with
 | case1 e=>simp [bj]
 | case2 l m=>simp [bj]
 | case3 l m k e h d=>rw [bj,aiQb h,bgQb,d];simp;omega
 | case4 l m k e h d=>rw [bj,ah h,bgQb,d];simp;omega
theorem nx:∀ l:List It,(bH l).length=l.length / 2
 | []=>rfl
 | [_]=>by simp [bH]
 | a::b::l=>by rw [bH,bgQb,nx l];simp only [bgQb];omega
def aJ(d:List It):Nat->List It
 | 0=>d
 | r+1=>bj d (bH (aJ d r))
theorem xS(d:List It)(r:Nat):(aJ d r).length<=2*d.length:=by
 induction r with
 | zero=>simp [aJ];omega
 | succ r e=>rw [aJ,tW,nx];omega
theorem DO(d:List It):∀ r,2*d.length<=(aJ d r).length+(d.length+2 ^ r - 1) / 2 ^ r:=by
 intro r
 induction r with
 | zero=>simp [aJ];omega
 | succ r o=>rw [aJ,tW,nx];have h:(d.length+2 ^ (r+1) - 1) / 2 ^ (r+1)=((d.length+2 ^ r - 1) / 2 ^ r+1) / 2:=(by rw [eA,<- oi];have m:=kf r;have e:d.length+2 ^ r*2 - 1=(d.length+2 ^ r - 1)+2 ^ r*1:=(by omega);rw [e,Nat.add_mul_div_left _ _ m]);rw [h];omega
theorem xT(d:List It)(r:Nat)(h:d.length<=2*2 ^ r):2*d.length - 2<=(aJ d r).length:=by
 have m:=DO d r;have e:=kf r;have o:(d.length+2 ^ r - 1) / 2 ^ r<=2:=by refine Nat.le_of_lt_succ ((vJ e).2 ?_);omega
 omega
def bq(l:List It):Nat:=(l.filter (·.leaf)).length
theorem FS(l:List It):bq l<=l.length:=vN _ _
theorem yE(d:List It)(z:∀ x∈d,x.leaf=true)(o:List It)(A:∀ x∈o,x.leaf=false) :
  ∀ t, t ≤ (bj d o).length → ∃ n m, n + m = t ∧ n ≤ d.length ∧ m ≤ o.length ∧ bq ((bj d o).take t) = n ∧
   ((bj d o).take t).filter (·.leaf)=d.take n/\((bj d o).take t).filter (fun x=>!x.leaf)=o.take m:=by
 induction d,o using bj.induct with
 | case1 o=>intro t y;rw [n8]at *;have D:(o.take t).filter (·.leaf)=[]:=List.filter_eq_nil_iff.2 fun x q=>(by simp [A x (eD q)]);have F:(o.take t).filter (fun x=>!x.leaf)=o.take t:=List.filter_eq_self.2 fun x q=>(by simp [A x (eD q)]);exact⟨0,t,by omega,by simp,y,by rw [bq,D];rfl,by rw [D];simp,F⟩
 | case2 l d=>intro t y;rw [lH]at *;have D:((l::d).take t).filter (·.leaf)=(l::d).take t:=List.filter_eq_self.2 fun x q=>z x (eD q);have F:((l::d).take t).filter (fun x=>!x.leaf)=[]:=List.filter_eq_nil_iff.2 fun x q=>(by simp [z x (eD q)]);exact⟨t,0,by omega,y,by simp,by rw [bq,D,aV];omega,D,by rw [F];simp⟩
 | case3 l d k o h G=>
  intro t y;rw [bj,aiQb h]at *
  cases t with
  | zero=>exact⟨0,0,rfl,by simp,by simp,by simp [bq],by simp,by simp⟩
  | succ t=>
   obtain⟨n,m,O,I,J,K,L,M⟩:=G (fun x q=>z x (by simp [q])) A t (by simpa using y);have e:=z l (by simp);refine⟨n+1,m,by omega,by simpa using I,J,?_,?_,?_⟩;· rw [bq,fj,ot (by exact e),bgQb];exact fXQb (·+1) K
   · rw [fj,ot (by exact e),L,fj]
   · rw [fj,ou (by simp [e]),M]
 | case4 l d k o h G=>
  intro t y;rw [bj,ah h]at *
  cases t with
  | zero=>exact⟨0,0,rfl,by simp,by simp,by simp [bq],by simp,by simp⟩
  | succ t=>
   obtain⟨n,m,O,I,J,K,L,M⟩:=G z (fun x q=>A x (by simp [q])) t (by simpa using y);have e:=A k (by simp);refine⟨n,m+1,by omega,I,by simpa using J,?_,?_,?_⟩;· rw [bq,fj,ou (by simp [e])];exact K
   · rw [fj,ou (by simp [e]),L]
   · rw [fj,ot (by simp [e]),M,fj]
theorem tE:∀ (l:List It),∀ x∈bH l,x.leaf=false
 | [],x,h=>by simp [bH]at h
 | [_],x,h=>by simp [bH]at h
 | a::b::l,x,h=>by
  rw [bH]at h
  rcases fy.1 h with rfl | h
  · rfl
  · exact tE l x h
def bJ(l:List It):List Nat:=(l.map (·.syms)).flatten
theorem ml(x:It)(l:List It):bJ (x::l)=x.syms++bJ l:=rfl
theorem sX(l m:List It):bJ (l++m)=bJ l++bJ m:=by simp [bJ]
theorem yt:∀ (l:List It) (m:Nat),m<=l.length / 2->bJ ((bH l).take m)=bJ (l.take (2*m))
 | [],m,h=>by simp at h;subst h;rfl
 | [_],m,h=>by simp at h;subst h;rfl
 | a::b::l,0,h=>by simp
 | a::b::l,m+1,h=>by
  rw [bH,fj,ml,yt l m (by simp at h;omega),show 2*(m+1)=2*m+2 by omega,fj,fj,ml,ml,eE]
theorem Hn(s:Nat)(l:List It):(bJ l).count s=(bJ (l.filter (·.leaf))).count s+(bJ (l.filter (fun x=>!x.leaf))).count s:=by
 induction l with
 | nil=>rfl
 | cons x l d=>
  rw [ml,ow,d];by_cases h:x.leaf=true;· rw [ot (p:=fun x:It=>x.leaf) h,ou (by simp [h]),ml,ow];omega
  · rw [ou (p:=fun x:It=>x.leaf) h,ot (by simp [h]),ml,ow];omega
def kY(d:List It):Nat->Nat->Nat->Nat
 | 0,t,s=>(bJ (d.take (bq ((aJ d 0).take t)))).count s
 | r+1,t,s=>(bJ (d.take (bq ((aJ d (r+1)).take t)))).count s+kY d r (2*(t - bq ((aJ d (r+1)).take t))) s
theorem zF(d:List It)(h:∀ x∈d,x.leaf=true)(s:Nat):∀ r t,t<=(aJ d r).length->(bJ ((aJ d r).take t)).count s=kY d r t s:=by
  intro r
  induction r with
  | zero=>intro t e;have q:(d.take t).filter (·.leaf)=d.take t:=List.filter_eq_self.2 fun x y=>h x (eD y);have z:t<=d.length:=e;show(bJ (d.take t)).count s=(bJ (d.take (bq (d.take t)))).count s;rw [bq,q,aV,grQb z]
  | succ r A=>intro t e;obtain⟨n,m,I,J,o,D,F,G⟩:=yE d h (bH (aJ d r)) (tE _) t e;rw [nx]at o;show _=(bJ (d.take (bq ((bj d (bH (aJ d r))).take t)))).count s+kY d r (2*(t - bq ((bj d (bH (aJ d r))).take t))) s;rw [D,Hn];show(bJ (((bj d (bH (aJ d r))).take t).filter (·.leaf))).count s+(bJ (((bj d (bH (aJ d r))).take t).filter (fun x=>!x.leaf))).count s=_;rw [F,G,yt _ _ o,show t - n=m by omega,A _ (by omega)]
theorem GV(d:List It)(e:∀ x∈d,x.leaf=true)(r t:Nat)(h:t<=(aJ d (r+1)).length):bq ((aJ d (r+1)).take t)<=t/\bq ((aJ d (r+1)).take t)<=d.length/\2*(t - bq ((aJ d (r+1)).take t))<=(aJ d r).length:=by
 obtain⟨n,m,y,z,o,q,A,D⟩:=yE d e (bH (aJ d r)) (tE _) t h;rw [nx]at o;show bq ((bj d (bH (aJ d r))).take t)<=t/\bq ((bj d (bH (aJ d r))).take t)<=d.length/\2*(t - bq ((bj d (bH (aJ d r))).take t))<=_;rw [q];omega
def dR(d:List It):Nat->Nat->Nat->Nat
 | 0,_,_=>0
 | q+1,t,s=>(bJ (d.take (bq ((aJ d q).take t)))).count s+dR d q (2*(t - bq ((aJ d q).take t))) s
theorem Hg(d:List It)(s:Nat):∀ r t,dR d (r+1) t s=kY d r t s:=by
 intro r
 induction r with
 | zero=>intro t;rw [dR,dR,kY];rfl
 | succ r e=>intro t;rw [dR,e,kY]
theorem Hh(d:List It)(e:∀ x∈d,x.leaf=true)(r t s:Nat)(h:t<=(aJ d r).length):dR d (r+1) t s=(bJ ((aJ d r).take t)).count s:=by
 rw [Hg,<- zF d e s r t h]
theorem FP(l:List It)(k:Nat)(h:k<l.length):bq (l.take (k+1))=bq (l.take k)+if l[k].leaf then 1 else 0:=by
 unfold bq;rw [cL h,List.filter_append,anQb];by_cases c:l[k].leaf=true;· rw [ot (p:=fun x:It=>x.leaf) c,aiQb c];rfl
 · rw [ou (p:=fun x:It=>x.leaf) c,ah c];rfl
theorem CB(l:List It)(k:Nat)(h:k<l.length)(s:Nat)(d:l[k].syms=[s]):bJ (l.take (k+1))=bJ (l.take k)++[s]:=by
 rw [cL h,sX];show _++(l[k].syms++[])=_;rw [d];rfl
theorem yT(d:List It)(m:∀ x∈d,x.leaf=true)(q t:Nat)(h:t<=(aJ d q).length):bq ((aJ d q).take t)<=t/\bq ((aJ d q).take t)<=d.length/\(0<q->2*(t - bq ((aJ d q).take t))<=(aJ d (q - 1)).length):=by
 cases q with
 | zero=>
  have e:=FS (d.take t);rw [aV]at e;refine⟨?_,?_,fun h=>by omega⟩;· show bq (d.take t)<=t;omega
  · show bq (d.take t)<=d.length;omega
 | succ r=>obtain⟨e,o,y⟩:=GV d m r t h;exact⟨e,o,fun _=>y⟩
theorem FQ(l:List It)(j t:Nat)(h:j<=t):bq (l.take j)<=bq (l.take t):=by
 unfold bq;have:l.take j=(l.take t).take j:=by rw [List.take_take,grQb h]
 rw [this];exact List.Sublist.length_le ((List.take_sublist _ _).filter _)
theorem DN(y:List It)(L:Nat)(q:∀ x∈y,x.syms.length<=1/\∀ s∈x.syms,s<L):∀ r,∀ x∈aJ y r,x.syms.length<=2 ^ r/\∀ s∈x.syms,s<L:=by
 have D:∀ a b:List It,∀ x∈bj a b,x∈a\/x∈b:=by
  intro a b
  induction a,b using bj.induct with
  | case1 z=>intro x h;rw [n8]at h;exact .inr h
  | case2 l A=>intro x h;rw [lH]at h;exact .inl h
  | case3 l A k z h e=>
   intro x d;rw [bj,aiQb h]at d;rcases fy.1 d with rfl | d;· exact .inl (by simp)
   · exact(e x d).imp (fun h=>by simp [h]) id
  | case4 l A k z h e=>
   intro x d;rw [bj,ah h]at d;rcases fy.1 d with rfl | d;· exact .inr (by simp)
   · exact(e x d).imp id (fun h=>by simp [h])
 have F:∀ (l:List It) (c:Nat),(∀ x∈l,x.syms.length<=c/\∀ s∈x.syms,s<L)->∀ x∈bH l,x.syms.length<=2*c/\∀ s∈x.syms,s<L:=by
  intro l c
  induction l using bH.induct with
  | case1 a b l e=>
   intro h x d;rw [bH]at d;rcases fy.1 d with rfl | d
   · have m:=h a (by simp);have G:=h b (by simp);refine⟨by rw [anQb];omega,fun s o=>?_⟩;rcases ju.1 o with o | o;· exact m.2 s o
     · exact G.2 s o
   · exact e (fun x d=>h x (by simp [d])) x d
  | case2 l q=>intro _ x d;unfold bH at d;split at d <;> simp_all
 intro r
 induction r with
 | zero=>intro x d;exact⟨by have:=(q x d).1;simpa using this,(q x d).2⟩
 | succ r e=>
  intro x d;rcases D _ _ x d with h | h;· have m:=q x h;exact⟨aqQb m.1 (Nat.one_le_two_pow),m.2⟩
  · have m:=F _ _ e x h;exact⟨by rw [eA];omega,m.2⟩
def gC(l:List UInt8)(d n:Nat):List UInt8:=(List.range n).map fun i=>l.getD (d+i) 0
theorem ry(l:List UInt8)(a n:Nat):(gC l a n).length=n:=by simp [gC]
theorem Hi(l:List UInt8)(a n:Nat):gC l a (n+1)=gC l a n++[l.getD (a+n) 0]:=by simp [gC,jt]
def de(l:List UInt8)(c a k:Nat):List (List UInt8):=(List.range k).map fun i=>gC l (a+i*c) c
theorem mq(l:List UInt8)(c a k:Nat):(de l c a k).length=k:=by simp [de]
theorem EA(l:List UInt8)(c a k:Nat):de l c a (k+1)=de l c a k++[gC l (a+k*c) c]:=by simp [de,jt]
theorem kO(l:List UInt8)(c a k:Nat):∀ p∈de l c a k,p.length=c:=by
 intro p d;simp only [de,gtQb]at d;obtain⟨i,_,rfl⟩:=d;exact ry _ _ _
def cN(d:List (List UInt8)):List UInt8:=(d.map ay).flatten
theorem t5(d:List (List UInt8))(p:List UInt8):cN (d++[p])=cN d++ay p:=by simp [cN]
theorem Et(a b:List (List UInt8)):cN (a++b)=cN a++cN b:=by simp [cN]
theorem fp(p:List UInt8):(ay p).length=p.length+4:=by simp [ay]
theorem no(d:List (List UInt8))(c:Nat)(h:∀ p∈d,p.length=c):(cN d).length=d.length*(c+4):=by
 induction d with
 | nil=>simp [cN]
 | cons p d e=>have:cN (p::d)=ay p++cN d:=(by simp [cN]);rw [this,anQb,fp,e (fun q m=>h q (List.mem_cons_of_mem _ m)),h p (List.mem_cons_self ..),bgQb,crQb];omega
def kt(l:List UInt8)(n:Nat):List UInt8:=l++(List.replicate n 0).drop l.length
theorem tF(l:List UInt8)(n:Nat)(h:l.length<=n):(kt l n).length=n:=by simp [kt];omega
theorem EG(l:List UInt8)(n i:Nat):(kt l n).getD i 0=l.getD i 0:=by
 unfold kt;rw [cD,cD];by_cases h:i<l.length;· rw [vRQb h]
 · rw [vQQb (by omega),gJ (l:=l) (by omega),List.getElem?_drop,List.getElem?_replicate];split <;> rfl
theorem EB(l:List UInt8)(n A d j c:Nat)(m:l.length<=n)(q:A+d<=n)(y:j+c<=d):((((kt l n).drop A).take d).drop j).take c=gC l (A+j) c:=by
  have h:=tF l n m;apply kL;· rw [ry,aV,bN,aV,bN,h];omega
  · intro i z o;rw [ry]at o;have e:=EG l n (A+j+i);rw [kA _ _ _ (by rw [h];omega)]at e;simp only [gC,rX,rY,jw,kh];rw [<- e];congr 1;omega
def tV(a b:UInt8):UInt8:=UInt8.ofNat (aO a.toNat b.toNat)
def zc(a:UInt8):UInt8:=UInt8.ofNat (if a.toNat=0 then 0 else fT a.toNat)
def B2:List UInt8->UInt8
 | []=>0
 | x::l=>x ^^^ B2 l
def xs:Nat->(Nat->UInt8)->UInt8
 | 0,_=>0
 | n+1,f=>xs n f ^^^ f n
def yo(A:Nat->Nat->UInt8)(c:Nat):Nat->Nat->Nat
 | 0,p=>p
 | f+1,p=>if A p c=0 then yo A c f (p+1)else p
def nu(A:Nat->Nat->UInt8)(n i:Nat):Nat:=yo A i (n - i) i
def qu(A:Nat->Nat->UInt8)(i p:Nat):Nat->Nat->UInt8:=fun r j=>A (if r=i then p else if r=p then i else r) j
def D8(A:Nat->Nat->UInt8)(i:Nat)(c:UInt8):Nat->Nat->UInt8:=fun r j=>if r=i then tV c (A i j)else A r j
def GN(A:Nat->Nat->UInt8)(i K:Nat):Nat->Nat->UInt8:=fun r j=>if r<K/\r≠i then A r j ^^^ tV (A r i) (A i j)else A r j
def D7(A:Nat->Nat->UInt8)(n i:Nat):Nat->Nat->UInt8:=D8 (qu A i (nu A n i)) i (zc (A (nu A n i) i))
def Dg(A:Nat->Nat->UInt8)(n i:Nat):Nat->Nat->UInt8:=GN (D7 A n i) i n
def te(A:Nat->Nat->UInt8)(n:Nat):Nat->Nat->Nat->UInt8
 | 0=>A
 | i+1=>Dg (te A n i) n i
structure Ld (A:Nat->Nat->UInt8) (n i:Nat):Prop where
 ge:i<=nu A n i
 lt:nu A n i<n
 ne:A (nu A n i) i≠0
 zero:∀ q,i<=q->q<nu A n i->A q i=0
def Ha(A:Nat->Nat->UInt8)(n r:Nat)(v:Nat->UInt8):UInt8:=xs n fun j=>tV (A r j) (v j)
def LV(A:Nat->Nat->UInt8)(n i:Nat):Prop:=∀ c,c<i->∀ r,r<n->A r c=if r=c then 1 else 0
def Ma(A:Nat->Nat->UInt8)(n:Nat):Prop:=∀ v:Nat->UInt8,(∀ r,r<n->Ha A n r v=0)->∀ j,j<n->v j=0
def A7(M:Nat->Nat->UInt8)(n:Nat):Nat->Nat->UInt8:=fun r j=>if j<n then M r j else if j - n=r then 1 else 0
def BP(k t j:Nat):UInt8:=if t<k then(if t=j then 1 else 0)else zc (UInt8.ofNat (t ^^^ j))
def tA(C:Nat)(f:Nat->Nat->UInt8)(n:Nat):List UInt8:=(List.range n).map fun t=>f (t / C) (t % C)
def gM(C:Nat)(f:Nat->Nat->UInt8)(i:Nat):List UInt8:=(List.range C).map (f i)
theorem DM(C:Nat)(f:Nat->Nat->UInt8)(i:Nat):(gM C f i).length=C:=by simp [gM]
def LO(f:Nat->Nat->UInt8)(i:Nat)(g:Nat->UInt8):Nat->Nat->UInt8:=fun r j=>if r=i then g j else f r j
def Aj(M:List UInt8)(C:Nat):Nat->Nat->UInt8:=fun r j=>M.getD (r*C+j) 0
def ET(i j:Nat):UInt8:=if i=j then 1 else 0
def LR(n:Nat):List UInt8:=tA n ET (n*n)
def BR(k m:Nat):List UInt8:=tA k (BP k) ((k+m)*k)
def E8(M:List UInt8)(C:Nat)(d:List Nat):List UInt8:=(d.map fun r=>(M.take ((r+1)*C)).drop (r*C)).flatten
def Gh(M:List UInt8)(n:Nat):Nat->Nat->UInt8:=fun r j=>te (A7 (Aj M n) n) n n r (n+j)
def Gg(M:List UInt8)(n:Nat):List UInt8:=tA n (Gh M n) (n*n)
def LZ(M:List UInt8)(n:Nat):Prop:=∀ i,i<n->Ld (te (A7 (Aj M n) n) n i) n i
def LW(d:List Nat)(n:Nat):Prop:=(∀ r s,r<s->s<d.length->d.getD r 0<d.getD s 0)/\∀ r∈d,r<n
def LS(k m c:Nat)(d:List Nat)(l:List (List UInt8)):List (List UInt8):=j6 (Gg (E8 (BR k m) k d) k) k k l c
def iE(l:List UInt8):Bool:=decide (4<=l.length) && decide (ay (l.take (l.length - 4))=l)
def eN(l:List UInt8):List UInt8:=if iE l then l.take (l.length - 4)else []
def fw(l:List UInt8):Nat:=if iE l then 0 else if l.length<4 then 1 else 5
def bS(l:List UInt8):Nat × Nat:=
 if l.length<=4 then(0,1)else if l.take 4=[70,73,82,75]then(if 1<=(l.getD 4 0).toNat/\(l.getD 4 0).toNat<=3 then((l.getD 4 0).toNat,0)else(0,4))else(0,3)
def jX(l:List UInt8):Bool:=iE l && decide (bS l=(3,0))
def ue:List UInt8->Nat
 | []=>0
 | b::l=>b.toNat+256*ue l
theorem yV(x b k:Nat)(h:x<2 ^ k):x ||| (b*2 ^ k)=x+b*2 ^ k:=by
 have:=Nat.two_pow_add_eq_or_of_lt h b;rw [Nat.or_comm,fK b,<- this,Nat.add_comm]
def eL(i:Nat)(x:Nat):List UInt8->Nat × Nat × Nat
 | []=>(0,0,1)
 | c::t=>if(i=9/\¬c.toNat=1)\/(0<i/\c.toNat=0)then(0,0,2)else if c.toNat<128 then(x+c.toNat % 128*128 ^ i,i+1,0)else eL (i+1) (x+c.toNat % 128*128 ^ i) t
def cI(l:List UInt8):Nat × Nat × Nat:=eL 0 0 l
theorem y9(l:List UInt8):∀ (i x:Nat),i<=9->x<128 ^ i->(eL i x l).1<18446744073709551616/\((eL i x l).2.2=0->i<(eL i x l).2.1/\(eL i x l).2.1<=i+l.length/\(eL i x l).2.1<=10)/\(¬(eL i x l).2.2=0->(eL i x l).1=0/\(eL i x l).2.1=0/\(eL i x l).2.2<=2):=by
 induction l with
 | nil=>intro i x y e;simp [eL]
 | cons c t m=>
  intro i x y e;unfold eL;split;· simp
  · rename_i z;have A:c.toNat % 128<128:=jM _ (by omega);have o:x+c.toNat % 128*128 ^ i<128 ^ (i+1):=(by have:c.toNat % 128*128 ^ i<=127*128 ^ i:=cWQb _ (by omega);rw [eA];omega);by_cases D:i=9
    · have F:c.toNat=1:=(by omega);subst D;rw [aiQb (by omega),F];have d:(128:Nat) ^ 9=9223372036854775808:=(by decide);rw [d]at e;refine⟨?_,?_,?_⟩;· have q:x+1 % 128*128 ^ 9=x+9223372036854775808:=(by rw [d]);show x+1 % 128*128 ^ 9<_;rw [q];clear o A d q z m;omega
      · intro _;show 9<9+1/\9+1<=9+(c::t).length/\9+1<=10;simp only [bgQb];omega
      · intro h;exact absurd rfl h
    · have K:(128:Nat) ^ (i+1)<=128 ^ 9:=eC (by omega) (by omega);have d:(128:Nat) ^ 9=9223372036854775808:=(by decide);split
      · refine⟨?_,?_,?_⟩;· show x+c.toNat % 128*128 ^ i<_;omega
        · intro _;simp;omega
        · intro h;simp at h
      · obtain⟨G,I,J⟩:=m (i+1) _ (by omega) o;refine⟨G,fun h=>?_,J⟩;obtain⟨a,b,c⟩:=I h;refine⟨by omega,?_,c⟩;simp only [bgQb];omega
theorem y8(l:List UInt8):(cI l).1<18446744073709551616:=(y9 l 0 0 (by omega) (by simp)).1
theorem tR(l:List UInt8)(h:(cI l).2.2=0):0<(cI l).2.1/\(cI l).2.1<=l.length/\(cI l).2.1<=10:=by
 have:=(y9 l 0 0 (by omega) (by simp)).2.1 h;rw [jsQb]at this;exact this
def ax(d:Nat)(l:List UInt8):Nat × Nat × Nat:=
 if(cI l).2.2=0 then(if d<(cI l).1 then(0,0,6)else cI l)else(0,0,(cI l).2.2)
theorem oQ(d:Nat)(l:List UInt8)(h:(ax d l).2.2=0):0<(ax d l).2.1/\(ax d l).2.1<=l.length/\(ax d l).1<=d:=by
 unfold ax at *;split at h
 · rename_i e;split at h;· simp at h
   · rename_i m;rw [aiQb e,ah m];have:=tR l e;omega
 · rename_i e;exact absurd h e
structure Cs where
 at_:Nat
 er:Nat
def Cs.step(s:Cs)(r:Nat × Nat × Nat):Cs:=if s.er=0 then(if r.2.2=0 then⟨s.at_+r.2.1,0⟩else⟨s.at_,r.2.2⟩)else s
def Cs.val(s:Cs)(r:Nat × Nat × Nat):Nat:=if s.er=0/\r.2.2=0 then r.1 else 0
def Cs.num(s:Cs)(l:List UInt8):Nat × Cs:=(s.val (cI (l.drop s.at_)),s.step (cI (l.drop s.at_)))
def Cs.int(s:Cs)(l:List UInt8)(d:Nat):Nat × Cs:=(s.val (ax d (l.drop s.at_)),s.step (ax d (l.drop s.at_)))
def Cs.fail(s:Cs)(e:Nat):Cs:=if s.er=0 then⟨s.at_,e⟩else s
def Cs.fin(s:Cs)(l:List UInt8):Cs:=if s.er=0/\s.at_<l.length then⟨s.at_,2⟩else s
def Cs.take(s:Cs)(l:List UInt8)(k:Nat):List UInt8 × Cs:=
 if s.er=0 then(if l.length<s.at_+k then([],⟨s.at_,1⟩)else((l.drop s.at_).take k,⟨s.at_+k,0⟩))else([],s)
def Cs.byte(s:Cs)(l:List UInt8):Nat × Cs:=((((s.take l 1).1).getD 0 0).toNat,(s.take l 1).2)
def Cs.fixed(s:Cs)(l:List UInt8)(k:Nat):Nat × Cs:=(ue (s.take l k).1,(s.take l k).2)
def fo(d:Nat)(l:List UInt8):List UInt8 × Nat × Nat:=
 if(ax d l).2.2=0 then(if l.length<(ax d l).2.1+(ax d l).1 then([],0,1)else((l.drop (ax d l).2.1).take (ax d l).1,(ax d l).2.1+(ax d l).1,0))else([],0,(ax d l).2.2)
def Cs.text(s:Cs)(l:List UInt8)(d:Nat):List UInt8 × Cs:=
 (if s.er=0 then(fo d (l.drop s.at_)).1 else [],s.step (0,(fo d (l.drop s.at_)).2))
theorem sI(d:Nat)(l:List UInt8)(h:(fo d l).2.2=0):0<(fo d l).2.1/\(fo d l).2.1<=l.length/\(fo d l).1.length<=d:=by
 unfold fo at *;split at h
 · rename_i e;split at h;· simp at h
   · rename_i m;rw [aiQb e,ah m];have:=oQ d l e;refine⟨?_,?_,?_⟩;· show 0<(ax d l).2.1+(ax d l).1;omega
     · show(ax d l).2.1+(ax d l).1<=_;omega
     · show(List.take _ _).length<=_;rw [aV];omega
 · rename_i e;exact absurd h e
theorem Cs.step_le(s:Cs)(r:Nat × Nat × Nat)(n:Nat)(h:s.at_<=n)(d:r.2.2=0->r.2.1<=n - s.at_):(s.step r).at_<=n:=by
 unfold Cs.step;split
 · split;· rename_i e;have:=d e;show s.at_+_<=n;omega
   · exact h
 · exact h
theorem Cs.num_le(s:Cs)(l:List UInt8)(h:s.at_<=l.length):(s.num l).2.at_<=l.length:=
 s.step_le _ _ h fun e=>by have:=tR _ e;rw [bN]at this;omega
theorem Cs.int_le(s:Cs)(l:List UInt8)(d:Nat)(h:s.at_<=l.length):(s.int l d).2.at_<=l.length:=
 s.step_le _ _ h fun e=>by have:=oQ _ _ e;rw [bN]at this;omega
theorem Cs.text_le(s:Cs)(l:List UInt8)(m:Nat)(h:s.at_<=l.length):(s.text l m).2.at_<=l.length:=
 s.step_le _ _ h fun e=>by have d:=(sI _ _ e).2.1;rw [bN]at d;exact d
theorem Cs.take_le(s:Cs)(l:List UInt8)(k:Nat)(h:s.at_<=l.length):(s.take l k).2.at_<=l.length:=by
 unfold Cs.take;split
 · split;· exact h
   · show s.at_+k<=_;omega
 · exact h
def uG(l:List UInt8)(i:Nat):Nat:=(l.getD (i / 8) 0).toNat / 2 ^ (7 - i % 8) % 2
def LN(l:List UInt8):List UInt8:=(List.range (8*l.length)).map fun i=>UInt8.ofNat (uG l i)
def dL(l:List UInt8)(a:Nat):Nat->Nat
 | 0=>0
 | n+1=>2*dL l a n+uG l (a+n)
def wE(l:List UInt8):Nat->Nat->Option Nat
 | 0,_=>none
 | f+1,i=>if uG l i=1 then some i else wE l f (i+1)
def mg(l:List UInt8)(a:Nat):Nat × Nat × Nat:=
 match wE l (8*l.length - a) a with
 | some i=>(i - a,i+1,0)
 | none=>(0,a,1)
def nL(h w:Nat)(r:List UInt8):Nat->Nat->Nat->Nat->Nat->List Nat->List Nat × Nat × Nat
 | 0,_,a,_,_,e=>(e,a,0)
 | k+1,i,a,d,m,e=>
  if (mg r a).2.2 = 0 then
   (if (d + (mg r a).1) * 2 ^ w + dL r (w * i) w < m then ([], 0, 2)
    else if h ≤ (d + (mg r a).1) * 2 ^ w + dL r (w * i) w then ([], 0, 8)
    else nL h w r k (i + 1) (mg r a).2.1 (d + (mg r a).1) ((d + (mg r a).1) * 2 ^ w + dL r (w * i) w + 1) (e ++ [(d + (mg r a).1) * 2 ^ w + dL r (w * i) w]))
  else([],0,1)
def EI(r:List UInt8)(a:Nat):Bool:=decide (dL r a ((8 - a % 8) % 8)=0)
def pf(d:Nat)(b:List UInt8):List Nat × Nat × Nat:=
 if (ax d b).2.2 = 0 then
  (if (ax d b).1 = 0 then ([], (ax d b).2.1, 0)
   else if 8 * (b.drop (ax d b).2.1).length < (ax d b).1 * Nat.log2 (d / (ax d b).1) then ([], 0, 1)
   else if (nL d (Nat.log2 (d / (ax d b).1)) (b.drop (ax d b).2.1) (ax d b).1 0 ((ax d b).1 * Nat.log2 (d / (ax d b).1)) 0 0 []).2.2 = 0 then
    (if EI (b.drop (ax d b).2.1) (nL d (Nat.log2 (d / (ax d b).1)) (b.drop (ax d b).2.1) (ax d b).1 0 ((ax d b).1 * Nat.log2 (d / (ax d b).1)) 0 0 []).2.1 then
     ((nL d (Nat.log2 (d / (ax d b).1)) (b.drop (ax d b).2.1) (ax d b).1 0 ((ax d b).1 * Nat.log2 (d / (ax d b).1)) 0 0 []).1,
      (ax d b).2.1 + ((nL d (Nat.log2 (d / (ax d b).1)) (b.drop (ax d b).2.1) (ax d b).1 0 ((ax d b).1 * Nat.log2 (d / (ax d b).1)) 0 0 []).2.1 + 7) / 8, 0)
     else ([], 0, 2))
   else ([], 0, (nL d (Nat.log2 (d / (ax d b).1)) (b.drop (ax d b).2.1) (ax d b).1 0 ((ax d b).1 * Nat.log2 (d / (ax d b).1)) 0 0 []).2.2))
 else([],0,(ax d b).2.2)
def Gw(d:List UInt8)(x e s:Nat):Bool:=
 decide (0<eH d s) && decide (eH d s<=e) && decide (x / 2 ^ (15 - eH d s)=bp d (eH d s) s)
def Gv(d:List UInt8)(x e:Nat):Option Nat:=(List.range d.length).find? (Gw d x e)
def ED(d:List UInt8)(y l:Nat):Bool:=(List.range d.length).any fun s=>decide (l<eH d s) && decide (bp d (eH d s) s / 2 ^ (eH d s - l)=y)
def Fz(l:List Nat):Nat:=l.foldl max 0
def Ez(d:List Nat)(n:Nat):List Nat:=d.take (d.length - n)++[Fz (d.drop (d.length - n))+1]
end Go.Fk
