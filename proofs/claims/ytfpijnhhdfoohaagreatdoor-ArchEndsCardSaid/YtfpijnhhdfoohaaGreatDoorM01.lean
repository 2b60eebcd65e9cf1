/- Parts of the proof of ArchEnds: Spec15 SpecWd SpecV SpecJ3 SpecJa Up Spec28 SpecP. -/
import Derived.WalkKit
import Derived.Test.YtfpijnhhdfoohaaGreatDoorM00
set_option linter.unusedVariables false
set_option linter.unusedSectionVars false
set_option linter.unusedSimpArgs false
set_option maxHeartbeats 8000000
namespace Go.Fk
abbrev lQQb:=@Option.some.injEq
abbrev lh:=@List.length_nil
abbrev rz:=@List.lt_irrefl
end Go.Fk
namespace Go.Fk
def iR(c:UInt8):Bool:=decide (65<=c.toNat/\c.toNat<=90) || decide (97<=c.toNat/\c.toNat<=122) || decide (48<=c.toNat/\c.toNat<=57)
def sm(c:UInt8):UInt8:=if 65<=c.toNat/\c.toNat<=90 then c+32 else c
def SQ(c:UInt8):UInt8:=if iR c then sm c else 0
def um(l:List UInt8):Option (List UInt8):=if l≠[]/\l.length<=24/\l.all iR=true then some (l.map sm)else none
theorem CC(c:UInt8):iR c=true↔(65<=c.toNat/\c.toNat<=90)\/(97<=c.toNat/\c.toNat<=122)\/(48<=c.toNat/\c.toNat<=57):=by
 simp only [iR,Bool.or_eq_true,fx];omega
theorem MD(c:UInt8):iR c=false↔¬((65<=c.toNat/\c.toNat<=90)\/(97<=c.toNat/\c.toNat<=122)\/(48<=c.toNat/\c.toNat<=57)):=by
 rw [<- CC];simp
theorem ID(c:UInt8):(sm c).toNat=if 65<=c.toNat/\c.toNat<=90 then c.toNat+32 else c.toNat:=by
 unfold sm;split;· rw [UInt8.toNat_add];have:(32:UInt8).toNat=32:=rfl;rw [this];omega
 · rfl
def Cb(g:List UInt8->Bool)(d:List UInt8):List UInt8:=if g ((d.map sm).take 24)then List.replicate d.length 42 else d
def Cd(g:List UInt8->Bool):List UInt8->List UInt8->List UInt8
 | d,[]=>Cb g d
 | d,c::r=>if iR c then Cd g (d++[c]) r else Cb g d++c::Cd g [] r
def Cc(g:List UInt8->Bool):List UInt8->List UInt8->Nat
 | d,[]=>if d≠[]/\g ((d.map sm).take 24)=true then 1 else 0
 | d,c::r=>if iR c then Cc g (d++[c]) r else(if d≠[]/\g ((d.map sm).take 24)=true then 1 else 0)+Cc g [] r
def gA:List UInt8->List UInt8->List (List UInt8)
 | d,[]=>if d=[]then []else [(d.map sm).take 24]
 | d,c::r=>if iR c then gA (d++[c]) r else(if d=[]then []else [(d.map sm).take 24])++gA [] r
def gU(l:List UInt8):List (List UInt8):=gA [] l
def SR(d:List UInt8):List (List UInt8):=if d=[]then []else [(d.map sm).take 24]
def nz:List UInt8->List UInt8
 | []=>[]
 | c::s=>if iR c then sm c::nz s else []
def iq:Bool->List UInt8->List (List UInt8)
 | _,[]=>[]
 | d,c::s=>if iR c then(if d then iq true s else(nz (c::s)).take 24::iq true s)else iq false s
theorem FC(s:List UInt8):gA [] s=iq false s/\∀ m,m≠[]->gA m s=(m.map sm++nz s).take 24::iq true s:=by
 induction s with
 | nil=>refine⟨by simp [gA,iq],fun m h=>?_⟩;simp [gA,h,iq,nz]
 | cons c s o=>
  by_cases d:iR c=true
  · have e:nz (c::s)=sm c::nz s:=(by rw [nz,agQb d]);refine⟨?_,fun m h=>?_⟩;· rw [gA,agQb d,iq,agQb d,e,o.2 _ (by simp)];simp
    · rw [gA,agQb d,iq,agQb d,e,o.2 _ (by simp)];simp
  · refine⟨by simp [gA,iq,d,o.1],fun m h=>?_⟩;simp [gA,h,iq,nz,d,o.1]
theorem zO(s:List UInt8):gU s=iq false s:=(FC s).1
theorem F3(s:List UInt8):∀ b,(iq b s).length<=s.length:=by
 induction s with
 | nil=>intro b;simp [iq]
 | cons c s d=>
  intro b;rw [iq];have e:=d false;have h:=d true;split;· split <;> simp <;> omega
  · simp;omega
theorem F4(s:List UInt8):∀ b,∀ w∈iq b s,1<=w.length/\w.length<=24:=by
 induction s with
 | nil=>intro b w h;simp [iq]at h
 | cons c s d=>
  intro b w h;rw [iq]at h;split at h
  · rename_i e;split at h;· exact d true w h
    · rcases jW.1 h with rfl | h;· rw [nz,agQb e,iY,cdQb,aG];omega
      · exact d true w h
  · exact d false w h
theorem zP(s:List UInt8):∀ w∈gU s,1<=w.length/\w.length<=24:=by rw [zO];exact F4 s false
theorem tI(s:List UInt8):(gU s).length<=s.length:=by rw [zO];exact F3 s false
theorem xP{a b:List UInt8}(h:a<=b):a<b\/a=b:=by
 by_cases d:a<b;· exact .inl d
 · exact .inr (List.le_antisymm h (List.not_lt.1 d))
def kf:List (List UInt8)->List UInt8->List (List UInt8)
 | [],s=>[s]
 | t::l,s=>if t<s then t::kf l s else if t=s then t::l else s::t::l
abbrev kY(l:List (List UInt8)):Prop:=l.Pairwise (·<·)
theorem Bt(l:List (List UInt8))(s x:List UInt8):x∈kf l s↔x∈l\/x=s:=by
 induction l with
 | nil=>simp [kf]
 | cons t l d=>
  rw [kf];split;· simp [d,or_assoc]
  · split;· rename_i h;subst h;simp;intro e;exact .inl e
    · simp;constructor;· rintro(h | h | h) <;> simp [h]
      · rintro((h | h) | h) <;> simp [h]
theorem JN(l:List (List UInt8))(s:List UInt8)(h:kY l):kY (kf l s):=by
 induction l with
 | nil=>simp [kf]
 | cons t l o=>
  obtain⟨e,q⟩:=qh.1 h;rw [kf];split
  · rename_i z;refine qh.2 ⟨fun x d=>?_,o q⟩;rcases(Bt l s x).1 d with d | rfl;· exact e x d
    · exact z
  · split;· exact h
    · rename_i A B;have m:s<t:=by
       rcases xP (List.not_lt.1 A)with h | h;· exact h
       · exact absurd h.symm B
      refine qh.2 ⟨fun x d=>?_,h⟩;rcases jW.1 d with rfl | d;· exact m
      · exact List.lt_trans m (e x d)
theorem Jy(l m:List (List UInt8))(d:kY l)(o:kY m)(h:∀ x,x∈l↔x∈m):l=m:=by
 have q:∀ l:List (List UInt8),kY l->l.Nodup:=fun l h=>h.imp fun {a b} z e=>by subst e;exact rz _ z
 have A:l.Perm m:=(List.perm_ext_iff_of_nodup (q l d) (q m o)).2 h;exact A.eq_of_pairwise (fun _ _ _ _ h k=>absurd (List.lt_trans h k) (rz _)) d o
def mN(l d:List (List UInt8)):List (List UInt8):=d.foldl kf l
theorem wW(d:List (List UInt8)):∀ l,kY l->kY (mN l d):=by
 induction d with
 | nil=>intro l h;exact h
 | cons w d e=>intro l h;exact e _ (JN l w h)
theorem wX(d:List (List UInt8)):∀ l x,x∈mN l d↔x∈l\/x∈d:=by
 induction d with
 | nil=>intro l x;simp [mN]
 | cons w d e=>intro l x;show x∈mN (kf l w) d↔_;rw [e,Bt,jW,or_assoc]
def cz:List (List UInt8)->List (List UInt8)
 | []=>[]
 | [a]=>[a]
 | a::b::l=>if a=b then cz (b::l)else a::cz (b::l)
theorem uE:∀ (l:List (List UInt8)) (x:List UInt8),x∈cz l↔x∈l
 | [],x=>by simp [cz]
 | [a],x=>by simp [cz]
 | a::b::l,x=>by
  rw [cz]
  split
  · rename_i h;subst h;rw [uE];simp
  · rw [jW,uE,jW (a:=x) (b:=a)]
theorem yt:∀ (l:List (List UInt8)),l.Pairwise (·<=·)->kY (cz l)
 | [],_=>by simp [cz]
 | [a],_=>by simp [cz]
 | a::b::l,h=>by
  obtain⟨o,d⟩:=qh.1 h
  rw [cz]
  split
  · exact yt _ d
  · rename_i q
    refine qh.2 ⟨fun x e=>?_,yt _ d⟩
    have m:a<b:=by
     rcases xP (o b (by simp))with h | h
     · exact h
     · exact absurd h q
    rcases jW.1 ((uE _ x).1 e)with rfl | e
    · exact m
    · have z:=(qh.1 d).1 x e
      rcases xP z with h | h
      · exact List.lt_trans m h
      · subst h;exact m
theorem Pd(l d:List (List UInt8))(e:l.Pairwise (·<=·))(h:l.Perm d):cz l=mN [] d:=
 Jy _ _ (yt l e) (wW d [] List.Pairwise.nil) fun x=>by
  rw [uE,wX,h.mem_iff];simp
def om(d e:List UInt8):List (List UInt8):=mN [] (gU d++(gU e).map fun w=>64::w)
theorem GV(a b:List UInt8):kY (om a b):=wW _ _ List.Pairwise.nil
theorem JO(l:List (List UInt8))(s:List UInt8):(kf l s).length<=l.length+1:=by
 induction l with
 | nil=>simp [kf]
 | cons t l d=>
  rw [kf];split;· simp;omega
  · split <;> simp
theorem Bp(d:List (List UInt8)):∀ l,(mN l d).length<=l.length+d.length:=by
 induction d with
 | nil=>intro l;simp [mN]
 | cons w d e=>intro l;have h:=e (kf l w);have m:=JO l w;show(mN (kf l w) d).length<=_;rw [cdQb];omega
def mr(e:UInt8)(n:Nat)(d:List UInt8):List UInt8:=fV (([e]++bI n++bI d.length)++d)
theorem CY(e:UInt8)(n:Nat)(d:List UInt8)(h:n<18446744073709551616)(m:d.length<18446744073709551616):(mr e n d).length<=d.length+25:=by
 have o:=jI n h;have q:=jI d.length m;unfold mr fV;simp only [aDQb,cdQb,lh];omega
def kK:List UInt8->List UInt8->Nat
 | a::l,b::m=>if a=b then kK l m+1 else 0
 | _,_=>0
theorem AX:∀ (a b:List UInt8) (n:Nat),n<=a.length->n<=b.length->(∀ i,i<n->a[i]?=b[i]?)->(n<a.length->n<b.length->a[n]?≠b[n]?)->kK a b=n
 | [],b,n,d,_,_,_=>by simp at d;simp [kK,d]
 | a::l,[],n,_,e,_,_=>by simp at e;simp [kK,e]
 | a::l,b::m,n,d,e,h,o=>by
  rw [kK]
  cases n with
  | zero=>
   have:=o (by simp) (by simp)
   rw [ae (by simpa using this)]
  | succ n=>
   have q:=h 0 (by omega)
   rw [agQb (by simpa using q),AX l m n (by simpa using d) (by simpa using e) (fun i B=>by have:=h (i+1) (by omega);simpa using this) (fun z A=>by have:=o (by simpa using z) (by simpa using A);simpa using this)]
def Ed:List UInt8->List (List UInt8)->List UInt8
 | _,[]=>[]
 | d,s::l=>(bI (kK d s)++lw (s.drop (kK d s)))++Ed s l
def Ee:List (List UInt8)->List UInt8
 | []=>[]
 | s::l=>lw s++Ed s l
def nE(d s:List UInt8):Bool:=decide (¬s=[]) && decide (s.length<=25) && decide (d<s)
def kh(d:Cs)(part e:List UInt8)(first:Bool):Nat × Cs:=if first then(0,d)else d.int part e.length
def jj(d:Cs)(part e:List UInt8)(first:Bool):List UInt8 × Cs:=(kh d part e first).2.text part 25
def lD(d:Cs)(part e:List UInt8)(first:Bool):List UInt8:=e.take (kh d part e first).1++(jj d part e first).1
def pG(d:Cs)(part e:List UInt8)(first:Bool):Bool:=
 decide (¬(jj d part e first).1=[]) && nE e (lD d part e first) && (first || decide (kK e (lD d part e first)=(kh d part e first).1))
def iQ(d:Cs)(part e:List UInt8)(first:Bool):Cs:=
 if(jj d part e first).2.er=0/\pG d part e first=false then⟨(jj d part e first).2.at_,2⟩else(jj d part e first).2
def gk(part:List UInt8):Nat->Nat->Cs->List (List UInt8)->List (List UInt8) × Nat
 | 0,_,d,t=>(t,(d.fin part).er)
 | k+1,i,d,t=>
  if(iQ d part (t.getLastD []) (decide (i=0))).er=0 then gk part k (i+1) (iQ d part (t.getLastD []) (decide (i=0))) (t++[lD d part (t.getLastD []) (decide (i=0))])
  else(t,(iQ d part (t.getLastD []) (decide (i=0))).er)
def fR(b:List UInt8):Nat->Cs->List Nat->List Nat × Cs
 | 0,s,l=>(l,s)
 | k+1,s,l=>if s.er=0 then fR b k (s.int b 2000).2 (l++[(s.int b 2000).1])else(l,s)
def fq(b:List UInt8)(size n:Nat):List Nat->Nat->Cs->List (List UInt8)->List (List UInt8) × Cs × Nat
 | [],_,s,t=>(t,s,s.er)
 | k::r,i,s,t=>
  if (s.take b k).2.er = 0 then
   (if (gk (s.take b k).1 (min size (n - i * size)) 0 ⟨0, 0⟩ t).2 = 0 then fq b size n r (i + 1) (s.take b k).2 (gk (s.take b k).1 (min size (n - i * size)) 0 ⟨0, 0⟩ t).1
    else ([], (s.take b k).2, (gk (s.take b k).1 (min size (n - i * size)) 0 ⟨0, 0⟩ t).2))
  else([],(s.take b k).2,(s.take b k).2.er)
def dA(b:List UInt8):Nat × Cs:=(⟨0,0⟩:Cs).int b 1048576
def nI(size:Nat)(b:List UInt8):List Nat × Cs:=fR b (((dA b).1+size - 1) / size) (dA b).2 []
def uB(size:Nat)(b:List UInt8):List (List UInt8) × Cs × Nat:=fq b size (dA b).1 (nI size b).1 0 (nI size b).2 []
def co(size:Nat)(b:List UInt8):List (List UInt8) × Nat × Nat:=
 if(uB size b).2.2=0 then((uB size b).1,(uB size b).2.1.at_,0)else([],0,(uB size b).2.2)
def fp(d:Nat)(b:List UInt8):Nat->Nat->List (List Nat)->List (List Nat) × Nat
 | 0,a,e=>if a<b.length then([],2)else(e,0)
 | k+1,a,e=>
  if (dX d (b.drop a)).2.2 = 0 then
   (if(dX d (b.drop a)).1=[]then([],2)else fp d b k (a+(dX d (b.drop a)).2.1) (e++[(dX d (b.drop a)).1]))
  else([],(dX d (b.drop a)).2.2)
def gE(size d:Nat)(b:List UInt8):List (List UInt8) × List (List Nat) × Nat:=
 if (co size b).2.2 = 0 then
  (if (fp d (b.drop (co size b).2.1) (co size b).1.length 0 []).2 = 0 then ((co size b).1, (fp d (b.drop (co size b).2.1) (co size b).1.length 0 []).1, 0)
   else ([], [], (fp d (b.drop (co size b).2.1) (co size b).1.length 0 []).2))
 else([],[],(co size b).2.2)
def iI(z:Nat):Nat:=if z % 2=1 then 18446744073709551615 - z / 2 else z / 2
theorem Fp(z:Nat)(h:z<18446744073709551616):iI z<18446744073709551616:=by unfold iI;split <;> omega
def eP(b:List UInt8):Nat->Cs->Nat->List Nat->List Nat × Cs
 | 0,s,_,d=>(d,s)
 | k+1,s,e,d=>if s.er=0 then eP b k (s.num b).2 ((e+iI (s.num b).1) % 18446744073709551616) (d++[(e+iI (s.num b).1) % 18446744073709551616])else(d,s)
def pM(b:List UInt8)(s:Cs):Nat:=(s.byte b).1
def gI(b:List UInt8)(n:Nat)(s:Cs)(d:List UInt8):Nat × Cs:=(s.byte b).2.int b (n - d.length)
def oF(b:List UInt8)(n:Nat)(s:Cs)(d:List UInt8):Cs:=
 if(gI b n s d).2.er=0/\((gI b n s d).1=0\/(0<d.length/\(d.getLastD 0).toNat=pM b s))then⟨(gI b n s d).2.at_,2⟩else(gI b n s d).2
def fo(b:List UInt8)(n:Nat):Nat->Cs->List UInt8->List UInt8 × Cs
 | 0,s,d=>(d,s)
 | f+1,s,d=>if d.length<n/\s.er=0 then fo b n f (oF b n s d) (d++List.replicate (gI b n s d).1 (UInt8.ofNat (pM b s)))else(d,s)
def s9(n:Nat)(b:List UInt8):List Nat × Cs:=eP b n ⟨0,0⟩ 0 []
def s8(n:Nat)(b:List UInt8):List UInt8 × Cs:=fo b n n (s9 n b).2 []
def dY(n:Nat)(b:List UInt8):List Nat × List UInt8 × Nat × Nat:=
 if(s8 n b).2.er=0 then((s9 n b).1,(s8 n b).1,(s8 n b).2.at_,0)else([],[],0,(s8 n b).2.er)
def fJ(b:List UInt8)(d:Nat):Nat->Cs->List Nat->List Nat->List Nat × List Nat × Cs
 | 0,s,e,h=>(e,h,s)
 | k+1,s,e,h=>if s.er=0 then fJ b d k ((s.int b d).2.int b 8388608).2 (e++[(s.int b d).1]) (h++[((s.int b d).2.int b 8388608).1])else(e,h,s)
def cy(b:List UInt8):Nat × Cs:=(⟨0,0⟩:Cs).int b 20000
def lM(b:List UInt8):Nat × Cs:=(cy b).2.int b (cy b).1
def cM(b:List UInt8):List Nat × List Nat × Cs:=fJ b (cy b).1 (lM b).1 (lM b).2 [] []
def jq(b:List UInt8):Nat × Cs:=(cM b).2.2.int b 8388608
def jN(b:List UInt8):Nat × Cs:=(jq b).2.int b 8388608
def lN(b:List UInt8)(d:Nat):Nat:=
 if ((jN b).2.fin b).er = 0 then
  (if 0∈(cM b).1\/¬(cM b).1.sum=(cy b).1\/¬(cM b).2.1.sum+(jq b).1+(jN b).1=d then 2 else 0)
 else((jN b).2.fin b).er
def gl:List Nat->List UInt8->List (List UInt8)
 | [],_=>[]
 | z::d,b=>b.take z::gl d (b.drop z)
structure eY where
 counts:List Nat
 sizes:List Nat
 cols:Nat
 index:Nat
 frames:List (List UInt8)
 times:List Nat
 levels:List UInt8
 terms:List (List UInt8)
 lists:List (List Nat)
def mp(b:List UInt8):Nat:=cK (b.drop (b.length - 4))
def pQ(b:List UInt8):List UInt8:=(b.take (b.length - 4)).drop (b.length - 4 - mp b)
def jJ(b:List UInt8):Nat:=if b.length<4 then 1 else if b.length - 4<mp b then 1 else bP (pQ b)
def fK(b:List UInt8):List UInt8:=b.take (b.length - 4 - mp b)
def aZ(b:List UInt8):List UInt8:=aS (pQ b)
def yH(b:List UInt8):Nat:=(cM (aZ b)).2.1.sum
def jR(b:List UInt8):List UInt8:=((fK b).drop (yH b)).take (jq (aZ b)).1
def iC(b:List UInt8):List UInt8:=(fK b).drop (yH b+(jq (aZ b)).1)
def kU(n:Nat)(c:List UInt8):Nat:=
 if bP c=0 then(if(dY n (aS c)).2.2.2=0 then(if(dY n (aS c)).2.2.1<(aS c).length then 2 else 0)else(dY n (aS c)).2.2.2)else bP c
def pD(d:Nat)(b:List UInt8):Nat:=
 if jJ b = 0 then
  (if lN (aZ b) (fK b).length = 0 then
   (if kU (cy (aZ b)).1 (jR b) = 0 then
    (if bP (iC b) = 0 then (gE d (cy (aZ b)).1 (aS (iC b))).2.2 else bP (iC b))
    else kU (cy (aZ b)).1 (jR b))
   else lN (aZ b) (fK b).length)
 else jJ b
def iP(d:Nat)(b:List UInt8):eY:=
 ⟨(cM (aZ b)).1, (cM (aZ b)).2.1, (jq (aZ b)).1, (jN (aZ b)).1, gl (cM (aZ b)).2.1 (fK b),
  (dY (cy (aZ b)).1 (aS (jR b))).1, (dY (cy (aZ b)).1 (aS (jR b))).2.1,
  (gE d (cy (aZ b)).1 (aS (iC b))).1, (gE d (cy (aZ b)).1 (aS (iC b))).2.1⟩
theorem Lr(r:List UInt8)(a n:Nat):∀ m,aI r a (n+m) / 2 ^ m=aI r a n:=by
 intro m
 induction m with
 | zero=>simp
 | succ m d=>have:=uS r (a+(n+m));rw [<- rx,aI,kG,gw (2 ^ m) 2,<- vw,show(2*aI r a (n+m)+fs r (a+(n+m))) / 2=aI r a (n+m) by omega,d]
def dn(r:List UInt8)(n:Nat):Nat->Nat->List UInt8->Bool->List UInt8 × Nat × Nat
 | 0,a,d,_=>(d,a,0)
 | f+1,a,d,e=>
  if n<=d.length then(d,a,0)
  else if 8*r.length<a+4 then([],a,1)
  else if 0<aI r a 4 then dn r n f (a+4) (d++[UInt8.ofNat (aI r a 4)]) false
  else if 8*r.length<a+4+6 then([],a,1)
  else if e=true\/n - d.length<=aI r (a+4) 6 then([],a,7)
  else dn r n f (a+4+6) (d++List.replicate (aI r (a+4) 6+1) 0) (decide (aI r (a+4) 6+1<64))
def bi(r:List UInt8)(n a:Nat):List UInt8 × Nat × Nat:=
 if(dn r n n a [] false).2.2=0 then(if cI (dn r n n a [] false).1 then dn r n n a [] false else([],a,7))else dn r n n a [] false
def ff(r:List UInt8)(a:Nat):Nat:=min 15 (8*r.length - a)
def aE(d r:List UInt8)(a:Nat):Nat × Nat × Nat:=
 match mX d (aI r a 15) (ff r a)with
 | some s=>(s,a+bN d s,0)
 | none=>(0,a,if mP d (aI r a (ff r a)) (ff r a)then 1 else 7)
def cY(e r:List UInt8)(d a:Nat):aW × Nat × Nat:=
 if 8*r.length<a+(d - 257)then(⟨0,0,0⟩,a,1)
 else if (aE e r (a + (d - 257))).2.2 = 0 then
  (if 8 * r.length < (aE e r (a + (d - 257))).2.1 + (aE e r (a + (d - 257))).1 then (⟨0, 0, 0⟩, a, 1)
   else (⟨0, 2 + 2 ^ (d - 257) + aI r a (d - 257), 2 ^ (aE e r (a + (d - 257))).1 + aI r (aE e r (a + (d - 257))).2.1 (aE e r (a + (d - 257))).1⟩,
    (aE e r (a + (d - 257))).2.1 + (aE e r (a + (d - 257))).1, 0))
 else(⟨0,0,0⟩,a,(aE e r (a+(d - 257))).2.2)
def gj(t:aW):Nat:=max 1 t.len
def fA(d e r:List UInt8):Nat->Nat->Nat->List aW->List aW × Nat × Nat
 | 0,_,a,h=>(h,a,0)
 | f+1,m,a,h=>
  if (aE d r a).2.2 = 0 then
   (if (aE d r a).1 = 256 then (h, (aE d r a).2.1, 0)
    else if (aE d r a).1 < 256 then
     (if m < 1 then ([], a, 6) else fA d e r f (m - 1) (aE d r a).2.1 (h ++ [⟨UInt8.ofNat (aE d r a).1, 0, 0⟩]))
    else if (cY e r (aE d r a).1 (aE d r a).2.1).2.2 = 0 then
     (if m < gj (cY e r (aE d r a).1 (aE d r a).2.1).1 then ([], a, 6)
      else fA d e r f (m - gj (cY e r (aE d r a).1 (aE d r a).2.1).1) (cY e r (aE d r a).1 (aE d r a).2.1).2.1 (h ++ [(cY e r (aE d r a).1 (aE d r a).2.1).1]))
    else ([], a, (cY e r (aE d r a).1 (aE d r a).2.1).2.2))
  else([],a,(aE d r a).2.2)
def mQ(r:List UInt8)(a:Nat):Bool:=decide (8*r.length<a+8) && decide (aI r a (8*r.length - a)=0)
def oi(r:List UInt8):List UInt8 × Nat × Nat:=bi r 265 0
def oj(r:List UInt8):List UInt8 × Nat × Nat:=bi r 12 (oi r).2.1
def pf(r:List UInt8)(d:Nat):List aW × Nat × Nat:=fA (oi r).1 (oj r).1 r (8*r.length+1) d (oj r).2.1 []
def ee(r:List UInt8)(d:Nat):List aW × Nat:=
 if (oi r).2.2 = 0 then
  (if (oj r).2.2 = 0 then
   (if (pf r d).2.2 = 0 then (if mQ r (pf r d).2.1 then ((pf r d).1, 0) else ([], 2)) else ([], (pf r d).2.2))
   else ([], (oj r).2.2))
 else([],(oi r).2.2)
def nJ(d:Nat):Nat->List UInt8->List UInt8
 | 0,e=>e
 | n+1,e=>nJ d n (e++[e.getD (e.length - d) 0])
theorem Dx(d n:Nat):∀ e,(nJ d n e).length=e.length+n:=by
 induction n with
 | zero=>intro e;rfl
 | succ n h=>intro e;rw [nJ,h,aDQb];simp;omega
def dU(e:Nat):List aW->List UInt8->List UInt8 × Nat
 | [],d=>(d,0)
 | t::l,d=>
  if ez t=false then([],7)
  else if d.length<t.dist then([],8)
  else if e<d.length+gj t then([],6)
  else if t.len=0 then dU e l (d++[t.lit])else dU e l (nJ t.dist t.len d)
def dF(b:List UInt8):Nat × Cs:=(⟨0,0⟩:Cs).byte b
def mY(b:List UInt8):Cs:=if 1<(dF b).1 then(dF b).2.fail 2 else(dF b).2
def cU(b:List UInt8):Nat × Cs:=(mY b).int b 32768
def dB(b:List UInt8):Nat × Cs:=(cU b).2.int b 32768
def jQ(b:List UInt8):Cs:=if 1032*(dB b).1+64<(cU b).1 then(dB b).2.fail 6 else(dB b).2
def ea(b:List UInt8):List UInt8 × Cs:=(jQ b).take b (dB b).1
def gM(b:List UInt8):List UInt8 × Cs:=(ea b).2.take b 4
def jP(b:List UInt8):Nat:=if(gM b).2.er=0 then bP (b.take (gM b).2.at_)else(gM b).2.er
def oY(n:Nat)(d:List UInt8):List UInt8 × Nat:=
 if (ee d n).2 = 0 then
  (if(dU n (ee d n).1 []).2=0 then(if(dU n (ee d n).1 []).1.length<n then([],2)else((dU n (ee d n).1 []).1,0))else([],(dU n (ee d n).1 []).2))
 else([],(ee d n).2)
def dM(b:List UInt8):List UInt8 × Nat:=
 if(dF b).1=0 then(if(cU b).1=(dB b).1 then((ea b).1,0)else([],2))else oY (cU b).1 (ea b).1
def aT(b:List UInt8):List UInt8 × Nat × Nat:=
 if jP b=0 then(if(dM b).2=0 then((dM b).1,(gM b).2.at_,0)else([],0,(dM b).2))else([],0,jP b)
def Bl(b:List UInt8):Nat->Cs->List (List UInt8 × List UInt8)->List (List UInt8 × List UInt8) × Nat
 | 0,s,d=>(d,s.er)
 | f+1,s,d=>
  if b.length<=s.at_ then(d,0)
  else if((s.text b 4000).2.text b 4000).2.er=0 then Bl b f ((s.text b 4000).2.text b 4000).2 (d++[((s.text b 4000).1,((s.text b 4000).2.text b 4000).1)])
  else([],((s.text b 4000).2.text b 4000).2.er)
def SU(b:List UInt8):List (List UInt8 × List UInt8) × Nat:=Bl b (b.length+1) ⟨0,0⟩ []
theorem N7(d:List UInt8)(q:cI d=true)(z:∀ c∈d,c.toNat<=15)(l:Nat)(D:1<=l)(F:0<aB d l):bn d l+aB d l<=2 ^ l:=by
 obtain⟨s,o,_,A,G⟩:=tW d l d.length (amQb _) (aB d l - 1) (by rw [dOQb];omega);have m:d[s].toNat=l:=by rw [<- n0 d s o];exact A
 have B:d[s]≠0:=fun e=>by rw [e]at m;simp at m;omega
 have h:=zW d q z s o B;rw [m]at h;unfold bM at h;omega
def jM(d:List UInt8)(x l:Nat):Option Nat:=
 if bn d l<=x/\x<bn d l+aB d l then some ((sM d d.length l).getD (x - bn d l) 0)else none
theorem NE(d:List UInt8)(x e l:Nat)(m:1<=l)(o:l<=e)(q:e<=15)(s:Nat)(h:jM d (x / 2 ^ (15 - l)) l=some s) :
  mX d x e=some s/\bN d s=l/\s<d.length:=by
 unfold jM at h;split at h;· rename_i F;obtain⟨G,z,A,B,D⟩:=Nd d x e l (x / 2 ^ (15 - l) - bn d l) m o q (by omega) (by omega);rw [cD,A]at h;simp only [Option.getD_some,lQQb]at h;subst h;exact⟨B,D,z⟩
 · cases h
theorem NF(d:List UInt8)(x e:Nat)(h:∀ l,1<=l->l<=e->jM d (x / 2 ^ (15 - l)) l=none):mX d x e=none:=by
 refine Nc d x e fun l o q z=>?_;have m:=h l o q;unfold jM at m;rw [agQb z]at m;cases m
theorem Nt(d r:List UInt8)(a l s:Nat)(e:1<=l)(m:l<=ff r a)(h:jM d (Fk.aI r a 15 / 2 ^ (15 - l)) l=some s):aE d r a=(s,a+l,0):=by
 obtain⟨o,q,_⟩:=NE d _ (ff r a) l e m (Nat.min_le_left _ _) s h;unfold aE;rw [o,<- q]
theorem Ns(d r:List UInt8)(a:Nat)(h:∀ l,1<=l->l<=ff r a->jM d (Fk.aI r a 15 / 2 ^ (15 - l)) l=none) :
  aE d r a=(0,a,if mP d (Fk.aI r a (ff r a)) (ff r a)then 1 else 7):=by
 have e:=NF d _ (ff r a) h;unfold aE;rw [e]
theorem Ll(r:List UInt8)(a:Nat):Fk.aI r a 15 / 2 ^ (15 - ff r a)=Fk.aI r a (ff r a):=by
 have h:ff r a<=15:=Nat.min_le_left _ _;have:=Lr r a (ff r a) (15 - ff r a);rwa [show ff r a+(15 - ff r a)=15 by omega]at this
theorem Dg(d:List UInt8)(l:Nat):fM d d.length l=if aB d l=0 then 0 else bn d l % 65536:=by unfold fM;rw [dOQb]
theorem sq(d:List UInt8)(e:cI d=true)(m:∀ c∈d,c.toNat<=15)(l:Nat)(o:1<=l)(q:l<=15)(z:0<aB d l):fM d d.length l=bn d l/\bn d l+aB d l<=32768:=by
 have h:=N7 d e m l o z;have A:(2:Nat) ^ l<=2 ^ 15:=ep (by omega) q;rw [Dg,ae (by omega)];omega
theorem Df(d:List UInt8)(e:cI d=true)(m:∀ c∈d,c.toNat<=15)(l:Nat)(o:1<=l)(q:l<=15):fM d d.length l<=32768/\aB d l<=32768:=by
 rcases jU (aB d l)with h | h;· rw [Dg,agQb h];omega
 · have:=sq d e m l o q h;omega
theorem NH(d:List UInt8)(q:cI d=true)(z:∀ c∈d,c.toNat<=15)(x l:Nat)(A:1<=l)(B:l<=15)(h:fM d d.length l<=x)(m:x - fM d d.length l<aB d l) :
  ∃ s,s<d.length/\(sM d d.length l)[x - fM d d.length l]?=some s/\jM d x l=some s:=by
 obtain⟨e,_⟩:=sq d q z l A B (by omega);rw [e]at h m ⊢;obtain⟨s,D,o,_⟩:=tW d l d.length (amQb _) (x - bn d l) (by rw [dOQb];exact m);refine⟨s,D,o,?_⟩;unfold jM;rw [agQb (by omega),cD,o];rfl
theorem NG(d:List UInt8)(m:cI d=true)(o:∀ c∈d,c.toNat<=15)(x l:Nat)(q:1<=l)(z:l<=15)(h:¬(fM d d.length l<=x/\x - fM d d.length l<aB d l)):jM d x l=none:=by
 unfold jM;refine ae fun A=>h ?_;obtain⟨e,_⟩:=sq d m o l q z (by omega);rw [e];omega
def rn(d:List UInt8)(y l k:Nat):Bool:=decide (0<aB d k) && decide (y*2 ^ (k - l)<fM d d.length k+aB d k) && decide (fM d d.length k<(y+1)*2 ^ (k - l))
theorem Ay(d:List UInt8)(e:∀ c∈d,c.toNat<=15)(s:Nat):bN d s<=15:=by
 by_cases h:s<d.length;· rw [n0 d s h];exact e _ (bX h)
 · rw [tQ d s (by omega)];omega
theorem Kp(d:List UInt8)(A:cI d=true)(e:∀ c∈d,c.toNat<=15)(y l k:Nat)(B:l<k)(m:k<=15)(h:rn d y l k=true):mP d y l=true:=by
 unfold rn at h;simp only [iH,fx]at h;obtain⟨⟨o,q⟩,z⟩:=h;rw [(sq d A e k (by omega) m o).1]at q z;exact(B9 d y l (Ay d e)).2 ⟨k,B,m,o,q,z⟩
theorem B5(d:List UInt8)(q:cI d=true)(e:∀ c∈d,c.toNat<=15)(y l:Nat)(h:∀ k,l<k->k<=15->rn d y l k=false):mP d y l=false:=by
 cases z:mP d y l with
 | false=>rfl
 | true=>obtain⟨k,A,m,o,B,D⟩:=(B9 d y l (Ay d e)).1 z;have:=h k A m;unfold rn at this;rw [(sq d q e k (by omega) m o).1]at this;simp [o,B,D]at this
def Ha(s:List UInt8):Bool:=
 match s with
 | []=>false
 | c::r=>if c=64 then um r == some r else um s == some s
structure kX where
 op:Int
 n:Int
 word:List UInt8
 fa:UInt64
 fb:UInt64
 deriving DecidableEq
def Jz(s:kX):Bool:=
 if s.op=1\/s.op=2 then decide (s.n=0/\(s.fa.toNat:Int)=0/\(s.fb.toNat:Int)=0) && Ha s.word
 else if s.op=3\/s.op=4 then decide (s.n=0/\s.word=[])
 else if s.op=6\/s.op=7 then decide (s.word=[]/\(s.fa.toNat:Int)=0/\(s.fb.toNat:Int)=0/\2<=s.n)
 else decide (s.op=5/\s.word=[]/\(s.fa.toNat:Int)=0/\(s.fb.toNat:Int)=0/\s.n=0)
def Ak(s:kX):Int:=if s.op=5 then 1 else if s.op=6\/s.op=7 then s.n else 0
def SH(s:kX):Int:=if s.op=5 then 1 else s.n
def AH:List Nat->List kX->Option (List Nat)
 | d,[]=>some d
 | d,s::r=>if Jz s=false\/(d.length:Int)<Ak s then none else AH (JR d (Ak s).toNat) r
def OI:Option (List Nat)->Except Int Nat
 | some [d]=>.ok d
 | _=>.error 10
def OH(q:List kX):Except Int Nat:=if 1000<q.length then .error 6 else OI (AH [] q)
def Tl(q:List kX):Int:=
 match OH q with
 | .error n=>n
 | .ok d=>if 64<d then 11 else 0
def I0(op:Int)(n:Nat):kX:=⟨op,n,[],0,0⟩
def Tf(op:Int)(d:List (List kX)):List kX:=d.flatten++if 1<d.length then [I0 op d.length]else []
def IB(s:List UInt8):Option (List UInt8):=
 match s with
 | []=>none
 | c::r=>if c=64 then(um r).map fun w=>64::w else um s
def Te(op:Int)(s:List UInt8):List kX:=
 match IB s with
 | some w=>[⟨op,0,w,0,0⟩]
 | none=>[]
def SP(op:Int)(a b:UInt64):kX:=⟨op,0,[],a,b⟩
structure TS where
 text:List UInt8
 source:List UInt8
def TS.terms(r:TS):List (List UInt8):=om r.text r.source
def iT(l:List TS):List (List UInt8):=mN [] (l.flatMap TS.terms)
def cx(l:List TS)(t:List UInt8):List Nat:=(List.range l.length).filter fun i=>match l[i]? with | some r=>decide (t∈r.terms) | none=>false
theorem MR(l:List TS):kY (iT l):=wW _ _ List.Pairwise.nil
theorem CL(l:List TS)(t:List UInt8):t∈iT l↔∃ r∈l,t∈r.terms:=by
 unfold iT;rw [wX];simp
theorem Ai(r:TS):∀ t∈r.terms,1<=t.length/\t.length<=25:=by
 intro t d;unfold TS.terms om at d;rw [wX]at d;rcases d with h | h;· cases h
 · rcases iZ.1 h with h | h;· have:=zP r.text t h;omega
   · obtain⟨x,e,rfl⟩:=g6Qb.1 h;have:=zP r.source x e;simp;omega
theorem Ah(r:TS):r.terms.length<=r.text.length+r.source.length:=by
 unfold TS.terms om;refine azQb (Bp _ _) ?_;have d:=tI r.text;have e:=tI r.source;simp;omega
theorem MT(l:List TS):∀ t∈iT l,1<=t.length/\t.length<=25:=by
 intro t d;obtain⟨r,_,h⟩:=(CL l t).1 d;exact Ai r t h
theorem MS(l:List TS):(iT l).length<=bj (fun r:TS=>r.text.length+r.source.length) l:=by
 unfold iT;refine azQb (Bp _ _) ?_;have:(l.flatMap TS.terms).length<=bj (fun r:TS=>r.text.length+r.source.length) l:=by
  induction l with
  | nil=>simp [bj]
  | cons r l d=>have:=Ah r;simp only [List.flatMap_cons,aDQb,bj,gTQb,lS]at *;omega
 simp only [lh];omega
theorem xZ(l:List TS)(t:List UInt8):∀ i∈cx l t,i<l.length:=by
 intro i d;unfold cx at d;exact eD.1 (lU.1 d).1
theorem CM(l:List TS)(t:List UInt8)(i:Nat)(h:i<l.length):i∈cx l t↔t∈l[i].terms:=by
 unfold cx;rw [lU];simp [h]
theorem MU(l:List TS)(t:List UInt8)(k:Nat)(h:k<l.length):cx (l.take (k+1)) t=cx (l.take k) t++(if t∈l[k].terms then [k]else []):=by
 have m:(l.take k).length=k:=by simp;omega
 have o:(l.take (k+1)).length=k+1:=by simp;omega
 unfold cx;rw [m,o,lf,rD];congr 1;· apply List.filter_congr;intro i q;have z:=eD.1 q;rw [List.getElem?_take_of_lt z,List.getElem?_take_of_lt (by omega)]
 · rw [tt];have e:(l.take (k+1))[k]?=some l[k]:=(by rw [List.getElem?_take_of_lt (by omega),bE h]);rw [e];by_cases d:t∈l[k].terms;· simp [d]
   · simp [d]
def Bz(d:Nat)(e:List (List Nat)):List UInt8:=(e.map (Oc d)).flatten
end Go.Fk
