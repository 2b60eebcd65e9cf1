/- Lemmas for ThreeTurned. -/
import Derived.WalkKit
import Derived.Test.YtndbpldeabnkbaaGreatDoorM01
set_option linter.all false
set_option maxHeartbeats 8000000
namespace Go.Fk
abbrev bp:=@decide_eq_true
abbrev gS:=@List.length_nil
abbrev fY:=@Nat.sub_self
abbrev lf:=@of_decide_eq_true
abbrev kF:=@Nat.div_le_self
abbrev lk:=@List.drop_drop
abbrev pB:=@List.singleton_append
abbrev pC:=@List.mem_iff_getElem
abbrev mw:=@List.drop_left
abbrev nK:=@List.take_left
abbrev s7:=@List.mem_of_mem_drop
abbrev qA:=@Bool.true_and
abbrev wz:=@List.replicate_succ
abbrev s8:=@List.lt_irrefl
abbrev zg:=@Nat.div_mul_le_self
abbrev zj:=@List.length_pos_iff
abbrev zk:=@List.drop_succ_cons
abbrev Cp:=@UInt8.toNat_ofNat_of_lt'
abbrev C1:=@List.getElem?_take_of_lt
abbrev Cu:=@Nat.div_le_div_right
abbrev Cy:=@List.getLastD_concat
def kp(c:UInt8):Bool:=decide (65<=c.toNat/\c.toNat<=90) || decide (97<=c.toNat/\c.toNat<=122) || decide (48<=c.toNat/\c.toNat<=57)
def sm(c:UInt8):UInt8:=if 65<=c.toNat/\c.toNat<=90 then c+32 else c
def Yn(c:UInt8):UInt8:=if kp c then sm c else 0
def xL(l:Z0):Option Z0:=if l≠[]/\l.length<=24/\l.all kp=true then some (l.map sm)else none
def Gs(c:UInt8):kp c=true↔(65<=c.toNat/\c.toNat<=90)\/(97<=c.toNat/\c.toNat<=122)\/(48<=c.toNat/\c.toNat<=57):=by
 simp only[kp,wH,en];omega
def R1(c:UInt8):kp c=false↔¬((65<=c.toNat/\c.toNat<=90)\/(97<=c.toNat/\c.toNat<=122)\/(48<=c.toNat/\c.toNat<=57)):=by
 rw[<- Gs];simp
def Nf(c:UInt8):(sm c).toNat=if 65<=c.toNat/\c.toNat<=90 then c.toNat+32 else c.toNat:=by
 unfold sm;split;·rw[UInt8.toNat_add];have:(32:UInt8).toNat=32:=rfl;rw[this];omega
 ·rfl
def F9(g:Z0->Bool)(d:Z0):Z0:=if g ((d.map sm).take 24)then List.replicate d.length 42 else d
def FB(g:Z0->Bool):Z0->Z0->Z0
 | d,[]=>F9 g d
 | d,c::r=>if kp c then FB g (d++[c]) r else F9 g d++c::FB g [] r
def FA(g:Z0->Bool):Z0->Z0->Nat
 | d,[]=>if d≠[]/\g ((d.map sm).take 24)=true then 1 else 0
 | d,c::r=>if kp c then FA g (d++[c]) r else(if d≠[]/\g ((d.map sm).take 24)=true then 1 else 0)+FA g [] r
def jf:Z0->Z0->List Z0
 | d,[]=>if d=[]then []else [(d.map sm).take 24]
 | d,c::r=>if kp c then jf (d++[c]) r else(if d=[]then []else [(d.map sm).take 24])++jf [] r
def jt(l:Z0):List Z0:=jf [] l
def Yp(d:Z0):List Z0:=if d=[]then []else [(d.map sm).take 24]
def pG:Z0->Z0
 | []=>[]
 | c::s=>if kp c then sm c::pG s else []
def jG:Bool->Z0->List Z0
 | _,[]=>[]
 | d,c::s=>if kp c then(if d then jG true s else(pG (c::s)).take 24::jG true s)else jG false s
def Kw(s:Z0):jf [] s=jG false s/\∀m,m≠[]->jf m s=(m.map sm++pG s).take 24::jG true s:=by
 induction s with
 | nil=>refine⟨by simp[jf,jG],λm h=>?_⟩;simp[jf,h,jG,pG]
 | cons c s o=>
  by_cases d:kp c=true
  ·have e:pG (c::s)=sm c::pG s:=(by rw[pG,af d]);refine⟨?_,λm h=>?_⟩;·rw[jf,af d,jG,af d,e,o.2 _ σ];simp
   ·rw[jf,af d,jG,af d,e,o.2 _ σ];simp
  ·refine⟨by simp[jf,jG,d,o.1],λm h=>?_⟩;simp[jf,h,jG,pG,d,o.1]
def CS(s:Z0):jt s=jG false s:=(Kw s).1
def Kp(s:Z0):∀b,(jG b s).length<=s.length:=by
 induction s with
 | nil=>intro b;simp[jG]
 | cons c s d=>
  intro b;rw[jG];have e:=d false;have h:=d true;split;·split <;> simp <;> omega
  ·simp;omega
def Kq(s:Z0):∀b,∀w∈jG b s,1<=w.length/\w.length<=24:=by
 induction s with
 | nil=>intro b w h;simp[jG]at h
 | cons c s d=>
  intro b w h;rw[jG]at h;split at h
  ·rename_i e;split at h;·exact d true w h
   ·rcases gR.1 h with rfl | h;·rw[pG,af e,gD,aL,aA];omega
    ·exact d true w h
  ·exact d false w h
def CT(s:Z0):∀w∈jt s,1<=w.length/\w.length<=24:=by rw[CS];exact Kq s false
def wS(s:Z0):(jt s).length<=s.length:=by rw[CS];exact Kp s false
def AZ{a b:Z0}(h:a<=b):a<b\/a=b:=by
 by_cases d:a<b;·exact .inl d
 ·exact .inr (List.le_antisymm h (List.not_lt.1 d))
def lL:List Z0->Z0->List Z0
 | [],s=>[s]
 | t::l,s=>if t<s then t::lL l s else if t=s then t::l else s::t::l
abbrev mR(l:List Z0):Prop:=l.Pairwise (·<·)
def EP(l:List Z0)(s x:Z0):x∈lL l s↔x∈l\/x=s:=by
 induction l with
 | nil=>simp[lL]
 | cons t l d=>
  rw[lL];split;·simp[d,or_assoc]
  ·split;·rename_i h;subst h;simp;intro e;exact .inl e
   ·simp;constructor;·rintro(h | h | h) <;> simp[h]
    ·rintro((h | h) | h) <;> simp[h]
def Oz(l:List Z0)(s:Z0)(h:mR l):mR (lL l s):=by
 induction l with
 | nil=>simp[lL]
 | cons t l o=>
  obtain⟨e,z⟩:=kG.1 h;rw[lL];split
  ·rename_i A;refine kG.2 ⟨λx d=>?_,o z⟩;rcases(EP l s x).1 d with d | rfl;·exact e x d
   ·exact A
  ·split;·exact h
   ·rename_i D F;have m:s<t:=by
     rcases AZ (List.not_lt.1 D)with h | h;·exact h
     ·exact absurd h.symm F
    refine kG.2 ⟨λx d=>?_,h⟩;rcases gR.1 d with rfl | d;·exact m
    ·exact List.lt_trans m (e x d)
def NO(l m:List Z0)(d:mR l)(o:mR m)(h:∀x,x∈l↔x∈m):l=m:=by
 have z:∀l:List Z0,mR l->l.Nodup:=λl h=>h.imp λ{a b} A e=>by subst e;exact s8 _ A
 have D:l.Perm m:=(List.perm_ext_iff_of_nodup (z l d) (z m o)).2 h;exact D.eq_of_pairwise (λ_ _ _ _ h k=>absurd (List.lt_trans h k) (s8 _)) d o
def oH(l d:List Z0):List Z0:=d.foldl lL l
def Ay(d:List Z0):∀l,mR l->mR (oH l d):=by
 induction d with
 | nil=>intro l h;exact h
 | cons w d e=>intro l h;exact e _ (Oz l w h)
def Az(d:List Z0):∀l x,x∈oH l d↔x∈l\/x∈d:=by
 induction d with
 | nil=>intro l x;simp[oH]
 | cons w d e=>intro l x;show x∈oH (lL l w) d↔_;rw[e,EP,gR,or_assoc]
def d7:List Z0->List Z0
 | []=>[]
 | [a]=>[a]
 | a::b::l=>if a=b then d7 (b::l)else a::d7 (b::l)
theorem yp:∀(l:List Z0) (x:Z0),x∈d7 l↔x∈l
 | [],x=>by simp[d7]
 | [a],x=>by simp[d7]
 | a::b::l,x=>by
  rw[d7]
  split
  ·rename_i h;subst h;rw[yp];simp
  ·rw[gR,yp,gR (a:=x) (b:=a)]
theorem B9:∀(l:List Z0),l.Pairwise (·<=·)->mR (d7 l)
 | [],_=>by simp[d7]
 | [a],_=>by simp[d7]
 | a::b::l,h=>by
  obtain⟨o,d⟩:=kG.1 h
  rw[d7]
  split
  ·exact B9 _ d
  ·rename_i z
   refine kG.2 ⟨λx e=>?_,B9 _ d⟩
   have m:a<b:=by
    rcases AZ (o b σ)with h | h
    ·exact h
    ·exact absurd h z
   rcases gR.1 ((yp _ x).1 e)with rfl | e
   ·exact m
   ·have A:=(kG.1 d).1 x e
    rcases AZ A with h | h
    ·exact List.lt_trans m h
    ·subst h;exact m
def Uo(l d:List Z0)(e:l.Pairwise (·<=·))(h:l.Perm d):d7 l=oH [] d:=
 NO _ _ (B9 l e) (Ay d [] List.Pairwise.nil) λx=>by
  rw[yp,Az,h.mem_iff];simp
def qF(d e:Z0):List Z0:=oH [] (jt d++(jt e).map λw=>64::w)
def LM(a b:Z0):mR (qF a b):=Ay _ _ List.Pairwise.nil
def O0(l:List Z0)(s:Z0):(lL l s).length<=l.length+1:=by
 induction l with
 | nil=>simp[lL]
 | cons t l d=>
  rw[lL];split;·simp;omega
  ·split <;> simp
def EN(d:List Z0):∀l,(oH l d).length<=l.length+d.length:=by
 induction d with
 | nil=>intro l;simp[oH]
 | cons w d e=>intro l;have h:=e (lL l w);have m:=O0 l w;show(oH (lL l w) d).length<=_;rw[aL];omega
def dS(e:UInt8)(n:Nat)(d:Z0):Z0:=au (([e]++ao n++ao d.length)++d)
def GO(e:UInt8)(n:Nat)(d:Z0)(h:n<18446744073709551616)(m:d.length<18446744073709551616):(dS e n d).length<=d.length+25:=by
 have o:=cJ n h;have z:=cJ d.length m;unfold dS au;simp only[am,aL,gS];omega
def cQ:Z0->Z0->Nat
 | a::l,b::m=>if a=b then cQ l m+1 else 0
 | _,_=>0
theorem uP:∀(a b:Z0),cQ a b<=a.length/\cQ a b<=b.length
 | [],b=>by simp[cQ]
 | a::l,[]=>by simp[cQ]
 | a::l,b::m=>by
  have:=uP l m
  rw[cQ]
  split <;> simp <;> omega
theorem Ew:∀(a b:Z0) (n:Nat),n<=a.length->n<=b.length->(∀i,i<n->a[i]?=b[i]?)->(n<a.length->n<b.length->a[n]? ≠ b[n]?)->cQ a b=n
 | [],b,n,d,_,_,_=>by simp at d;simp[cQ,d]
 | a::l,[],n,_,e,_,_=>by simp at e;simp[cQ,e]
 | a::l,b::m,n,d,e,h,o=>by
  rw[cQ]
  cases n with
  | zero=>
   have:=o σ σ
   rw[ae (by simpa using this)]
  | succ n=>
   have z:=h 0 ω
   rw[af (by simpa using z),Ew l m n (by simpa using d) (by simpa using e) (λi F=>by have:=h (i+1) ω;simpa using this) (λA D=>by have:=o (by simpa using A) (by simpa using D);simpa using this)]
def jR:Z0->List Z0->Z0
 | _,[]=>[]
 | d,s::l=>(ao (cQ d s)++ci (s.drop (cQ d s)))++jR s l
def aZ:List Z0->Z0
 | []=>[]
 | s::l=>ci s++jR s l
theorem IE:∀(l:List Z0) (d s:Z0),jR d (l++[s])=jR d l++(ao (cQ ((d::l).getLast σ) s)++ci (s.drop (cQ ((d::l).getLast σ) s)))
 | [],d,s=>by simp[jR]
 | x::l,d,s=>by
  rw[lm,jR,jR,IE l x s,bG]
  simp
def Vn(l:List Z0)(k:Nat)(m:0<k)(h:k<l.length):aZ (l.take (k+1))=aZ (l.take k)++(ao (cQ l[k-1] l[k])++ci (l[k].drop (cQ l[k-1] l[k]))):=by
 cases l with
 | nil=>simp at h
 | cons x l=>
  obtain⟨k,rfl⟩:∃j,k=j+1:=⟨k-1,ω⟩;have d:k<l.length:=(by simpa using h);rw[gD,gD,aZ,aZ,f8 d,IE,bG];have e:((x::l.take k).getLast σ)=(x::l)[k]:=by
   rw[List.getLast_eq_getElem];simp only[aL,aA,fI (Nat.le_of_lt d),Nat.add_sub_cancel]
   cases k with
   | zero=>rfl
   | succ k=>simp
  rw[e];rfl
def qE(s:Z0)(h:s.length<18446744073709551616):(ci s).length<=s.length+10:=by
 have:=cJ s.length h;unfold ci;rw[am];omega
theorem IF(m:Nat)(e:m<1000000):∀(l:List Z0) (d:Z0),(∀s∈l,s.length<=m)->(jR d l).length<=l.length*(m+20)
 | [],d,_=>by simp[jR]
 | s::l,d,h=>by
  have A:=IF m e l s (λx o=>h x (by simp[o]))
  have D:=h s σ
  have F:=uP d s
  have G:=cJ (cQ d s) ω
  have z:=qE (s.drop (cQ d s)) (by simp;omega)
  simp only[aN]at z
  rw[jR,am,am,aL,be]
  omega
def qZ(m:Nat)(d:m<1000000)(l:List Z0)(h:∀s∈l,s.length<=m):(aZ l).length<=l.length*(m+20):=by
 cases l with
 | nil=>simp[aZ]
 | cons s l=>have o:=IF m d l s (λx e=>h x (by simp[e]));have z:=h s σ;have A:=qE s ω;rw[aZ,am,aL,be];omega
def nX(d s:Z0):Bool:=decide (¬s=[]) && decide (s.length<=25) && decide (d<s)
def l7(d:Cs)(part e:Z0)(first:Bool):Nat × Cs:=if first then(0,d)else d.int part e.length
def jw(d:Cs)(part e:Z0)(first:Bool):Z0 × Cs:=(l7 d part e first).2.text part 25
def kN(d:Cs)(part e:Z0)(first:Bool):Z0:=e.take (l7 d part e first).1++(jw d part e first).1
def nT(d:Cs)(part e:Z0)(first:Bool):Bool:=
 decide (¬(jw d part e first).1=[]) && nX e (kN d part e first) && (first || decide (cQ e (kN d part e first)=(l7 d part e first).1))
def jx(d:Cs)(part e:Z0)(first:Bool):Cs:=
 if(jw d part e first).2.er=0/\nT d part e first=false then⟨(jw d part e first).2.at_,2⟩else(jw d part e first).2
def gM(part:Z0):Nat->Nat->Cs->List Z0->List Z0 × Nat
 | 0,_,d,t=>(t,(d.fin part).er)
 | k+1,i,d,t=>
  if(jx d part (t.getLastD []) (decide (i=0))).er=0 then gM part k (i+1) (jx d part (t.getLastD []) (decide (i=0))) (t++[kN d part (t.getLastD []) (decide (i=0))])
  else(t,(jx d part (t.getLastD []) (decide (i=0))).er)
def iu(b:Z0):Nat->Cs->List Nat->List Nat × Cs
 | 0,s,l=>(l,s)
 | k+1,s,l=>if s.er=0 then iu b k (s.int b 2000).2 (l++[(s.int b 2000).1])else(l,s)
def gN(b:Z0)(size n:Nat):List Nat->Nat->Cs->List Z0->List Z0 × Cs × Nat
 | [],_,s,t=>(t,s,s.er)
 | k::r,i,s,t=>
  if (s.take b k).2.er = 0 then
   (if (gM (s.take b k).1 (min size (n - i * size)) 0 ⟨0, 0⟩ t).2 = 0 then gN b size n r (i + 1) (s.take b k).2 (gM (s.take b k).1 (min size (n - i * size)) 0 ⟨0, 0⟩ t).1
    else ([], (s.take b k).2, (gM (s.take b k).1 (min size (n-i * size)) 0 ⟨0, 0⟩ t).2))
  else([],(s.take b k).2,(s.take b k).2.er)
def ey(b:Z0):Nat × Cs:=(⟨0,0⟩:Cs).int b 1048576
def oh(size:Nat)(b:Z0):List Nat × Cs:=iu b (((ey b).1+size-1) / size) (ey b).2 []
def tP(size:Nat)(b:Z0):List Z0 × Cs × Nat:=gN b size (ey b).1 (oh size b).1 0 (oh size b).2 []
def dn(size:Nat)(b:Z0):List Z0 × Nat × Nat:=
 if(tP size b).2.2=0 then((tP size b).1,(tP size b).2.1.at_,0)else([],0,(tP size b).2.2)
def gX(d:Nat)(b:Z0):Nat->Nat->List (List Nat)->List (List Nat) × Nat
 | 0,a,e=>if a<b.length then([],2)else(e,0)
 | k+1,a,e=>
  if (fu d (b.drop a)).2.2 = 0 then
   (if(fu d (b.drop a)).1=[]then([],2)else gX d b k (a+(fu d (b.drop a)).2.1) (e++[(fu d (b.drop a)).1]))
  else([],(fu d (b.drop a)).2.2)
def iY(size d:Nat)(b:Z0):List Z0 × List (List Nat) × Nat:=
 if (dn size b).2.2 = 0 then
  (if (gX d (b.drop (dn size b).2.1) (dn size b).1.length 0 []).2 = 0 then ((dn size b).1, (gX d (b.drop (dn size b).2.1) (dn size b).1.length 0 []).1, 0)
   else ([], [], (gX d (b.drop (dn size b).2.1) (dn size b).1.length 0 []).2))
 else([],[],(dn size b).2.2)
def js(z:Nat):Nat:=if z%2=1 then 18446744073709551615-z / 2 else z / 2
def Kh(z:Nat)(h:z<18446744073709551616):js z<18446744073709551616:=by unfold js;split <;> omega
def gt(b:Z0):Nat->Cs->Nat->List Nat->List Nat × Cs
 | 0,s,_,d=>(d,s)
 | k+1,s,e,d=>if s.er=0 then gt b k (s.num b).2 ((e+js (s.num b).1)%18446744073709551616) (d++[(e+js (s.num b).1)%18446744073709551616])else(d,s)
def pU(b:Z0)(s:Cs):Nat:=(s.byte b).1
def iZ(b:Z0)(n:Nat)(s:Cs)(d:Z0):Nat × Cs:=(s.byte b).2.int b (n-d.length)
def qU(b:Z0)(n:Nat)(s:Cs)(d:Z0):Cs:=
 if(iZ b n s d).2.er=0/\((iZ b n s d).1=0\/(0<d.length/\(d.getLastD 0).toNat=pU b s))then⟨(iZ b n s d).2.at_,2⟩else(iZ b n s d).2
def fG(b:Z0)(n:Nat):Nat->Cs->Z0->Z0 × Cs
 | 0,s,d=>(d,s)
 | f+1,s,d=>if d.length<n/\s.er=0 then fG b n f (qU b n s d) (d++List.replicate (iZ b n s d).1 (UInt8.ofNat (pU b s)))else(d,s)
def tQ(n:Nat)(b:Z0):List Nat × Cs:=gt b n ⟨0,0⟩ 0 []
def rY(n:Nat)(b:Z0):Z0 × Cs:=fG b n n (tQ n b).2 []
def fi(n:Nat)(b:Z0):List Nat × Z0 × Nat × Nat:=
 if(rY n b).2.er=0 then((tQ n b).1,(rY n b).1,(rY n b).2.at_,0)else([],[],0,(rY n b).2.er)
def gZ(b:Z0)(d:Nat):Nat->Cs->List Nat->List Nat->List Nat × List Nat × Cs
 | 0,s,e,h=>(e,h,s)
 | k+1,s,e,h=>if s.er=0 then gZ b d k ((s.int b d).2.int b 8388608).2 (e++[(s.int b d).1]) (h++[((s.int b d).2.int b 8388608).1])else(e,h,s)
def dm(b:Z0):Nat × Cs:=(⟨0,0⟩:Cs).int b 20000
def mL(b:Z0):Nat × Cs:=(dm b).2.int b (dm b).1
def cV(b:Z0):List Nat × List Nat × Cs:=gZ b (dm b).1 (mL b).1 (mL b).2 [] []
def j9(b:Z0):Nat × Cs:=(cV b).2.2.int b 8388608
def jQ(b:Z0):Nat × Cs:=(j9 b).2.int b 8388608
def nC(b:Z0)(d:Nat):Nat:=
 if ((jQ b).2.fin b).er = 0 then
  (if 0∈(cV b).1\/¬(cV b).1.sum=(dm b).1\/¬(cV b).2.1.sum+(j9 b).1+(jQ b).1=d then 2 else 0)
 else((jQ b).2.fin b).er
def iC:List Nat->Z0->List Z0
 | [],_=>[]
 | z::d,b=>b.take z::iC d (b.drop z)
structure iF where
 counts:List Nat
 sizes:List Nat
 cols:Nat
 index:Nat
 frames:List Z0
 times:List Nat
 levels:Z0
 terms:List Z0
 lists:List (List Nat)
def mJ(b:Z0):Nat:=cU (b.drop (b.length-4))
def pY(b:Z0):Z0:=(b.take (b.length-4)).drop (b.length-4-mJ b)
def kQ(b:Z0):Nat:=if b.length<4 then 1 else if b.length-4<mJ b then 1 else cK (pY b)
def gP(b:Z0):Z0:=b.take (b.length-4-mJ b)
def bC(b:Z0):Z0:=bE (pY b)
def vQ(b:Z0):Nat:=(cV (bC b)).2.1.sum
def kB(b:Z0):Z0:=((gP b).drop (vQ b)).take (j9 (bC b)).1
def jm(b:Z0):Z0:=(gP b).drop (vQ b+(j9 (bC b)).1)
def mM(n:Nat)(c:Z0):Nat:=
 if cK c=0 then(if(fi n (bE c)).2.2.2=0 then(if(fi n (bE c)).2.2.1<(bE c).length then 2 else 0)else(fi n (bE c)).2.2.2)else cK c
def pQ(d:Nat)(b:Z0):Nat:=
 if kQ b = 0 then
  (if nC (bC b) (gP b).length = 0 then
    (if mM (dm (bC b)).1 (kB b) = 0 then
      (if cK (jm b) = 0 then (iY d (dm (bC b)).1 (bE (jm b))).2.2 else cK (jm b))
     else mM (dm (bC b)).1 (kB b))
   else nC (bC b) (gP b).length)
 else kQ b
def iz(d:Nat)(b:Z0):iF:=
 ⟨(cV (bC b)).1, (cV (bC b)).2.1, (j9 (bC b)).1, (jQ (bC b)).1, iC (cV (bC b)).2.1 (gP b),
  (fi (dm (bC b)).1 (bE (kB b))).1, (fi (dm (bC b)).1 (bE (kB b))).2.1,
  (iY d (dm (bC b)).1 (bE (jm b))).1, (iY d (dm (bC b)).1 (bE (jm b))).2.1⟩
def PV(r:Z0)(x:Nat):∀(i a:Nat),i<=9->x*128^i<18446744073709551616->(i=0\/0<x)->gz i a (ao x++r)=(a+x*128^i,i+(ao x).length,0):=by
 induction x using Nat.strongRecOn with
 | ind x z=>
  intro i a G e I;have m:(128:Nat)^9=9223372036854775808:=δ;by_cases h:x<128
  ·have d:(UInt8.ofNat x).toNat=x:=Cp (by show x<256;omega);rw[ve x h,pB,gz,d,ae,af h,nI h];·rfl
   ·rintro(⟨o,A⟩ | ⟨o,A⟩);·subst o;rw[m]at e;omega
    ·omega
  ·have J:x%128<128:=jB _ ω;have d:(UInt8.ofNat (128+x%128)).toNat=128+x%128:=Cp (by show 128+x%128<256;omega);have K:¬i=9:=(by rintro rfl;rw[m]at e;omega);have L:x / 128*128^(i+1)<=x*128^i:=(by rw[gC,dX (128^i) 128,<- pA];exact bQ _ (zg x 128));rw[AP x h,lm,gz,d,ae ω,ae ω,z (x / 128) ω (i+1) _ ω ω (.inr ω)];have D:(128+x%128)%128=x%128:=ω;have F:x%128*128^i+x / 128*128^(i+1)=x*128^i:=(by rw[gC,dX (128^i) 128,<- pA,<- be];congr 1;omega);rw[D,jq,F,aL];congr 2;omega
def Fu(x:Nat)(r:Z0)(h:x<18446744073709551616):cI (ao x++r)=(x,(ao x).length,0):=by
 unfold cI;rw[PV r x 0 0 ω (by simpa using h) (.inl rfl)];simp
def xR(most x:Nat)(r:Z0)(h:x<=most)(d:x<18446744073709551616):az most (ao x++r)=(x,(ao x).length,0):=by
 unfold az;rw[Fu x r d,af rfl,ae (by show ¬most<x;omega)]
def Le(most:Nat)(t r:Z0)(h:t.length<=most)(d:t.length<18446744073709551616):fO most (ci t++r)=(t,(ci t).length,0):=by
 unfold fO ci;rw[bG,xR most _ _ h d,af rfl,ae (by simp only[am];omega),mw,nK,am]
def UY{l:Z0}(h:il l)(q j:Nat)(d:j<8):ig l q / 2^(7-j)%2=dA l (8*q+j):=by
 unfold ig;have e:=kW h (8*q);have m:=kW h (8*q+1);have o:=kW h (8*q+2);have z:=kW h (8*q+3);have A:=kW h (8*q+4);have D:=kW h (8*q+5);have F:=kW h (8*q+6);have G:=kW h (8*q+7)
 match j,d with
 | 0,_=>show _ / 128%2=dA l (8*q);omega
 | 1,_=>show _ / 64%2=_;omega
 | 2,_=>show _ / 32%2=_;omega
 | 3,_=>show _ / 16%2=_;omega
 | 4,_=>show _ / 8%2=_;omega
 | 5,_=>show _ / 4%2=_;omega
 | 6,_=>show _ / 2%2=_;omega
 | 7,_=>show _ / 1%2=_;omega
def BN{l:Z0}(h:il l)(r:Z0)(i:Nat)(m:i<8*(cx l).length):dU (cx l++r) i=dA l i:=by
 have d:i / 8<(cx l).length:=ω
 have e:(cx l++r).getD (i / 8) 0=UInt8.ofNat (ig l (i / 8)):=by rw[bq,q6 d,bj d];simp[cx]
 unfold dU;rw[e,Cp (BJ h _),UY h _ _ (jB _ ω)];congr 1;omega
def vP(a b:Z0)(i:Nat)(h:i<a.length):dA (a++b) i=dA a i:=by
 unfold dA;rw[bq,bq,q6 h]
def yK(a b:Z0)(i:Nat):dA (a++b) (a.length+i)=dA b i:=by
 unfold dA;rw[bq,bq,sE ω,rr]
def IN(x n:Nat):∀i,i<n->dA (bP x n) i=x / 2^(n-1-i)%2:=by
 induction n with
 | zero=>intro i h;omega
 | succ n d=>
  intro i h
  cases i with
  | zero=>show(UInt8.ofNat (x / 2^n%2)).toNat=_;rw[Cp (by show _<256;omega)];rfl
  | succ i=>show dA (bP x n) i=_;rw[d i ω];congr 3;omega
def Fx(b:Z0)(a x:Nat):∀n m,n<=m->(∀i,i<n->dU b (a+i)=x / 2^(m-1-i)%2)->aI b a n=x / 2^(m-n)%2^n:=by
 intro n
 induction n with
 | zero=>intro m _ _;simp[aI,Nat.mod_one]
 | succ n d=>intro m z h;rw[aI,d m ω λi A=>h i ω,h n ω];have e:m-n=(m-(n+1))+1:=ω;have o:m-1-n=m-(n+1):=ω;rw[e,o,gC 2 (m-(n+1)),<- uk];generalize x / 2^(m-(n+1))=y;rw[gC,dX (2^n) 2,Nat.mod_mul];omega
def KX(b:Z0)(n:Nat):∀f i,(∀j,j<n->dU b (i+j)=0)->dU b (i+n)=1->n<f->iX b f i=some (i+n):=by
 induction n with
 | zero=>
  intro f i _ h e
  cases f with
  | zero=>omega
  | succ f=>rw[dq]at h;rw[iX,af h];rfl
 | succ n m=>
  intro f i d o e
  cases f with
  | zero=>omega
  | succ f=>have z:=d 0 ω;rw[dq]at z;rw[iX,ae ω,m f (i+1) (λj A=>by rw[jq,oq 1 j];exact d (j+1) ω) (by rw[jq,oq 1 n];exact o) ω];congr 1;omega
def KU(b:Z0)(a n:Nat)(d:∀j,j<n->dU b (a+j)=0)(e:dU b (a+n)=1)(h:a+n<8*b.length):dZ b a=(n,a+n+1,0):=by
 unfold dZ;rw[KX b n _ a d e ω];show(a+n-a,a+n+1,0)=_;rw[rr]
def Vx(d j:Nat)(h:j<d):dA (lp d) j=0:=by
 unfold lp;rw[vP _ _ _ (by simpa using h)];unfold dA;rw[bq,bj (by simpa using h)];simp
def Vw(d:Nat):dA (lp d) d=1:=by
 have:=IM (List.replicate d 0) 1;rw[jX]at this;exact this
def Ts(G w:Nat)(b:Z0)(m:List Nat):∀(i a d o:Nat) (D:List Nat),
  (∀j (h:j<m.length),aI b (w*(i+j)) w=m[j]%2^w) ->
  (∀j,j<(ei w d m).length->dU b (a+j)=dA (ei w d m) j) ->
  a+(ei w d m).length<=8*b.length->et G o m=true->d*2^w<=o ->
  ff G w b m.length i a d o D=(D++m,a+(ei w d m).length,0):=by
 induction m with
 | nil=>intro i a d o D _ _ _ _ _;simp[ff,ei]
 | cons x m L=>
  intro i a d o D I z J A R
  rw[et]at A
  simp only[fL,en]at A
  obtain⟨⟨U,V⟩,A⟩:=A
  have M:0<2^w:=lh w
  have K:d<=x / 2^w:=(ui M).2 ω
  rw[ei]at z J ⊢
  rw[am,sV]at z J ⊢
  have O:dZ b a=(x / 2^w-d,a+(x / 2^w-d)+1,0):=by
   refine KU b a _ (λj F=>?_) ?_ ω
   ·rw[z j ω,vP _ _ _ (by rw[sV];omega),Vx _ _ F]
   ·rw[z _ ω,vP _ _ _ (by rw[sV];omega),Vw]
  have Q:aI b (w*i) w=x%2^w:=by have:=I 0 σ;simpa using this
  have ad:(d+(x / 2^w-d))*2^w+aI b (w*i) w=x:=by
   rw[Q,Nat.add_sub_cancel' K,dX]
   exact ul x (2^w)
  rw[aL,ff,O]
  simp only[↓reduceIte,ad]
  rw[ae ω,ae ω,Nat.add_sub_cancel' K]
  rw[L (i+1) _ _ _ _ (λj F=>?_) (λj F=>?_) ω A (by have:=zg x (2^w);omega)]
  ·rw[bG,pB]
   congr 2;omega
  ·have:=I (j+1) (by simpa using F)
   rw[show i+1+j=i+(j+1) by omega,this];rfl
  ·have:=z (x / 2^w-d+1+j) ω
   rw[show a+(x / 2^w-d)+1+j=a+(x / 2^w-d+1+j) by omega,this]
   have e:=yK (lp (x / 2^w-d)) (ei w (x / 2^w) m) j
   rw[sV]at e
   exact e
def To(w:Nat)(l:List Nat):∀j,j<l.length->∀i,i<w->∀r,dA (eG w l++r) (w*j+i)=l.getD j 0 / 2^(w-1-i)%2:=by
 induction l with
 | nil=>intro j h;simp at h
 | cons x l o=>
  intro j h i d r;have e:eG w (x::l)++r=bP (x%2^w) w++(eG w l++r):=(by unfold eG;simp);have z:(bP (x%2^w) w).length=w:=fX ..;rw[e]
  cases j with
  | zero=>rw[Nat.mul_zero,iH,vP _ _ _ ω,IN _ _ _ d];show _=x / 2^(w-1-i)%2;have A:w=(w-1-i)+(1+i):=ω;have D:2^w=2^(w-1-i)*2^(1+i):=(by rw[<- Nat.pow_add,<- A]);rw[D,Nat.mod_mul_right_div_self,Nat.pow_add,Nat.pow_one];rw[Nat.mod_mul_right_mod]
  | succ j=>have m:=yK (bP (x%2^w) w) (eG w l++r) (w*j+i);rw[z]at m;rw[show w*(j+1)+i=w+(w*j+i) by rw[Nat.mul_succ];omega,m,o j (by simpa using h) i d r];rfl
def R5(w:Nat)(l:List Nat):il (eG w l):=by
 intro c d;unfold eG at d;obtain⟨q,e,d⟩:=List.mem_flatten.1 d;obtain⟨x,_,rfl⟩:=ee.1 e;exact sg _ _ c d
def R7(w:Nat)(l:List Nat):∀d,il (ei w d l):=by
 induction l with
 | nil=>intro d c e;cases e
 | cons x l h=>intro d;exact(KS _).app (h _)
def Tl(d:Nat)(l:List Nat)(r:Z0)(A:et d 0 l=true)(M:d<=20000):fu d (gY d l++r)=(l,(gY d l).length,0):=by
 have D:=xC d l 0 (ar _) A;rw[iH]at D;by_cases o:l=[];·subst o;have e:gY d []=ao 0:=(by simp[gY]);rw[e];unfold fu;rw[xR d 0 r (ar _) ω,af rfl,af rfl]
 ·have O:0<l.length:=zj.2 o;have e:gY d l=ao l.length++cx (eG (Nat.log2 (d / l.length)) l++ei (Nat.log2 (d / l.length)) 0 l):=(by unfold gY;rw [ae o]);rw [e,bG];unfold fu;rw [xR d l.length _ D (by omega),af rfl,ae (by omega)];simp only [mw];generalize Nat.log2 (d / l.length)=w;have G:il (eG w l++ei w 0 l):=(R5 w l).app (R7 w l 0);have F:=By w l;have I:(eG w l++ei w 0 l).length=l.length*w+(ei w 0 l).length:=(by rw [am,F]);have J:=nt (eG w l++ei w 0 l);have z:∀ i,i<8*(cx (eG w l++ei w 0 l)).length->dU (cx (eG w l++ei w 0 l)++r) i=dA (eG w l++ei w 0 l) i:=fun i h=>BN G r i h;have K := Ts d w (cx (eG w l ++ ei w 0 l) ++ r) l 0 (l.length * w) 0 0 [] (fun j m => by
    rw [iH];have Q : w * j + w ≤ l.length * w := (by rw [← Nat.mul_succ, dX]; exact bQ _ m);rw [Fx _ _ l[j] w w (al _) fun i h => by
      rw[z _ ω, To w l j m i h]
      rw[bq, bj m]; rfl]
    rw[fY, Nat.pow_zero, Nat.div_one]) (λj m => by
    rw[z _ ω];have := yK (eG w l) (ei w 0 l) j;rw[F] at this
    exact this) (by rw[am]; omega) A ω
  rw[K];have L:tq (cx (eG w l++ei w 0 l)++r) (l.length*w+(ei w 0 l).length)=true:=(by unfold tq;refine bp ((Fv _ _ _).2 λi h=>?_);rw[z _ ω,lY _ _ ω]);simp only[↓reduceIte,L,fJ];rw[ae (by rw[am];omega)];rw[am,J,I]
structure TS where
 text:Z0
 source:Z0
def TS.terms(r:TS):List Z0:=qF r.text r.source
def dy(l:List TS):List Z0:=oH [] (l.flatMap TS.terms)
def cY(l:List TS)(t:Z0):List Nat:=(List.range l.length).filter λi=>match l[i]? with | some r=>decide (t∈r.terms) | none=>false
def G5(l:List TS):mR (dy l):=Ay _ _ List.Pairwise.nil
def Bf(l:List TS)(t:Z0):t∈dy l↔∃r∈l,t∈r.terms:=by
 unfold dy;rw[Az];simp
def Dn(r:TS):∀t∈r.terms,1<=t.length/\t.length<=25:=by
 intro t d;unfold TS.terms qF at d;rw[Az]at d;rcases d with h | h;·cases h
 ·rcases jD.1 h with h | h;·have:=CT r.text t h;omega
  ·obtain⟨x,e,rfl⟩:=ee.1 h;have:=CT r.source x e;simp;omega
def Dm(r:TS):r.terms.length<=r.text.length+r.source.length:=by
 unfold TS.terms qF;refine ay (EN _ _) ?_;have d:=wS r.text;have e:=wS r.source;simp;omega
def xX(l:List TS):∀t∈dy l,1<=t.length/\t.length<=25:=by
 intro t d;obtain⟨r,_,h⟩:=(Bf l t).1 d;exact Dn r t h
def xW(l:List TS):(dy l).length<=bS (λr:TS=>r.text.length+r.source.length) l:=by
 unfold dy;refine ay (EN _ _) ?_;have:(l.flatMap TS.terms).length<=bS (λr:TS=>r.text.length+r.source.length) l:=by
  induction l with
  | nil=>simp[bS]
  | cons r l d=>have:=Dm r;simp only[List.flatMap_cons,am,bS,dD,gQ]at *;omega
 simp only[gS];omega
def xY(l:List TS)(t:Z0):∀i∈cY l t,i<l.length:=by
 intro i d;unfold cY at d;exact dN.1 (lG.1 d).1
def Bg(l:List TS)(t:Z0)(i:Nat)(h:i<l.length):i∈cY l t↔t∈l[i].terms:=by
 unfold cY;rw[lG];simp[h]
def RU(l:List TS)(t:Z0)(h:t∈dy l):cY l t≠[]:=by
 obtain⟨r,d,m⟩:=(Bf l t).1 h;obtain⟨i,o,rfl⟩:=pC.1 d;intro e;have:=(Bg l t i o).2 m;rw[e]at this;cases this
theorem EB(d:Nat):∀(l:List Nat) (e:Nat),l.Pairwise (·<·)->(∀x∈l,e<=x/\x<d)->et d e l=true
 | [],_,_,_=>rfl
 | x::l,e,z,h=>by
  obtain⟨A,D⟩:=kG.1 z
  have m:=h x σ
  rw[et,bp m.1,bp m.2,EB d l (x+1) D (λy o=>⟨A y o,(h y (by simp[o])).2⟩)]
  rfl
def RT(l:List TS)(t:Z0):et l.length 0 (cY l t)=true:=
 EB _ _ _ (by unfold cY;exact List.pairwise_lt_range.filter _) (λx d=>⟨ar _,xY l t x d⟩)
def RS(l:List TS)(t:Z0)(k:Nat)(h:k<l.length):cY (l.take (k+1)) t=cY (l.take k) t++(if t∈l[k].terms then [k]else []):=by
 have m:(l.take k).length=k:=by simp;omega
 have o:(l.take (k+1)).length=k+1:=by simp;omega
 unfold cY;rw[m,o,jr,sF];congr 1;·apply List.filter_congr;intro i z;have A:=dN.1 z;rw[C1 A,C1 ω]
 ·rw[mX];have e:(l.take (k+1))[k]?=some l[k]:=(by rw[C1 ω,bj h]);rw[e];by_cases d:t∈l[k].terms;·simp[d]
  ·simp[d]
theorem Hf(w e:Nat):∀(l:List Nat) (m d:Nat),et e m l=true->d<=m / 2^w->d<=e->(ei w d l).length<=l.length+(e-d)
 | [],_,_,_,_,_=>by simp[ei]
 | x::l,m,d,h,z,A=>by
  rw[et]at h
  simp only[fL,en]at h
  have D:=lh w
  have F:m / 2^w<=x / 2^w:=Cu h.1.1
  have G:x / 2^w<=x:=kF _ _
  have o:x / 2^w<=(x+1) / 2^w:=Cu ω
  have I:=Hf w e l (x+1) (x / 2^w) h.2 o ω
  rw[ei,am,sV,aL]
  omega
def Tp(d:Nat)(l:List Nat)(h:d<=20000)(e:et d 0 l=true):(gY d l).length<=2*d+10:=by
 have A:=xC d l 0 (ar _) e;have D:=cJ l.length ω;unfold gY;rw[am];split;·simp;omega
 ·rename_i m;have o:0<l.length:=zj.2 m;have F:d / l.length<=20000:=ay (kF _ _) h;have z:d / l.length≠0:=(by have:1<=d / l.length:=(ui o).2 ω;omega);have G:Nat.log2 (d / l.length)<15:=(Nat.log2_lt z).2 ω;have I:=Hf (Nat.log2 (d / l.length)) d l 0 0 e (ar _) (ar _);have J:=By (Nat.log2 (d / l.length)) l;have K:l.length*Nat.log2 (d / l.length)<=l.length*14:=oj _ ω;rw[nt,am];omega
def ju(d:Nat)(e:List (List Nat)):Z0:=(e.map (gY d)).flatten
def Cs.num_back{s:Cs}{b q:Z0}{x:Nat}(d:s.er=0)(h:b.drop s.at_=ao x++q)(e:x<18446744073709551616):s.num b=(x,⟨s.at_+(ao x).length,0⟩):=by
 unfold Cs.num Cs.val Cs.step;rw[h,Fu x q e,af ⟨d,rfl⟩,af d,af rfl]
def Cs.int_back{s:Cs}{b q:Z0}{x most:Nat}(d:s.er=0)(h:b.drop s.at_=ao x++q)(e:x<=most)(m:x<18446744073709551616):s.int b most=(x,⟨s.at_+(ao x).length,0⟩):=by
 unfold Cs.int Cs.val Cs.step;rw[h,xR most x q e m,af ⟨d,rfl⟩,af d,af rfl]
def Cs.text_back{s:Cs}{b q t:Z0}{most:Nat}(d:s.er=0)(h:b.drop s.at_=ci t++q)(e:t.length<=most)(m:t.length<18446744073709551616):s.text b most=(t,⟨s.at_+(ci t).length,0⟩):=by
 unfold Cs.text Cs.step;rw[h,Le most t q e m,af d,af d];rfl
def Cs.take_back{s:Cs}{b q t:Z0}(d:s.er=0)(h:b.drop s.at_=t++q)(m:s.at_<=b.length):s.take b t.length=(t,⟨s.at_+t.length,0⟩):=by
 have e:=dp List.length h;rw[aN,am]at e;unfold Cs.take;rw[af d,ae ω,h,nK]
def gn{b p q:Z0}{a:Nat}(h:b.drop a=p++q):b.drop (a+p.length)=q:=by
 rw[<- lk,h,mw]
def Cs.byte_back{s:Cs}{b q:Z0}{x:UInt8}(d:s.er=0)(h:b.drop s.at_=x::q)(e:s.at_<=b.length):s.byte b=(x.toNat,⟨s.at_+1,0⟩):=by
 have:=Cs.take_back (t:=[x]) d h e;unfold Cs.byte;rw[show s.take b 1=_ from this];rfl
def Cs.fin_back{s:Cs}{b:Z0}(h:b.length<=s.at_):s.fin b=s:=by
 unfold Cs.fin;rw[ae ω]
def QP(d:Nat)(A:d<=20000)(b:Z0)(m:List (List Nat)):∀(a:Nat) (o:List (List Nat)),b.drop a=ju d m->(∀l∈m,et d 0 l=true/\¬l=[])->gX d b m.length a o=(o++m,0):=by
 induction m with
 | nil=>intro a o h _;have D:=dp List.length h;rw[aN]at D;have K:(ju d []).length=0:=(by simp[ju]);show(if a<b.length then(([],2):List (List Nat) × Nat)else(o,0))=_;rw[ae ω,dg]
 | cons l m F=>intro a o h z;have e:ju d (l::m)=gY d l++ju d m:=(by simp[ju]);rw[e]at h;obtain⟨G,I⟩:=z l σ;rw[aL,gX,h,Tl d l _ G A,af rfl,ae I];rw[F _ _ (gn h) λx J=>z x (by simp[J]),bG,pB]
def Kg(d:Nat)(h:d<18446744073709551616):js (jF d)=d:=by
 unfold js jF;split;·split <;> omega
 ·split <;> omega
def Kc(d:Nat)(e:d<18446744073709551616):jF d<18446744073709551616:=by unfold jF;split <;> omega
def TJ(t d:Nat)(e:t<18446744073709551616)(h:d<18446744073709551616):(d+oW t d)%18446744073709551616=t:=by
 unfold oW;omega
def LC(b q:Z0)(l:List Nat):∀(s:Cs) (d:Nat) (m:List Nat),s.er=0->d<18446744073709551616->(∀t∈l,t<18446744073709551616)->b.drop s.at_=gu d l++q->gt b l.length s d m=(m++l,⟨s.at_+(gu d l).length,0⟩):=by
 induction l with
 | nil=>intro s d m o _ _ _;obtain⟨a,e⟩:=s;have:e=0:=o;subst this;simp[gt,gu]
 | cons t l D=>intro s d m o F z h;have A:=z t σ;rw[gu,bG]at h;have G:=Cs.num_back o h (Kc _ (yj t d));rw[aL,gt,af o,G];simp only[Kg _ (yj t d),TJ t d A F];rw[D _ _ _ rfl A (λx I=>z x (by simp[I])) (gn h),bG,pB,gu,am];simp only[jq]
def QX(b q:Z0)(n:Nat)(Z:n<18446744073709551616)(l:Z0):∀(s:Cs) (x:UInt8) (c f:Nat) (m:Z0),s.er=0->s.at_<=b.length->1<=c->m.length+c+l.length=n->c+l.length<=f->(m=[]\/¬m.getLastD 0=x)->b.drop s.at_=gW x c l++q ->
  fG b n f s m=(m++List.replicate c x++l,⟨s.at_+(gW x c l).length,0⟩):=by
 have step:∀(s:Cs) (x:UInt8) (c f:Nat) (m J:Z0),s.er=0->s.at_<=b.length->1<=c->m.length+c<=n->(m=[]\/¬m.getLastD 0=x)->b.drop s.at_=(x::ao c)++J ->
   fG b n (f+1) s m=fG b n f ⟨s.at_+(x::ao c).length,0⟩ (m++List.replicate c x):=by
  intro s x c f m J o z D F A h
  have L:=Cs.byte_back o h z
  have M:iZ b n s m=(c,⟨s.at_+1+(ao c).length,0⟩):=by
   unfold iZ
   rw[L]
   refine Cs.int_back rfl ?_ ω ω (q:=J)
   exact gn (p:=[x]) h
  have O:pU b s=x.toNat:=by unfold pU;rw[L]
  have hC:qU b n s m=⟨s.at_+1+(ao c).length,0⟩:=by
   unfold qU
   rw[M,O,ae]
   rintro⟨_,G | ⟨G,R⟩⟩
   ·have G:c=0:=G
    omega
   ·rcases A with rfl | U
    ·simp at G
    ·exact U (eP.1 R)
  rw[fG,af ⟨ω,o⟩,hC,M,O,aL,show s.at_+1+(ao c).length=s.at_+((ao c).length+1) by omega]
  simp
 have V:∀f s (m:Z0),n<=m.length->fG b n f s m=(m,s):=by
  intro f s m h
  cases f with
  | zero=>rfl
  | succ f=>rw[fG,ae ω]
 induction l with
 | nil=>intro s x c f m o z D F K A h;rw[gS,dq]at F K;obtain⟨f,rfl⟩:∃g,f=g+1:=⟨f-1,ω⟩;rw[gW]at h ⊢;rw[step s x c f m q o z D ω A h,V _ _ _ (by simp;omega),dg]
 | cons y l Q=>
  intro s x c f m o z D F K A h;rw[aL]at F K;rw[gW]at h ⊢;by_cases I:y=x;·rw[af I]at h ⊢;rw[Q s x (c+1) f m o z ω ω ω A h,I];simp[List.replicate_succ']
  ·rw[ae I]at h ⊢;obtain⟨f,rfl⟩:∃g,f=g+1:=⟨f-1,ω⟩;rw[bG]at h;have X:=gn h;have Y:s.at_+(x::ao c).length<=b.length:=(by have:=dp List.length h;rw[aN,am]at this;omega);rw[step s x c f m _ o z D ω A h];rw[Q ⟨s.at_+(x::ao c).length,0⟩ y 1 f (m++List.replicate c x) rfl Y ω (by simp;omega) ω (.inr ?_) X];·simp[jq,oq 1]
   ·obtain⟨c,rfl⟩:∃d,c=d+1:=⟨c-1,ω⟩;rw[List.replicate_succ',<- bG,Cy];exact λe=>I e.symm
def Ur(ts:List Nat)(d q:Z0)(e:d.length=ts.length)(m:∀t∈ts,t<18446744073709551616)(o:ts.length<18446744073709551616):fi ts.length (gu 0 ts++gI d++q)=(ts,d,(gu 0 ts++gI d).length,0):=by
 have h:tQ ts.length (gu 0 ts++gI d++q)=(ts,⟨(gu 0 ts).length,0⟩):=by unfold tQ;rw[LC _ (gI d++q) ts ⟨0,0⟩ 0 [] rfl ω m (by rw[bG];rfl)];simp
 have z:rY ts.length (gu 0 ts++gI d++q)=(d,⟨(gu 0 ts++gI d).length,0⟩):=by
  unfold rY;rw[h]
  cases d with
  | nil=>rw[gS]at e;rw[<- e];simp[fG,gI]
  | cons x l=>rw[aL]at e;rw[QX _ q ts.length o l ⟨(gu 0 ts).length,0⟩ x 1 ts.length [] rfl σ ω (by simp;omega) ω (.inl rfl) (by rw[bG];show List.drop (gu 0 ts).length _=_;rw[mw];rfl)];simp[gI]
 unfold fi;rw[z,h,af rfl]
theorem Et:∀d s:Z0,d.take (cQ d s)++s.drop (cQ d s)=s
 | [],s=>by simp[cQ]
 | a::l,[]=>by simp[cQ]
 | a::l,b::m=>by
  rw[cQ]
  split
  ·rename_i h
   have:=Et l m
   rw[gD,zk,lm,this,h]
  ·simp
theorem Eu:∀d s:Z0,d<s->cQ d s<s.length
 | [],[],h=>absurd h (s8 _)
 | [],b::m,_=>by simp[cQ]
 | a::l,[],h=>by cases h
 | a::l,b::m,h=>by
  rw[cQ]
  split
  ·rename_i e
   subst e
   have o:l<m:=by
    rcases List.cons_lt_cons_iff.1 h with h | ⟨_,h⟩
    ·exact absurd h (UInt8.lt_irrefl _)
    ·exact h
   have:=Eu l m o
   rw[aL];omega
  ·simp
def F8{d s:Z0}(e:1<=s.length)(h:s.length<=25)(m:d<s):nX d s=true:=by
 unfold nX;rw[bp (by rintro rfl;simp at e),bp h,bp m];rfl
def SQ(part:Z0)(l:List Z0):∀(m:Z0) (i:Nat) (d:Cs) (t:List Z0),d.er=0->part.drop d.at_=jR m l->1<=i->t.getLastD []=m->m.length<=25->(m::l).Pairwise (·<·)->(∀s∈l,1<=s.length/\s.length<=25)->gM part l.length i d t=(t++l,0):=by
 induction l with
 | nil=>intro m i d t o h _ _ _ _ _;have D:=dp List.length h;rw[aN]at D;simp only[jR,gS]at D;rw[gS,gM,Cs.fin_back ω,o,dg]
 | cons s l L=>intro m i d t o h V M X F G;obtain⟨O,I⟩:=G s σ;have J:m<s:=(kG.1 F).1 s σ;have Y:=Eu m s J;have Q:=(uP m s).1;rw[jR,bG]at h;have z:l7 d part m (decide (i=0))=(cQ m s,⟨d.at_+(ao (cQ m s)).length,0⟩):=(by unfold l7;rw[br ω,ae σ];exact Cs.int_back o h Q ω);have A:jw d part m (decide (i=0))=(s.drop (cQ m s),⟨d.at_+(ao (cQ m s)).length+(ci (s.drop (cQ m s))).length,0⟩):=(by unfold jw;rw[z];exact Cs.text_back rfl (gn h) (by rw[aN];omega) (by rw[aN];omega));have K:kN d part m (decide (i=0))=s:=(by unfold kN;rw[z,A];exact Et m s);have R:nT d part m (decide (i=0))=true:=(by unfold nT;rw[K,A,z,F8 O I J];have:¬s.drop (cQ m s)=[]:=(by intro e;have:=dp List.length e;rw[aN]at this;simp at this;omega);simp[this]);have hC:jx d part m (decide (i=0))=⟨d.at_+(ao (cQ m s)).length+(ci (s.drop (cQ m s))).length,0⟩:=(by unfold jx;rw[R,A,ae σ]);rw[aL,gM,M,hC,af rfl,K];rw[L s (i+1) _ _ rfl (gn (gn h)) ω (by rw[Cy]) I (kG.1 F).2 (λx U=>G x (by simp[U])),bG,pB]
def SR(l:List Z0)(s:Z0)(t:List Z0)(D:t.getLastD []<s)(F:(s::l).Pairwise (·<·))(m:∀x∈s::l,1<=x.length/\x.length<=25):gM (aZ (s::l)) (s::l).length 0 ⟨0,0⟩ t=(t++s::l,0):=by
 obtain⟨o,d⟩:=m s σ;have h:(aZ (s::l)).drop 0=ci s++jR s l:=rfl;have z:l7 ⟨0,0⟩ (aZ (s::l)) (t.getLastD []) (decide (0=0))=(0,⟨0,0⟩):=rfl;have e:jw ⟨0,0⟩ (aZ (s::l)) (t.getLastD []) (decide (0=0))=(s,⟨0+(ci s).length,0⟩):=by unfold jw;rw[z];exact Cs.text_back rfl h d ω
 have A:kN ⟨0,0⟩ (aZ (s::l)) (t.getLastD []) (decide (0=0))=s:=by unfold kN;rw[z,e];simp
 have G:nT ⟨0,0⟩ (aZ (s::l)) (t.getLastD []) (decide (0=0))=true:=by unfold nT;rw[A,e,F8 o d D];have:¬s=[]:=(by rintro rfl;simp at o);simp[this]
 have hC:jx ⟨0,0⟩ (aZ (s::l)) (t.getLastD []) (decide (0=0))=⟨0+(ci s).length,0⟩:=by unfold jx;rw[G,e,ae σ]
 rw[aL,gM,hC,af rfl,A];rw[SQ (aZ (s::l)) l s 1 _ _ rfl (gn (a:=0) h) ω (by rw[Cy]) d F (λx I=>m x (by simp[I])),bG,pB]
def Me(b q:Z0)(d:List Nat):∀(s:Cs) (l:List Nat),s.er=0->b.drop s.at_=(d.map ao).flatten++q->(∀z∈d,z<=2000)->iu b d.length s l=(l++d,⟨s.at_+(d.map ao).flatten.length,0⟩):=by
 induction d with
 | nil=>intro s l m _ _;obtain⟨a,e⟩:=s;have:e=0:=m;subst this;simp[iu]
 | cons z d A=>intro s l m h o;rw[dD,oy,bG]at h;have D:=o z σ;have F:=Cs.int_back (most:=2000) m h D ω;rw[aL,iu,af m,F];rw[A _ _ rfl (gn h) (λx G=>o x (by simp[G])),bG,pB];simp[jq]
def TR(b q:Z0)(size n:Nat)(d:List (List Z0)):∀(i:Nat) (s:Cs) (t:List Z0),s.er=0->s.at_<=b.length->b.drop s.at_=(d.map aZ).flatten++q ->
  (∀j (h:j<d.length),d[j].length=min size (n-(i+j)*size)/\¬d[j]=[])->(t++d.flatten).Pairwise (·<·)->(∀x∈d.flatten,1<=x.length/\x.length<=25) ->
  gN b size n (d.map λc=>(aZ c).length) i s t=(t++d.flatten,⟨s.at_+(d.map aZ).flatten.length,0⟩,0):=by
 induction d with
 | nil=>intro i s t z _ _ _ _ _;obtain⟨a,e⟩:=s;have:e=0:=z;subst this;simp[gN]
 | cons c d I=>
  intro i s t z J h D m o;rw[dD,oy,bG]at h;rw[oy]at m o;obtain⟨F,G⟩:=D 0 σ;simp only[sA,dq]at F G;have K:=Cs.take_back z h J
  cases c with
  | nil=>exact absurd rfl G
  | cons x l=>
   have L:=(o x σ).1;have M:t.getLastD []<x:=by
    rcases List.eq_nil_or_concat t with rfl | ⟨V,y,rfl⟩
    ·cases x with
     | nil=>simp at L
     | cons c x=>exact List.nil_lt_cons c x
    ·rw[List.concat_eq_append,Cy];exact(Cw.1 m).2.2 y σ x σ
   have O:(x::l).Pairwise (·<·):=(Cw.1 (Cw.1 m).2.1).1;have Q:=SR l x t M O (λy A=>o y (List.mem_append_left _ A));have R:s.at_+(aZ (x::l)).length<=b.length:=(by have:=dp List.length h;rw[aN,am]at this;omega);rw[dD,gN,K,af rfl,<- F,Q,af rfl];rw[I (i+1) _ _ rfl R (gn h) (λj U=>?_) (by rw[bG];exact m) (λy A=>o y (List.mem_append_right _ A))];·simp[jq]
   ·have:=D (j+1) (by simpa using U);rw[show i+1+j=i+(j+1) by omega];simpa using this
def TN(size:Nat)(ts:List Z0)(d:List (List Z0))(q:Z0)(F:ts.length<=1048576)(G:d.length=(ts.length+size-1) / size)(e:d.flatten=ts)
  (hcs:∀j (h:j<d.length),d[j].length=min size (ts.length-j*size)/\¬d[j]=[]) (hz:∀c∈d,(aZ c).length<=2000) (hp:ts.Pairwise (·<·)) (he:∀x∈ts,1<=x.length/\x.length<=25) :
  dn size ((ao ts.length++(d.map λc=>ao (aZ c).length).flatten)++(d.map aZ).flatten++q)=(ts,((ao ts.length++(d.map λc=>ao (aZ c).length).flatten)++(d.map aZ).flatten).length,0):=by
 obtain⟨b,m⟩:∃b,b=(ao ts.length++(d.map λc=>ao (aZ c).length).flatten)++(d.map aZ).flatten++q:=⟨_,rfl⟩;have o:(d.map λc=>ao (aZ c).length)=(d.map λc=>(aZ c).length).map ao:=σ
 have A:b.drop 0=ao ts.length++(((d.map λc=>(aZ c).length).map ao).flatten++((d.map aZ).flatten++q)):=by rw[m,o];simp
 have hN:ey b=(ts.length,⟨0+(ao ts.length).length,0⟩):=Cs.int_back rfl A F ω;have D:=gn A;have I:oh size b=((d.map λc=>(aZ c).length),⟨0+(ao ts.length).length+((d.map λc=>(aZ c).length).map ao).flatten.length,0⟩):=by
  unfold oh;have := Me b _ (d.map fun c => (aZ c).length) ⟨0 + (ao ts.length).length, 0⟩ [] rfl D (fun z J => by
    obtain ⟨c, K, rfl⟩ := ee.1 J
    exact hz c K)
  rw[cy,G]at this;rw[hN];simpa using this
 have L:tP size b=(ts,⟨0+(ao ts.length).length+((d.map λc=>(aZ c).length).map ao).flatten.length+(d.map aZ).flatten.length,0⟩,0):=by
  unfold tP;rw [hN,I];have := TR b q size ts.length d 0 ⟨0 + (ao ts.length).length + ((d.map fun c => (aZ c).length).map ao).flatten.length, 0⟩ [] rfl (by
    rw[m, o];simp only[am]
    omega) (gn D) (λj M => by rw[iH]; exact hcs j M) (by rw[e]; exact hp) (by rw[e]; exact he)
  rw[e,fJ]at this;exact this
 rw[<- m];unfold dn;rw[L,af rfl,o];simp only[am];congr 2;omega
def Fw(r:Z0)(a n:Nat):∀m,aI r a (n+m) / 2^m=aI r a n:=by
 intro m
 induction m with
 | zero=>simp
 | succ m d=>have:=yJ r (a+(n+m));rw[<- jq,aI,gC,dX (2^m) 2,<- uk,show(2*aI r a (n+m)+dU r (a+(n+m))) / 2=aI r a (n+m) by omega,d]
def dP(r:Z0)(n:Nat):Nat->Nat->Z0->Bool->Z0 × Nat × Nat
 | 0,a,d,_=>(d,a,0)
 | f+1,a,d,e=>
  if n<=d.length then(d,a,0)
  else if 8*r.length<a+4 then([],a,1)
  else if 0<aI r a 4 then dP r n f (a+4) (d++[UInt8.ofNat (aI r a 4)]) false
  else if 8*r.length<a+4+6 then([],a,1)
  else if e=true\/n-d.length<=aI r (a+4) 6 then([],a,7)
  else dP r n f (a+4+6) (d++List.replicate (aI r (a+4) 6+1) 0) (decide (aI r (a+4) 6+1<64))
def bI(r:Z0)(n a:Nat):Z0 × Nat × Nat:=
 if(dP r n n a [] false).2.2=0 then(if bX (dP r n n a [] false).1 then dP r n n a [] false else([],a,7))else dP r n n a [] false
def gw(r:Z0)(a:Nat):Nat:=min 15 (8*r.length-a)
def aF(d r:Z0)(a:Nat):Nat × Nat × Nat:=
 match nZ d (aI r a 15) (gw r a)with
 | some s=>(s,a+bg d s,0)
 | none=>(0,a,if oK d (aI r a (gw r a)) (gw r a)then 1 else 7)
def eb(e r:Z0)(d a:Nat):aU × Nat × Nat:=
 if 8*r.length<a+(d-257)then(⟨0,0,0⟩,a,1)
 else if (aF e r (a + (d-257))).2.2 = 0 then
  (if 8 * r.length < (aF e r (a + (d - 257))).2.1 + (aF e r (a + (d - 257))).1 then (⟨0, 0, 0⟩, a, 1)
   else (⟨0, 2 + 2 ^ (d - 257) + aI r a (d - 257), 2 ^ (aF e r (a + (d - 257))).1 + aI r (aF e r (a + (d - 257))).2.1 (aF e r (a + (d - 257))).1⟩,
     (aF e r (a + (d-257))).2.1 + (aF e r (a + (d-257))).1, 0))
 else(⟨0,0,0⟩,a,(aF e r (a+(d-257))).2.2)
def db(t:aU):Nat:=max 1 t.len
def gF(d e r:Z0):Nat->Nat->Nat->List aU->List aU × Nat × Nat
 | 0,_,a,h=>(h,a,0)
 | f+1,most,a,h=>
  if (aF d r a).2.2 = 0 then
   (if (aF d r a).1 = 256 then (h, (aF d r a).2.1, 0)
    else if (aF d r a).1 < 256 then
      (if most < 1 then ([], a, 6) else gF d e r f (most-1) (aF d r a).2.1 (h ++ [⟨UInt8.ofNat (aF d r a).1, 0, 0⟩]))
    else if (eb e r (aF d r a).1 (aF d r a).2.1).2.2 = 0 then
      (if most < db (eb e r (aF d r a).1 (aF d r a).2.1).1 then ([], a, 6)
       else gF d e r f (most-db (eb e r (aF d r a).1 (aF d r a).2.1).1) (eb e r (aF d r a).1 (aF d r a).2.1).2.1 (h ++ [(eb e r (aF d r a).1 (aF d r a).2.1).1]))
    else ([], a, (eb e r (aF d r a).1 (aF d r a).2.1).2.2))
  else([],a,(aF d r a).2.2)
def nR(r:Z0)(a:Nat):Bool:=decide (8*r.length<a+8) && decide (aI r a (8*r.length-a)=0)
def oC(r:Z0):Z0 × Nat × Nat:=bI r 265 0
def oD(r:Z0):Z0 × Nat × Nat:=bI r 12 (oC r).2.1
def pH(r:Z0)(most:Nat):List aU × Nat × Nat:=gF (oC r).1 (oD r).1 r (8*r.length+1) most (oD r).2.1 []
def fA(r:Z0)(most:Nat):List aU × Nat:=
 if (oC r).2.2 = 0 then
  (if (oD r).2.2 = 0 then
    (if (pH r most).2.2 = 0 then (if nR r (pH r most).2.1 then ((pH r most).1, 0) else ([], 2)) else ([], (pH r most).2.2))
   else ([], (oD r).2.2))
 else([],(oC r).2.2)
def nD(d:Nat):Nat->Z0->Z0
 | 0,e=>e
 | n+1,e=>nD d n (e++[e.getD (e.length-d) 0])
def H5(d n:Nat):∀e,(nD d n e).length=e.length+n:=by
 induction n with
 | zero=>intro e;rfl
 | succ n h=>intro e;rw[nD,h,am];simp;omega
def eg(most:Nat):List aU->Z0->Z0 × Nat
 | [],d=>(d,0)
 | t::l,d=>
  if ex t=false then([],7)
  else if d.length<t.dist then([],8)
  else if most<d.length+db t then([],6)
  else if t.len=0 then eg most l (d++[t.lit])else eg most l (nD t.dist t.len d)
def fy(b:Z0):Nat × Cs:=(⟨0,0⟩:Cs).byte b
def oY(b:Z0):Cs:=if 1<(fy b).1 then(fy b).2.fail 2 else(fy b).2
def d8(b:Z0):Nat × Cs:=(oY b).int b 32768
def em(b:Z0):Nat × Cs:=(d8 b).2.int b 32768
def lC(b:Z0):Cs:=if 1032*(em b).1+64<(d8 b).1 then(em b).2.fail 6 else(em b).2
def fj(b:Z0):Z0 × Cs:=(lC b).take b (em b).1
def iR(b:Z0):Z0 × Cs:=(fj b).2.take b 4
def kV(b:Z0):Nat:=if(iR b).2.er=0 then cK (b.take (iR b).2.at_)else(iR b).2.er
def qD(n:Nat)(d:Z0):Z0 × Nat:=
 if (fA d n).2 = 0 then
  (if(eg n (fA d n).1 []).2=0 then(if(eg n (fA d n).1 []).1.length<n then([],2)else((eg n (fA d n).1 []).1,0))else([],(eg n (fA d n).1 []).2))
 else([],(fA d n).2)
def eM(b:Z0):Z0 × Nat:=
 if(fy b).1=0 then(if(d8 b).1=(em b).1 then((fj b).1,0)else([],2))else qD (d8 b).1 (fj b).1
def df(b:Z0):Z0 × Nat × Nat:=
 if kV b=0 then(if(eM b).2=0 then((eM b).1,(iR b).2.at_,0)else([],0,(eM b).2))else([],0,kV b)
def EL(b:Z0):Nat->Cs->List (Z0 × Z0)->List (Z0 × Z0) × Nat
 | 0,s,d=>(d,s.er)
 | f+1,s,d=>
  if b.length<=s.at_ then(d,0)
  else if((s.text b 4000).2.text b 4000).2.er=0 then EL b f ((s.text b 4000).2.text b 4000).2 (d++[((s.text b 4000).1,((s.text b 4000).2.text b 4000).1)])
  else([],((s.text b 4000).2.text b 4000).2.er)
def Yr(b:Z0):List (Z0 × Z0) × Nat:=EL b (b.length+1) ⟨0,0⟩ []
def mT(r:Z0)(a:Nat)(l:Z0):Prop:=a+l.length<=8*r.length/\∀i,i<l.length->dU r (a+i)=dA l i
def mT.left{r:Z0}{a:Nat}{l m:Z0}(h:mT r a (l++m)):mT r a l:=by
 obtain⟨e,d⟩:=h;rw[am]at e d;exact⟨ω,λi o=>by rw[d i ω,vP _ _ _ o]⟩
def mT.right{r:Z0}{a:Nat}{l m:Z0}(h:mT r a (l++m)):mT r (a+l.length) m:=by
 obtain⟨e,d⟩:=h;rw[am]at e d;exact⟨ω,λi o=>by rw[jq,d _ ω,yK]⟩
def mT.num{r:Z0}{a x n:Nat}(h:mT r a (bP x n))(m:x<2^n):aI r a n=x:=by
 obtain⟨_,d⟩:=h;rw[fX]at d;rw[Fx r a x n n (al _) λi e=>by rw[d i e,IN x n i e]];rw[fY,Nat.pow_zero,Nat.div_one,nI m]
def JY(l:Z0):∀k,l.take (dh l k)=List.replicate (dh l k) 0:=by
 induction l with
 | nil=>intro k;simp[dh]
 | cons c l d=>
  intro k
  cases k with
  | zero=>simp[dh]
  | succ k=>
   rw[dh];split;·rename_i h;rw[gD,d k,h,wz]
   ·simp
def JX(l:Z0):∀k,dh l k<k->l.drop (dh l k)=[]\/∃c t,l.drop (dh l k)=c::t/\¬c=0:=by
 induction l with
 | nil=>intro k _;simp
 | cons c l e=>
  intro k h
  cases k with
  | zero=>omega
  | succ k=>
   rw[dh]at h ⊢;split;·rename_i d;rw[af d]at h;rw[zk];exact e k ω
   ·rename_i d;exact .inr ⟨c,l,rfl,d⟩
def QE(r:Z0)(n:Nat):∀(f:Nat) (m:Z0) (a:Nat) (D:Z0) (z:Bool),m.length<=f->D.length+m.length=n->(∀c∈m,c.toNat<=15)->mT r a (dr m)->(z=true->m=[]\/∃c t,m=c::t/\¬c=0)->dP r n f a D z=(D++m,a+(dr m).length,0):=by
 intro f
 induction f with
 | zero=>intro m a D z R I _ _ _;have:m=[]:=List.length_eq_zero_iff.1 ω;subst this;simp[dP,rz]
 | succ f U=>
  intro m a D z R I J o V
  cases m with
  | nil=>rw[dP,af (by simp at I;omega),rz];simp
  | cons c m=>
   rw[aL]at R I;by_cases F:c=0
   ·have X:z=false:=by
      cases z with
      | false=>rfl
      | true=>
       rcases V rfl with h | ⟨d,t,h,Y⟩;·cases h
       ·cases h;exact absurd F Y
    have hz:=C7 m 63;rw[wQ m c F]at o ⊢;have G:=o.left;have A:=o.right.left;have K:=o.right.right;rw[fX]at A K;rw[fX]at K;have L:=G.num ω;have Z:=A.num (by have:(2:Nat)^6=64:=rfl;omega);have M:=G.1;have l2:=A.1;rw[fX]at M l2;rw[dP,ae ω,ae ω,L,ae ω,ae ω,Z,ae (by rw[X];simp;omega)];rw[U (m.drop (dh m 63)) _ _ _ (by rw[aN];omega) (by simp;omega) (λx O=>J x (by simp[s7 O])) K (λQ=>JX m 63 (by have:=lf Q;omega))];have e3:List.replicate (dh m 63+1) (0:UInt8)++m.drop (dh m 63)=c::m:=(by rw[wz,lm,<- JY m 63,jC,F]);rw[bG,e3];simp only[am,fX];congr 2;omega
   ·rw[wR m c F]at o ⊢;have aj:=J c σ;have ak:¬c.toNat=0:=λe=>F (eP.1 e);have G:=o.left;have A:=o.right;rw[fX]at A;have L:=G.num (by have:(2:Nat)^4=16:=rfl;omega);have M:=G.1;rw[fX]at M;rw[dP,ae ω,ae ω,L,af ω];rw[U m _ _ _ ω (by simp;omega) (λx O=>J x (by simp[O])) A (λQ=>by cases Q)];rw[UInt8.ofNat_toNat,bG,pB,am,fX];congr 2;omega
def FT(r d:Z0)(a:Nat)(e:∀c∈d,c.toNat<=15)(m:bX d=true)(o:mT r a (dr d)):bI r d.length a=(d,a+(dr d).length,0):=by
 unfold bI;rw[QE r d.length d.length d a [] false (al _) σ e o (λh=>by cases h),fJ,af rfl,af m]
def Sc(d:Z0)(x e s:Nat)(F:e<=15)(z:s<d.length)(h:rU d x e s=true):nZ d x e=some s:=by
 obtain⟨G,I,A⟩:=(rT _ _ _ _).1 h;obtain⟨t,J,_,m,D⟩:=G7 d x e (bg d s) (aE (d.take s) (bg d s)) G I F (yq d s _ z rfl) A;have K:=List.find?_some m;obtain⟨_,_,o⟩:=(rT _ _ _ _).1 K;rw [D]at o;have : t = s := Ik d (bg d s) t s J z D rfl (by
   rw[A] at o;unfold bV at o
   omega)
 rw[this]at m;exact m
def yb(d r:Z0)(a s:Nat)(K:bX d=true)(D:∀c∈d,c.toNat<=15)(o:¬bg d s=0)(A:mT r a (jb d s)):aF d r a=(s,a+bg d s,0):=by
 have m:s<d.length:=by
  rcases mV s d.length with h | h;·exact h
  ·exact absurd (uK d s h) o
 have z:=nN d s m;have F:d[s]≠0:=by intro e;rw[z,e]at o;exact o rfl
 have G:bg d s<=15:=by rw[z];exact D _ (bJ m)
 have I:=zG d K D s m F;rw[<- z]at I;have R:(2:Nat)^bg d s<=2^15:=fp ω G;have U:(2:Nat)^15=32768:=rfl;have L:(eK d).getD s 0=bV d (bg d s) s:=by rw[Ih d s m,vJ d s m,ae F,<- z,nI ω]
 rw[tW d s o,L]at A;have M:=A.num I;have O:=A.1;rw[fX]at O;have J:=Fw r a (bg d s) (15-bg d s);rw[Nat.add_sub_cancel' G,M]at J;have Q:nZ d (aI r a 15) (gw r a)=some s:=by refine Sc d _ _ s (Nat.min_le_left _ _) m ((rT _ _ _ _).2 ⟨ω,?_,J⟩);unfold gw;omega
 unfold aF;rw[Q]
def In(v:Nat)(h:1<=v):2^fx v+ix v=v:=by
 have:=yy v h;unfold ix fx at *;omega
def sU(a b:Z0)(t:aU):Prop:=¬bg a (aX t).sym=0/\(¬t.len=0->¬bg b (aX t).dist=0)
def Lz(a b r:Z0)(K:bX a=true)(Z:bX b=true)(Q:∀c∈a,c.toNat<=15)(a2:∀c∈b,c.toNat<=15)(he:¬bg a 256=0)(l:List aU):∀(f most p:Nat) (L:List aU),l.length<f->(l.map db).sum<=most->(∀t∈l,ex t=true/\sU a b t)->mT r p (cX a b l++cD a 256)->gF a b r f most p L=(L++l,p+(cX a b l++cD a 256).length,0):=by
 have o:∀(D:Z0) s,(jb D s).length=bg D s:=by
  intro D s;by_cases h:bg D s=0;·rw[IJ D s h,h];rfl
  ·rw[tW D s h,fX]
 have R:∀s,cD a s=jb a s:=λs=>by unfold cD;rw[af K]
 have pb:∀s,cD b s=jb b s:=λs=>by unfold cD;rw[af Z]
 induction l with
 | nil=>intro f most p L M _ _ h;obtain⟨f,rfl⟩:∃g,f=g+1:=⟨f-1,by simp at M;omega⟩;rw[show cX a b []++cD a 256=jb a 256 by rw[R];simp[cX]]at h ⊢;rw[gF,yb a r p 256 K Q he h,af rfl,af rfl,o,dg]
 | cons t l ih=>
  intro f most p L M hm hw h;obtain⟨f,rfl⟩:∃g,f=g+1:=⟨f-1,by simp at M;omega⟩;rw[aL]at M;rw[dD,gQ]at hm;obtain⟨O,G,I⟩:=hw t σ;have aj:=λx hx=>hw x (wA t hx);have e:cX a b (t::l)++cD a 256=fR a b t++(cX a b l++cD a 256):=(by simp[cX]);rw[e]at h ⊢;have A:=h.left;have F:=h.right;by_cases m:t.len=0;·have J:aX t=⟨t.lit.toNat,0,0,0⟩:=(by unfold aX;rw[af m]);have U:fR a b t=jb a t.lit.toNat:=(by unfold fR;rw[af m,J,R,dg]);have hd:t.dist=0:=(by unfold ex at O;rw[af m]at O;simpa using O);have bs:=t.lit.toNat_lt;rw[J]at G;rw[U]at A F ⊢;rw[o]at F;have hg:db t=1:=(by unfold db;omega);rw[hg]at hm;rw[gF,yb a r p _ K Q G A,af rfl,ae (show ¬t.lit.toNat=256 by omega),af (show t.lit.toNat<256 by omega),ae ω];rw[ih f (most-1) _ _ ω ω aj F];have ht:(⟨UInt8.ofNat t.lit.toNat,0,0⟩:aU)=t:=(by obtain⟨x,y,z⟩:=t;simp only at m hd;subst m hd;simp);rw[ht,bG,pB];simp only[am,o];congr 2;omega
  ·obtain⟨m1,m2,m3,V,m5⟩:=qT t O m;have J:aX t=⟨257+fx (t.len-2),ix (t.len-2),fx t.dist,ix t.dist⟩:=(by unfold aX;rw[ae m]);have I:=I m;have aC:=xr (t.len-2) ω;have ba:=xr t.dist V;have bb:=In (t.len-2) ω;have bc:=In t.dist V;have U:fR a b t=jb a (257+fx (t.len-2))++(bP (ix (t.len-2)) (fx (t.len-2))++(jb b (fx t.dist)++bP (ix t.dist) (fx t.dist))):=(by unfold fR;rw[ae m,J,R,pb];simp only[rr]);rw[J]at G I;rw[U]at A F ⊢;generalize ix t.dist=r2,fx t.dist=c2,ix (t.len-2)=r1,fx (t.len-2)=d at *;simp only at G I;have b1:=A.left;have X:=A.right.left;have b3:=A.right.right.left;have Y:=A.right.right.right;rw[o]at X;rw[o,fX]at b3;rw[o,fX,o]at Y;have l2:=X.1;have l4:=Y.1;rw[fX]at l2 l4;have hM:eb b r (257+d) (p+bg a (257+d))=(t,p+bg a (257+d)+d+bg b c2+c2,0):=(by unfold eb;rw[rr,ae ω,yb b r _ c2 Z a2 I b3,af rfl];rw[ae (show ¬8*r.length<p+bg a (257+d)+d+bg b c2+c2 by omega),X.num aC];simp only[Y.num ba];congr 1;obtain⟨x,y,z⟩:=t;simp only at m1 bb bc m2 V;rw[m1];congr 1 <;> omega);have hg:db t=t.len:=(by unfold db;omega);rw[gF,yb a r p _ K Q G b1,af rfl];simp only[hM];rw[ae ω,ae ω,af trivial,ae ω];have a1:p+(jb a (257+d)++(bP r1 d++(jb b c2++bP r2 c2))).length=p+bg a (257+d)+d+bg b c2+c2:=(by simp only[am,o,fX];omega);rw[a1]at F;rw[ih f _ _ _ ω ω aj F,bG,pB];have bn:p+bg a (257+d)+d+bg b c2+c2+(cX a b l++cD a 256).length=p+(jb a (257+d)++(bP r1 d++(jb b c2++bP r2 c2))++(cX a b l++cD a 256)).length:=(by rw[am (as:=jb a (257+d)++(bP r1 d++(jb b c2++bP r2 c2))),<- jq,a1]);rw[bn]
def V5(b:Z0)(a:Nat)(e:a<=b.length):∀d,d<=a->0<(dM b a d).1->(dM b a d).2<=a/\∀i,i<(dM b a d).1->b[a-(dM b a d).2+i]?=b[a+i]?:=by
 intro d
 induction d with
 | zero=>intro _ h;simp[dM]at h
 | succ d m=>
  intro o h;rw[dM]at h ⊢;unfold oE at h ⊢;split;·refine⟨o,λi z=>?_⟩;exact yM b 257 (a-(d+1)) a e i z
  ·rename_i A;rw[ae A]at h;exact m ω h
def Ui(b:Z0)(d:Nat)(A:1<=d):∀n p,d<=p->p+n<=b.length->(∀i,i<n->b[p-d+i]?=b[p+i]?)->nD d n (b.take p)=b.take (p+n):=by
 intro n
 induction n with
 | zero=>intro p _ _ _;rfl
 | succ n o=>
  intro p D F h;have z:(b.take p).length=p:=(by rw [aA];omega);have m:=h 0 (by omega);rw [dq,dq]at m;have e:b.take p++[(b.take p).getD ((b.take p).length - d) 0]=b.take (p+1):=(by rw [z,bq,C1 (by omega),m,bj (by omega)];exact(f8 (by omega)).symm);rw [nD, e, o (p + 1) (by omega) (by omega) fun i G => by
    have := h (i + 1) ω;rw[show p + 1-d + i = p-d + (i + 1) by omega, this]
    congr 1; omega]
  congr 1;omega
def GE(n d:Nat)(h:1<=n):db ⟨0,n,d⟩=n:=Nat.max_eq_right h
def OM(b:Z0)(most:Nat)(F:b.length<=most)(a:Nat)(G:a<=b.length):eg most (gL b a) (b.take a)=(b,0):=by
 induction a using gL.induct (b:=b)with
 | case1 a h d e=>have m:=tX b a ω (min 4095 a);have o:=V5 b a ω (min 4095 a) ω (by unfold cC at d;omega);have z:=yf b a ⟨0,(cC b a).1,(cC b a).2⟩ (by rw[tL b a h d];simp);have A:(b.take a).length=a:=(by rw[aA];omega);have D:db ⟨0,(cC b a).1,(cC b a).2⟩=(cC b a).1:=GE _ _ ω;change (cC b a).1<=257/\a+(cC b a).1<=b.length/\(cC b a).2<=min 4095 a/\(0<(cC b a).1->0<(cC b a).2)at m;change (cC b a).2<=a/\∀i,i<(cC b a).1->b[a-(cC b a).2+i]?=b[a+i]? at o;rw[tL b a h d,eg,z,ae σ,A,ae (show ¬a<(cC b a).2 by omega),D,ae ω,ae (show ¬(cC b a).1=0 by omega)];show eg most (gL b (a+(cC b a).1)) (nD (cC b a).2 (cC b a).1 (b.take a))=(b,0);rw[Ui b _ ω _ a o.1 m.2.1 o.2];exact e m.2.1
 | case2 a h d e=>have A:(b.take a).length=a:=(by rw[aA];omega);have z:=yf b a ⟨b[a],0,0⟩ (by rw[tM b a h d];simp);have D:db ⟨b[a],0,0⟩=1:=rfl;rw[tM b a h d,eg,z,ae σ,A,ae (show ¬a<0 by omega),D,ae ω,af rfl];show eg most (gL b (a+1)) (b.take a++[b[a]])=(b,0);rw[<- f8 h];exact e ω
 | case3 a h=>rw[vD b a ω,eg,cw ω]
def ON(b:Z0)(most:Nat)(d:b.length<=most):eg most (eh b) []=(b,0):=by
 have:=OM b most d 0 (ar _);exact this
def GF(b:Z0)(a:Nat)(z:a<=b.length):((gL b a).map db).sum=b.length-a:=by
 induction a using gL.induct (b:=b)with
 | case1 a h d e=>have m:=(tX b a ω (min 4095 a)).2.1;change a+(cC b a).1<=b.length at m;rw[tL b a h d,dD,gQ,e m];have o:db ⟨0,(cC b a).1,(cC b a).2⟩=(cC b a).1:=GE _ _ ω;omega
 | case2 a h d e=>rw[tM b a h d,dD,gQ,e ω];have o:db ⟨b[a],0,0⟩=1:=rfl;omega
 | case3 a h=>rw[vD b a ω];simp;omega
def Lx(a f:Z0)(l:List aU)(most:Nat)(h:bX a=true)(o:bX f=true)(G:∀c∈a,c.toNat<=15)(I:∀c∈f,c.toNat<=15)(L:a.length=265)(M:f.length=12)(O:¬bg a 256=0)
  (hl:(l.map db).sum<=most) (d:∀t∈l,ex t=true/\sU a f t) (hB:il (g9 a f l)):fA (cx (g9 a f l)) most=(l,0):=by
 have ak:=nt (g9 a f l);have m : mT (cx (g9 a f l)) 0 (g9 a f l) := ⟨by omega, fun i Q => by
   have := BN hB [] i ω;rw[dg] at this
   rw[iH, this]⟩
 have R:kg a=dr a:=by unfold kg;rw[af h]
 have U:kg f=dr f:=by unfold kg;rw[af o]
 have e:g9 a f l=dr a++(dr f++(cX a f l++cD a 256)):=by unfold g9;rw[R,U];simp
 have V:∀i,(g9 a f l).length<=i->i<8*(cx (g9 a f l)).length->dU (cx (g9 a f l)) i=0:=λi z A=>by have:=BN hB [] i A;rw[dg]at this;rw[this,lY _ _ z]
 have X:=dp List.length e;simp only[am]at X;generalize cx (g9 a f l)=r at *;rw[e]at m;have z:=m.left;have A:=m.right.left;have J:=m.right.right;have D:oC r=(a,0+(dr a).length,0):=by unfold oC;have:=FT r a 0 G h z;rw[L]at this;exact this
 have hF:oD r=(f,0+(dr a).length+(dr f).length,0):=by unfold oD;rw[D];have:=FT r f _ I o A;rw[M]at this;exact this
 have Y:∀(l:List aU),(∀t∈l,sU a f t)->l.length<=(cX a f l).length:=by
  intro l
  induction l with
  | nil=>intro _;simp
  | cons t l Z=>intro d;have K:=Z λx hx=>d x (by simp[hx]);have F:=(d t σ).1;have h6:1<=(fR a f t).length:=(by have:1<=(cD a (aX t).sym).length:=(by unfold cD;rw[af h,tW _ _ F,fX];omega);unfold fR;rw[am];omega);have h7:cX a f (t::l)=fR a f t++cX a f l:=(by simp[cX]);rw[h7,am,aL];omega
 have av:=Y l λt ht=>(d t ht).2;have hG:pH r most=(l,0+(dr a).length+(dr f).length+(cX a f l++cD a 256).length,0):=by unfold pH;rw[D,hF];have K:=J.1;rw[am]at K;have:=Lz a f r h o G I O l (8*r.length+1) most _ [] ω hl d J;rw[fJ]at this;exact this
 unfold fA;rw[D,hF,hG,af rfl,af rfl,af rfl,af];unfold nR;have F:0+(dr a).length+(dr f).length+(cX a f l++cD a 256).length=(g9 a f l).length:=by rw[am];omega
 rw[F];show(decide (8*r.length<(g9 a f l).length+8) && decide (aI r (g9 a f l).length (8*r.length-(g9 a f l).length)=0))=true;rw[bp ω,qA];refine bp ((Fv _ _ _).2 λi Q=>V _ ω ω)
def GN(e:UInt8)(n:Nat)(d q:Z0)(U:e.toNat<=1)(M:n<=32768)(O:d.length<=32768)(V:n<=1032*d.length+64):kV (dS e n d++q)=0/\fy (dS e n d++q)=(e.toNat,⟨1,0⟩)/\(d8 (dS e n d++q)).1=n/\(em (dS e n d++q)).1=d.length/\(fj (dS e n d++q)).1=d/\(iR (dS e n d++q)).2.at_=(dS e n d).length:=by
 obtain⟨T,m,o⟩:∃T,dS e n d=(([e]++ao n++ao d.length)++d)++T/\T.length=4:=by have h:=gH (([e]++ao n++ao d.length)++d);unfold dS;unfold au at h ⊢;exact⟨_,rfl,by rw[am]at h;omega⟩
 have hF:dS e n d++q=e::(ao n++(ao d.length++(d++(T++q)))):=by rw[m];simp
 have z:(dS e n d).length=1+(ao n).length+(ao d.length).length+d.length+4:=by rw[m];simp only[am,aL,gS,o]
 have hcut:cK (dS e n d)=0:=by unfold cK dS;rw[tz];rfl
 have Q:(dS e n d++q).take (dS e n d).length=dS e n d:=nK;have X:(dS e n d++q).length=(dS e n d).length+q.length:=am;generalize dS e n d=R at *;generalize R++q=F at *;have A:F.drop 0=e::(ao n++(ao d.length++(d++(T++q)))):=hF;have D:fy F=(e.toNat,⟨1,0⟩):=by have:=Cs.byte_back (s:=⟨0,0⟩) rfl A (ar _);exact this
 have hC:oY F=⟨1,0⟩:=by unfold oY;rw[D,ae (by show ¬1<e.toNat;omega)]
 have G:F.drop 1=ao n++(ao d.length++(d++(T++q))):=gn (p:=[e]) A;have hN:d8 F=(n,⟨1+(ao n).length,0⟩):=by unfold d8;rw[hC];exact Cs.int_back (s:=⟨1,0⟩) rfl G M ω
 have I:=gn G;have hP:em F=(d.length,⟨1+(ao n).length+(ao d.length).length,0⟩):=by unfold em;rw[hN];exact Cs.int_back (s:=⟨1+(ao n).length,0⟩) rfl I O ω
 have hD:lC F=⟨1+(ao n).length+(ao d.length).length,0⟩:=by unfold lC;rw[hP,hN,ae (by show ¬1032*d.length+64<n;omega)]
 have J:=gn I;have K:fj F=(d,⟨1+(ao n).length+(ao d.length).length+d.length,0⟩):=by unfold fj;rw[hD,hP];exact Cs.take_back (s:=⟨1+(ao n).length+(ao d.length).length,0⟩) rfl J (by show 1+(ao n).length+(ao d.length).length<=F.length;omega)
 have h:=gn J;have L:iR F=(T,⟨1+(ao n).length+(ao d.length).length+d.length+4,0⟩):=by unfold iR;rw[K];have:=Cs.take_back (s:=⟨1+(ao n).length+(ao d.length).length+d.length,0⟩) rfl h (by show 1+(ao n).length+(ao d.length).length+d.length<=F.length;omega);rw[o]at this;exact this
 refine⟨?_,D,by rw[hN],by rw[hP],by rw[K],by rw[L,z]⟩;unfold kV;rw[L,af rfl];show cK (F.take (1+(ao n).length+(ao d.length).length+d.length+4))=0;rw[<- z,Q,hcut]
def Vk(b q:Z0)(d:b.length<=32768):df (dS 0 b.length b++q)=(b,(dS 0 b.length b).length,0):=by
 obtain⟨e,h,m,o,z,A⟩:=GN 0 b.length b q δ d d ω;have D:eM (dS 0 b.length b++q)=(b,0):=by unfold eM;rw[h,af (by rfl),m,o,af rfl,z]
 unfold df;rw[e,af rfl,D,af rfl,A]
def Vl(b d q:Z0)(e:b.length<=32768)(h:d.length<=32768)(m:b.length<=1032*d.length+64)(o:qD b.length d=(b,0)):df (dS 1 b.length d++q)=(b,(dS 1 b.length d).length,0):=by
 obtain⟨z,A,D,J,F,G⟩:=GN 1 b.length d q δ e h m;have I:eM (dS 1 b.length d++q)=(b,0):=by unfold eM;rw[A,ae δ,D,F,o]
 unfold df;rw[z,af rfl,I,af rfl,G]
def KO(b d:Z0)(h:fA d b.length=(eh b,0)):qD b.length d=(b,0):=by
 unfold qD;rw[h,af rfl,ON b b.length (al _),af rfl,ae σ]
def rS:il []:=by intro c d;cases d
def R2:∀(n:Nat) (l:Z0),l.length<=n->il (dr l):=by
 intro n
 induction n with
 | zero=>intro l h;have:l=[]:=List.length_eq_zero_iff.1 ω;subst this;rw[rz];exact rS
 | succ n d=>
  intro l h
  cases l with
  | nil=>rw[rz];exact rS
  | cons c l=>
   rw[aL]at h;by_cases e:c=0;·rw[wQ l c e];exact(sg _ _).app ((sg _ _).app (d _ (by rw[aN];omega)))
   ·rw[wR l c e];exact(sg _ _).app (d _ ω)
def Gt(a:Z0):il (kg a):=by
 unfold kg;split;·exact R2 a.length a (al _)
 ·exact rS
def Bd(a:Z0)(s:Nat):il (cD a s):=by
 unfold cD;split
 ·unfold jb;split;·exact rS
  ·exact sg _ _
 ·exact rS
def R4(a b:Z0)(t:aU):il (fR a b t):=by
 unfold fR;refine(Bd _ _).app ?_;split;·exact rS
 ·exact(sg _ _).app ((Bd _ _).app (sg _ _))
def R3(a b:Z0)(l:List aU):il (cX a b l):=by
 induction l with
 | nil=>exact rS
 | cons t l d=>have e:cX a b (t::l)=fR a b t++cX a b l:=(by simp[cX]);rw[e];exact(R4 a b t).app d
def R8(a b:Z0)(l:List aU):il (g9 a b l):=by
 unfold g9;exact(((Gt a).app (Gt b)).app (R3 a b l)).app (Bd a 256)
def Sw(a b:Z0)(m:bX a=true)(o:bX b=true)(l:List aU)(h:∀t∈l,ex t=true/\sU a b t):(l.map db).sum<=129*(cX a b l).length:=by
 induction l with
 | nil=>simp
 | cons t l z=>
  have J:=z λx A=>h x (by simp[A]);obtain⟨D,F,G⟩:=h t σ;have e:cX a b (t::l)=fR a b t++cX a b l:=(by simp[cX]);rw[e,dD,gQ,am];have p1:1<=(cD a (aX t).sym).length:=(by unfold cD;rw[af m,tW _ _ F,fX];omega);by_cases d:t.len=0;·have I:db t=1:=(by unfold db;omega);have:1<=(fR a b t).length:=(by unfold fR;rw[am];omega);omega
  ·obtain⟨_,K,L,_,_⟩:=qT t D d;have I:db t=t.len:=(by unfold db;omega);have p2:1<=(cD b (aX t).dist).length:=(by unfold cD;rw[af o,tW _ _ (G d),fX];omega);have:2<=(fR a b t).length:=(by unfold fR;rw[ae d];simp only[am];omega);omega
def MX(a f b:Z0)(d:bX a=true)(e:bX f=true)(h:∀t∈eh b,ex t=true/\sU a f t):b.length<=1032*(cx (g9 a f (eh b))).length+64:=by
 have o:=Sw a f d e (eh b) h;have m:=GF b 0 (ar _);change ((eh b).map db).sum=_ at m;have z:=nt (g9 a f (eh b));have A:(cX a f (eh b)).length<=(g9 a f (eh b)).length:=by unfold g9;simp only[am];omega
 omega
def SC(d:Z0)(z:bX d=true)(A:∀c∈d,c.toNat<=15)(l:Nat)(G:1<=l)(I:0<aE d l):bM d l+aE d l<=2^l:=by
 obtain⟨s,o,_,D,J⟩:=xk d l d.length (al _) (aE d l-1) (by rw[dY];omega);have m:d[s].toNat=l:=by rw[<- nN d s o];exact D
 have F:d[s]≠0:=λe=>by rw[e]at m;simp at m;omega
 have h:=zG d z A s o F;rw[m]at h;unfold bV at h;omega
def l9(d:Z0)(x l:Nat):Option Nat:=
 if bM d l<=x/\x<bM d l+aE d l then some ((sM d d.length l).getD (x-bM d l) 0)else none
def SL(d:Z0)(x e l:Nat)(m:1<=l)(o:l<=e)(z:e<=15)(s:Nat)(h:l9 d (x / 2^(15-l)) l=some s):nZ d x e=some s/\bg d s=l/\s<d.length:=by
 unfold l9 at h;split at h;·rename_i I;obtain⟨J,A,D,F,G⟩:=G7 d x e l (x / 2^(15-l)-bM d l) m o z ω ω;rw[bq,D]at h;simp only[Option.getD_some,mU]at h;subst h;exact⟨F,G,A⟩
 ·cases h
def SM(d:Z0)(x e:Nat)(h:∀l,1<=l->l<=e->l9 d (x / 2^(15-l)) l=none):nZ d x e=none:=by
 refine Sd d x e λl o z A=>?_;have m:=h l o z;unfold l9 at m;rw[af A]at m;cases m
def Sy(d r:Z0)(a l s:Nat)(e:1<=l)(m:l<=gw r a)(h:l9 d (Fk.aI r a 15 / 2^(15-l)) l=some s):aF d r a=(s,a+l,0):=by
 obtain⟨o,z,_⟩:=SL d _ (gw r a) l e m (Nat.min_le_left _ _) s h;unfold aF;rw[o,<- z]
def Sx(d r:Z0)(a:Nat)(h:∀l,1<=l->l<=gw r a->l9 d (Fk.aI r a 15 / 2^(15-l)) l=none):aF d r a=(0,a,if oK d (Fk.aI r a (gw r a)) (gw r a)then 1 else 7):=by
 have e:=SM d _ (gw r a) h;unfold aF;rw[e]
def PO(r:Z0)(a:Nat):Fk.aI r a 15 / 2^(15-gw r a)=Fk.aI r a (gw r a):=by
 have h:gw r a<=15:=Nat.min_le_left _ _;have:=Fw r a (gw r a) (15-gw r a);rwa [show gw r a+(15-gw r a)=15 by omega]at this
def GY(d:Z0)(l:Nat):fM d d.length l=if aE d l=0 then 0 else bM d l%65536:=by unfold fM;rw[dY]
def vG(d:Z0)(e:bX d=true)(m:∀c∈d,c.toNat<=15)(l:Nat)(o:1<=l)(z:l<=15)(A:0<aE d l):fM d d.length l=bM d l/\bM d l+aE d l<=32768:=by
 have h:=SC d e m l o A;have D:(2:Nat)^l<=2^15:=fp ω z;rw[GY,ae ω];omega
def GX(d:Z0)(e:bX d=true)(m:∀c∈d,c.toNat<=15)(l:Nat)(o:1<=l)(z:l<=15):fM d d.length l<=32768/\aE d l<=32768:=by
 rcases kE (aE d l)with h | h;·rw[GY,af h];omega
 ·have:=vG d e m l o z h;omega
def SO(d:Z0)(z:bX d=true)(A:∀c∈d,c.toNat<=15)(x l:Nat)(D:1<=l)(F:l<=15)(h:fM d d.length l<=x)(m:x-fM d d.length l<aE d l):∃s,s<d.length/\(sM d d.length l)[x-fM d d.length l]?=some s/\l9 d x l=some s:=by
 obtain⟨e,_⟩:=vG d z A l D F ω;rw[e]at h m ⊢;obtain⟨s,G,o,_⟩:=xk d l d.length (al _) (x-bM d l) (by rw[dY];exact m);refine⟨s,G,o,?_⟩;unfold l9;rw[af ω,bq,o];rfl
def SN(d:Z0)(m:bX d=true)(o:∀c∈d,c.toNat<=15)(x l:Nat)(z:1<=l)(A:l<=15)(h:¬(fM d d.length l<=x/\x-fM d d.length l<aE d l)):l9 d x l=none:=by
 unfold l9;refine ae λD=>h ?_;obtain⟨e,_⟩:=vG d m o l z A ω;rw[e];omega
def tY(d:Z0)(y l k:Nat):Bool:=decide (0<aE d k) && decide (y*2^(k-l)<fM d d.length k+aE d k) && decide (fM d d.length k<(y+1)*2^(k-l))
def DA(d:Z0)(e:∀c∈d,c.toNat<=15)(s:Nat):bg d s<=15:=by
 by_cases h:s<d.length;·rw[nN d s h];exact e _ (bJ h)
 ·rw[uK d s ω];omega
def Pd(d:Z0)(D:bX d=true)(e:∀c∈d,c.toNat<=15)(y l k:Nat)(F:l<k)(m:k<=15)(h:tY d y l k=true):oK d y l=true:=by
 unfold tY at h;simp only[fL,en]at h;obtain⟨⟨o,z⟩,A⟩:=h;rw[(vG d D e k ω m o).1]at z A;exact(Fa d y l (DA d e)).2 ⟨k,F,m,o,z,A⟩
def EY(d:Z0)(z:bX d=true)(e:∀c∈d,c.toNat<=15)(y l:Nat)(h:∀k,l<k->k<=15->tY d y l k=false):oK d y l=false:=by
 cases A:oK d y l with
 | false=>rfl
 | true=>obtain⟨k,D,m,o,F,G⟩:=(Fa d y l (DA d e)).1 A;have:=h k D m;unfold tY at this;rw[(vG d z e k ω m o).1]at this;simp[o,F,G]at this
def LS(s:Z0):Bool:=
 match s with
 | []=>false
 | c::r=>if c=64 then xL r == some r else xL s == some s
structure mQ where
 op:Int
 n:Int
 word:Z0
 fa:UInt64
 fb:UInt64
 deriving DecidableEq
def NP(s:mQ):Bool:=
 if s.op=1\/s.op=2 then decide (s.n=0/\(s.fa.toNat:Int)=0/\(s.fb.toNat:Int)=0) && LS s.word
 else if s.op=3\/s.op=4 then decide (s.n=0/\s.word=[])
 else if s.op=6\/s.op=7 then decide (s.word=[]/\(s.fa.toNat:Int)=0/\(s.fb.toNat:Int)=0/\2<=s.n)
 else decide (s.op=5/\s.word=[]/\(s.fa.toNat:Int)=0/\(s.fb.toNat:Int)=0/\s.n=0)
def Dp(s:mQ):Int:=if s.op=5 then 1 else if s.op=6\/s.op=7 then s.n else 0
def Yf(s:mQ):Int:=if s.op=5 then 1 else s.n
def DX:List Nat->List mQ->Option (List Nat)
 | d,[]=>some d
 | d,s::r=>if NP s=false\/(d.length:Int)<Dp s then none else DX (O3 d (Dp s).toNat) r
def TX:Option (List Nat)->Except Int Nat
 | some [d]=>.ok d
 | _=>.error 10
def TW(q:List mQ):Except Int Nat:=if 1000<q.length then .error 6 else TX (DX [] q)
def Y4(q:List mQ):Int:=
 match TW q with
 | .error n=>n
 | .ok d=>if 64<d then 11 else 0
def MP(op:Int)(n:Nat):mQ:=⟨op,n,[],0,0⟩
def oS(op:Int)(d:List (List mQ)):List mQ:=d.flatten++if 1<d.length then [MP op d.length]else []
def Nd(s:Z0):Option Z0:=
 match s with
 | []=>none
 | c::r=>if c=64 then(xL r).map λw=>64::w else xL s
def Y1(op:Int)(s:Z0):List mQ:=
 match Nd s with
 | some w=>[⟨op,0,w,0,0⟩]
 | none=>[]
def Ym(op:Int)(a b:UInt64):mQ:=⟨op,0,[],a,b⟩
