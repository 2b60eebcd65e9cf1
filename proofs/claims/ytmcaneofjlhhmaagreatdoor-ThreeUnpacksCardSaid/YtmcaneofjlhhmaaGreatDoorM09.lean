/- Lemmas. -/
import Derived.WalkKit
import Derived.Test.YtmcaneofjlhhmaaGreatDoorM05
set_option linter.all false
set_option maxHeartbeats 8000000
namespace Go.Fk
abbrev bz:=@decide_eq_true
abbrev jiQb:=@Option.some.injEq
abbrev jG:=@List.length_nil
abbrev oj:=@List.lt_irrefl
abbrev sI:=@List.pairwise_cons
abbrev pC:=@List.mem_cons
abbrev qV:=@Bool.true_and
def dC(c:UInt8):Bool:=decide (65<=c.toNat/\c.toNat<=90) || decide (97<=c.toNat/\c.toNat<=122) || decide (48<=c.toNat/\c.toNat<=57)
def sm(c:UInt8):UInt8:=if 65<=c.toNat/\c.toNat<=90 then c+32 else c
def lU(c:UInt8):UInt8:=if dC c then sm c else 0
def tL(l:U0₁):Option U0₁:=if l≠[]/\l.length<=24/\l.all dC=true then some (l.map sm)else none
def rS(c:UInt8):dC c=true↔(65<=c.toNat/\c.toNat<=90)\/(97<=c.toNat/\c.toNat<=122)\/(48<=c.toNat/\c.toNat<=57):=by
 simp only[dC,Bool.or_eq_true,iU];omega
def Ld(c:UInt8):dC c=false↔¬((65<=c.toNat/\c.toNat<=90)\/(97<=c.toNat/\c.toNat<=122)\/(48<=c.toNat/\c.toNat<=57)):=by
 rw[<- rS];simp
def vU(c:UInt8):(sm c).toNat=if 65<=c.toNat/\c.toNat<=90 then c.toNat+32 else c.toNat:=by
 unfold sm;split;·rw[UInt8.toNat_add];have:(32:UInt8).toNat=32:=rfl;rw[this];omega
 ·rfl
def Ii(c:UInt8)(h:dC c=true):sm c≠0:=by
 intro e;have:=iGQb UInt8.toNat e;rw[vU]at this;rw[rS]at h;grind
def If(c:UInt8):lU c=0↔dC c=false:=by
 unfold lU;constructor
 ·intro h
  cases d:dC c with
  | false=>rfl
  | true=>rw[d,anQb rfl]at h;exact absurd h (Ii c d)
 ·grind
def Ct(g:U0₁->Bool)(d:U0₁):U0₁:=if g ((d.map sm).take 24)then List.replicate d.length 42 else d
def Cv(g:U0₁->Bool):U0₁->U0₁->U0₁
 | d,[]=>Ct g d
 | d,c::r=>if dC c then Cv g (d++[c]) r else Ct g d++c::Cv g [] r
def Cu(g:U0₁->Bool):U0₁->U0₁->Nat
 | d,[]=>if d≠[]/\g ((d.map sm).take 24)=true then 1 else 0
 | d,c::r=>if dC c then Cu g (d++[c]) r else(if d≠[]/\g ((d.map sm).take 24)=true then 1 else 0)+Cu g [] r
def gU:U0₁->U0₁->List U0₁
 | d,[]=>if d=[]then []else [(d.map sm).take 24]
 | d,c::r=>if dC c then gU (d++[c]) r else(if d=[]then []else [(d.map sm).take 24])++gU [] r
def fU(l:U0₁):List U0₁:=gU [] l
def Rr(d:U0₁):List U0₁:=if d=[]then []else [(d.map sm).take 24]
def gG:U0₁->U0₁
 | []=>[]
 | c::s=>if dC c then sm c::gG s else []
def ed:Bool->U0₁->List U0₁
 | _,[]=>[]
 | d,c::s=>if dC c then(if d then ed true s else(gG (c::s)).take 24::ed true s)else ed false s
def Ga(s:U0₁):gU [] s=ed false s/\∀f,f≠[]->gU f s=(f.map sm++gG s).take 24::ed true s:=by
 induction s with
 | nil=>refine⟨by simp[gU,ed],λf h=>?_⟩;simp[gU,h,ed,gG]
 | cons c s m=>
  by_cases d:dC c=true
  ·have e:gG (c::s)=sm c::gG s:=(by rw[gG,anQb d]);refine⟨?_,λf h=>?_⟩;·rw[gU,anQb d,ed,anQb d,e,m.2 _ σ₁];simp
   ·rw[gU,anQb d,ed,anQb d,e,m.2 _ σ₁];simp
  ·refine⟨by simp[gU,ed,d,m.1],λf h=>?_⟩;simp[gU,h,ed,gG,d,m.1]
def vC(s:U0₁):fU s=ed false s:=(Ga s).1
def FV(s:U0₁):∀b,(ed b s).length<=s.length:=by
 induction s with
 | nil=>intro b;simp[ed]
 | cons c s d=>intro b;rw[ed];grind
def FW(s:U0₁):∀b,∀w∈ed b s,1<=w.length/\w.length<=24:=by
 induction s with
 | nil=>intro b w h;simp[ed]at h
 | cons c s e=>
  intro b w h;rw[ed]at h;split at h
  ·rename_i d;split at h;·grind
   ·rcases pC.1 h with rfl | h;·rw[gG,anQb d,List.take_succ_cons,gFQb,aP];omega
    ·grind
  ·grind
def vD(s:U0₁):∀w∈fU s,1<=w.length/\w.length<=24:=by rw[vC];exact FW s false
def pL(s:U0₁):(fU s).length<=s.length:=by rw[vC];exact FV s false
def K7{a b:U0₁}(h:a<=b):a<b\/a=b:=by
 grind
def fA:List U0₁->U0₁->List U0₁
 | [],s=>[s]
 | t::l,s=>if t<s then t::fA l s else if t=s then t::l else s::t::l
abbrev kG(l:List U0₁):Prop:=l.Pairwise (·<·)
def BA(l:List U0₁)(s x:U0₁):x∈fA l s↔x∈l\/x=s:=by
 induction l with
 | nil=>simp[fA]
 | cons t l d=>rw[fA];grind
def Jh(l:List U0₁)(s:U0₁)(h:kG l):kG (fA l s):=by
 induction l with
 | nil=>simp[fA]
 | cons t l e=>
  obtain⟨o,f⟩:=sI.1 h;rw[fA];split
  ·rename_i m;refine sI.2 ⟨λx d=>?_,e f⟩;rcases(BA l s x).1 d with d | rfl;·grind
   ·exact m
  ·split;·exact h
   ·rename_i p q;have z:s<t:=(by grind);refine sI.2 ⟨λx d=>?_,h⟩;grind
def IH(l m:List U0₁)(d:kG l)(f:kG m)(h:∀x,x∈l↔x∈m):l=m:=by
 have o:∀l:List U0₁,kG l->l.Nodup:=λl h=>h.imp λ{a b} p e=>by subst e;exact oj _ p
 have q:l.Perm m:=(List.perm_ext_iff_of_nodup (o l d) (o m f)).2 h;exact q.eq_of_pairwise (λ_ _ _ _ h k=>absurd (List.lt_trans h k) (oj _)) d f
def dx(l d:List U0₁):List U0₁:=d.foldl fA l
def wH(d:List U0₁):∀l,kG l->kG (dx l d):=by
 induction d with
 | nil=>intro l h;exact h
 | cons w d e=>intro l h;exact e _ (Jh l w h)
def wI(d:List U0₁):∀l x,x∈dx l d↔x∈l\/x∈d:=by
 induction d with
 | nil=>intro l x;simp[dx]
 | cons w d e=>intro l x;show x∈dx (fA l w) d↔_;rw[e,BA,pC,or_assoc]
def dJ:List U0₁->List U0₁
 | []=>[]
 | [a]=>[a]
 | a::b::l=>if a=b then dJ (b::l)else a::dJ (b::l)
theorem uq:∀(l:List U0₁) (x:U0₁),x∈dJ l↔x∈l
 | [],x=>by simp[dJ]
 | [a],x=>by simp[dJ]
 | a::b::l,x=>by
  rw[dJ]
  split
  ·rename_i h;subst h;rw[uq];simp
  ·rw[pC,uq,pC (a:=x) (b:=a)]
theorem yq:∀(l:List U0₁),l.Pairwise (·<=·)->kG (dJ l)
 | [],_=>by simp[dJ]
 | [a],_=>by simp[dJ]
 | a::b::l,h=>by
  obtain⟨f,d⟩:=sI.1 h
  rw[dJ]
  split
  ·exact yq _ d
  ·rename_i o
   refine sI.2 ⟨λx e=>?_,yq _ d⟩
   have m:a<b:=by
    rcases K7 (f b σ₁)with h | h
    ·exact h
    ·grind
   rcases pC.1 ((uq _ x).1 e)with rfl | e
   ·exact m
   ·have p:=(sI.1 d).1 x e
    grind
def MZ(l d:List U0₁)(e:l.Pairwise (·<=·))(f:l.Perm d):dJ l=dx [] d:=
 IH _ _ (yq l e) (wH d [] List.Pairwise.nil) λx=>by
  rw[uq,wI,f.mem_iff];simp
def jJ(d e:U0₁):List U0₁:=dx [] (fU d++(fU e).map λw=>64::w)
def GR(a b:U0₁):kG (jJ a b):=wH _ _ List.Pairwise.nil
def Ji(l:List U0₁)(s:U0₁):(fA l s).length<=l.length+1:=by
 induction l with
 | nil=>simp[fA]
 | cons t l d=>rw[fA];grind
def pS(d:List U0₁):∀l,(dx l d).length<=l.length+d.length:=by
 induction d with
 | nil=>intro l;simp[dx]
 | cons w d e=>intro l;have f:=e (fA l w);have h:=Ji l w;show(dx (fA l w) d).length<=_;grind
def Du(e:UInt8)(n:Nat)(d:U0₁):U0₁:=bD (([e]++bE n++bE d.length)++d)
def iz:U0₁->U0₁->Nat
 | a::l,b::m=>if a=b then iz l m+1 else 0
 | _,_=>0
theorem vV:∀(a b:U0₁) (n:Nat),n<=a.length->n<=b.length->(∀i,i<n->a[i]?=b[i]?)->(n<a.length->n<b.length->a[n]? ≠ b[n]?)->iz a b=n
 | [],b,n,d,_,_,_=>by simp at d;simp[iz,d]
 | a::l,[],n,_,e,_,_=>by simp at e;simp[iz,e]
 | a::l,b::m,n,d,e,f,h=>by
  rw[iz]
  cases n with
  | zero=>
   have:=h σ₁ σ₁
   rw[ae (by simpa using this)]
  | succ n=>
   have o:=f 0 ω₁
   rw[anQb (by simpa using o),vV l m n (by simpa using d) (by simpa using e) (λi z=>by have:=f (i+1) ω₁;simpa using this) (λp q=>by have:=h (by simpa using p) (by simpa using q);simpa using this)]
def Ep:U0₁->List U0₁->U0₁
 | _,[]=>[]
 | d,s::l=>(bE (iz d s)++sX (s.drop (iz d s)))++Ep s l
def Er:List U0₁->U0₁
 | []=>[]
 | s::l=>sX s++Ep s l
def kt(d s:U0₁):Bool:=decide (¬s=[]) && decide (s.length<=25) && decide (d<s)
def iN(d:Cs)(part e:U0₁)(first:Bool):Nat × Cs:=if first then(0,d)else d.int part e.length
def gJ(d:Cs)(part e:U0₁)(first:Bool):U0₁ × Cs:=(iN d part e first).2.text part 25
def iY(d:Cs)(part e:U0₁)(first:Bool):U0₁:=e.take (iN d part e first).1++(gJ d part e first).1
def mh(d:Cs)(part e:U0₁)(first:Bool):Bool:=
 decide (¬(gJ d part e first).1=[]) && kt e (iY d part e first) && (first || decide (iz e (iY d part e first)=(iN d part e first).1))
def iO(d:Cs)(part e:U0₁)(first:Bool):Cs:=
 if(gJ d part e first).2.er=0/\mh d part e first=false then⟨(gJ d part e first).2.at_,2⟩else(gJ d part e first).2
def gd(part:U0₁):Nat->Nat->Cs->List U0₁->List U0₁ × Nat
 | 0,_,d,t=>(t,(d.fin part).er)
 | k+1,i,d,t=>
  if(iO d part (t.getLastD []) (decide (i=0))).er=0 then gd part k (i+1) (iO d part (t.getLastD []) (decide (i=0))) (t++[iY d part (t.getLastD []) (decide (i=0))])
  else(t,(iO d part (t.getLastD []) (decide (i=0))).er)
def fW(b:U0₁):Nat->Cs->List Nat->List Nat × Cs
 | 0,s,l=>(l,s)
 | k+1,s,l=>if s.er=0 then fW b k (s.int b 2000).2 (l++[(s.int b 2000).1])else(l,s)
def dI(b:U0₁)(size n:Nat):List Nat->Nat->Cs->List U0₁->List U0₁ × Cs × Nat
 | [],_,s,t=>(t,s,s.er)
 | k::r,i,s,t=>
  if (s.take b k).2.er = 0 then
   (if (gd (s.take b k).1 (min size (n - i * size)) 0 ⟨0, 0⟩ t).2 = 0 then dI b size n r (i + 1) (s.take b k).2 (gd (s.take b k).1 (min size (n - i * size)) 0 ⟨0, 0⟩ t).1
    else ([], (s.take b k).2, (gd (s.take b k).1 (min size (n-i * size)) 0 ⟨0, 0⟩ t).2))
  else([],(s.take b k).2,(s.take b k).2.er)
def cU(b:U0₁):Nat × Cs:=(⟨0,0⟩:Cs).int b 1048576
def gh(size:Nat)(b:U0₁):List Nat × Cs:=fW b (((cU b).1+size-1) / size) (cU b).2 []
def sd(size:Nat)(b:U0₁):List U0₁ × Cs × Nat:=dI b size (cU b).1 (gh size b).1 0 (gh size b).2 []
def bJ(size:Nat)(b:U0₁):List U0₁ × Nat × Nat:=
 if(sd size b).2.2=0 then((sd size b).1,(sd size b).2.1.at_,0)else([],0,(sd size b).2.2)
def fG(d:Nat)(b:U0₁):Nat->Nat->List (List Nat)->List (List Nat) × Nat
 | 0,a,e=>if a<b.length then([],2)else(e,0)
 | k+1,a,e=>
  if (eK d (b.drop a)).2.2 = 0 then
   (if(eK d (b.drop a)).1=[]then([],2)else fG d b k (a+(eK d (b.drop a)).2.1) (e++[(eK d (b.drop a)).1]))
  else([],(eK d (b.drop a)).2.2)
def ff(size d:Nat)(b:U0₁):List U0₁ × List (List Nat) × Nat:=
 if (bJ size b).2.2 = 0 then
  (if (fG d (b.drop (bJ size b).2.1) (bJ size b).1.length 0 []).2 = 0 then ((bJ size b).1, (fG d (b.drop (bJ size b).2.1) (bJ size b).1.length 0 []).1, 0)
   else ([], [], (fG d (b.drop (bJ size b).2.1) (bJ size b).1.length 0 []).2))
 else([],[],(bJ size b).2.2)
def eN(z:Nat):Nat:=if z%2=1 then 18446744073709551615-z / 2 else z / 2
def zF(z:Nat)(h:z<18446744073709551616):eN z<18446744073709551616:=by unfold eN;split <;> omega
def ep(b:U0₁):Nat->Cs->Nat->List Nat->List Nat × Cs
 | 0,s,_,d=>(d,s)
 | k+1,s,e,d=>if s.er=0 then ep b k (s.num b).2 ((e+eN (s.num b).1)%18446744073709551616) (d++[(e+eN (s.num b).1)%18446744073709551616])else(d,s)
def lI(b:U0₁)(s:Cs):Nat:=(s.byte b).1
def fF(b:U0₁)(n:Nat)(s:Cs)(d:U0₁):Nat × Cs:=(s.byte b).2.int b (n-d.length)
def mT(b:U0₁)(n:Nat)(s:Cs)(d:U0₁):Cs:=
 if(fF b n s d).2.er=0/\((fF b n s d).1=0\/(0<d.length/\(d.getLastD 0).toNat=lI b s))then⟨(fF b n s d).2.at_,2⟩else(fF b n s d).2
def ex(b:U0₁)(n:Nat):Nat->Cs->U0₁->U0₁ × Cs
 | 0,s,d=>(d,s)
 | f+1,s,d=>if d.length<n/\s.er=0 then ex b n f (mT b n s d) (d++List.replicate (fF b n s d).1 (UInt8.ofNat (lI b s)))else(d,s)
def yr(n:Nat)(b:U0₁):List Nat × Cs:=ep b n ⟨0,0⟩ 0 []
def sg(n:Nat)(b:U0₁):U0₁ × Cs:=ex b n n (yr n b).2 []
def dq(n:Nat)(b:U0₁):List Nat × U0₁ × Nat × Nat:=
 if(sg n b).2.er=0 then((yr n b).1,(sg n b).1,(sg n b).2.at_,0)else([],[],0,(sg n b).2.er)
def gz(b:U0₁)(d:Nat):Nat->Cs->List Nat->List Nat->List Nat × List Nat × Cs
 | 0,s,e,f=>(e,f,s)
 | k+1,s,e,f=>if s.er=0 then gz b d k ((s.int b d).2.int b 8388608).2 (e++[(s.int b d).1]) (f++[((s.int b d).2.int b 8388608).1])else(e,f,s)
def cx(b:U0₁):Nat × Cs:=(⟨0,0⟩:Cs).int b 20000
def jc(b:U0₁):Nat × Cs:=(cx b).2.int b (cx b).1
def cH(b:U0₁):List Nat × List Nat × Cs:=gz b (cx b).1 (jc b).1 (jc b).2 [] []
def gB(b:U0₁):Nat × Cs:=(cH b).2.2.int b 8388608
def is(b:U0₁):Nat × Cs:=(gB b).2.int b 8388608
def ld(b:U0₁)(d:Nat):Nat:=
 if ((is b).2.fin b).er = 0 then
  (if 0∈(cH b).1\/¬(cH b).1.sum=(cx b).1\/¬(cH b).2.1.sum+(gB b).1+(is b).1=d then 2 else 0)
 else((is b).2.fin b).er
def eh:List Nat->U0₁->List U0₁
 | [],_=>[]
 | z::d,b=>b.take z::eh d (b.drop z)
structure fL where
 counts:List Nat
 sizes:List Nat
 cols:Nat
 index:Nat
 frames:List U0₁
 times:List Nat
 levels:U0₁
 terms:List U0₁
 lists:List (List Nat)
def ir(b:U0₁):Nat:=cd (b.drop (b.length-4))
def jQ(b:U0₁):U0₁:=(b.take (b.length-4)).drop (b.length-4-ir b)
def gS(b:U0₁):Nat:=if b.length<4 then 1 else if b.length-4<ir b then 1 else cM (jQ b)
def fd(b:U0₁):U0₁:=b.take (b.length-4-ir b)
def bi(b:U0₁):U0₁:=aY (jQ b)
def yK(b:U0₁):Nat:=(cH (bi b)).2.1.sum
def iu(b:U0₁):U0₁:=((fd b).drop (yK b)).take (gB (bi b)).1
def gL(b:U0₁):U0₁:=(fd b).drop (yK b+(gB (bi b)).1)
def j9(n:Nat)(c:U0₁):Nat:=
 if cM c=0 then(if(dq n (aY c)).2.2.2=0 then(if(dq n (aY c)).2.2.1<(aY c).length then 2 else 0)else(dq n (aY c)).2.2.2)else cM c
def oJ(d:Nat)(b:U0₁):Nat:=
 if gS b = 0 then
  (if ld (bi b) (fd b).length = 0 then
    (if j9 (cx (bi b)).1 (iu b) = 0 then
      (if cM (gL b) = 0 then (ff d (cx (bi b)).1 (aY (gL b))).2.2 else cM (gL b))
     else j9 (cx (bi b)).1 (iu b))
   else ld (bi b) (fd b).length)
 else gS b
def gY(d:Nat)(b:U0₁):fL:=
 ⟨(cH (bi b)).1, (cH (bi b)).2.1, (gB (bi b)).1, (is (bi b)).1, eh (cH (bi b)).2.1 (fd b),
  (dq (cx (bi b)).1 (aY (iu b))).1, (dq (cx (bi b)).1 (aY (iu b))).2.1,
  (ff d (cx (bi b)).1 (aY (gL b))).1, (ff d (cx (bi b)).1 (aY (gL b))).2.1⟩
def tO(r:U0₁)(a n:Nat):∀m,aF r a (n+m) / 2^m=aF r a n:=by
 intro m
 induction m with
 | zero=>simp
 | succ m d=>have:=ni r (a+(n+m));rw[<- qJ,aF,gE,g7 (2^m) 2,<- sF,show(2*aF r a (n+m)+cA r (a+(n+m))) / 2=aF r a (n+m) by omega,d]
def dO(r:U0₁)(n:Nat):Nat->Nat->U0₁->Bool->U0₁ × Nat × Nat
 | 0,a,d,_=>(d,a,0)
 | f+1,a,d,e=>
  if n<=d.length then(d,a,0)
  else if 8*r.length<a+4 then([],a,1)
  else if 0<aF r a 4 then dO r n f (a+4) (d++[UInt8.ofNat (aF r a 4)]) false
  else if 8*r.length<a+4+6 then([],a,1)
  else if e=true\/n-d.length<=aF r (a+4) 6 then([],a,7)
  else dO r n f (a+4+6) (d++List.replicate (aF r (a+4) 6+1) 0) (decide (aF r (a+4) 6+1<64))
def aU(r:U0₁)(n a:Nat):U0₁ × Nat × Nat:=
 if(dO r n n a [] false).2.2=0 then(if df (dO r n n a [] false).1 then dO r n n a [] false else([],a,7))else dO r n n a [] false
def cX(r:U0₁)(a:Nat):Nat:=min 15 (8*r.length-a)
def aK(d r:U0₁)(a:Nat):Nat × Nat × Nat:=
 match kx d (aF r a 15) (cX r a)with
 | some s=>(s,a+bj d s,0)
 | none=>(0,a,if lC d (aF r a (cX r a)) (cX r a)then 1 else 7)
def cO(e r:U0₁)(d a:Nat):bW × Nat × Nat:=
 if 8*r.length<a+(d-257)then(⟨0,0,0⟩,a,1)
 else if (aK e r (a + (d-257))).2.2 = 0 then
  (if 8 * r.length < (aK e r (a + (d - 257))).2.1 + (aK e r (a + (d - 257))).1 then (⟨0, 0, 0⟩, a, 1)
   else (⟨0, 2 + 2 ^ (d - 257) + aF r a (d - 257), 2 ^ (aK e r (a + (d - 257))).1 + aF r (aK e r (a + (d - 257))).2.1 (aK e r (a + (d - 257))).1⟩,
     (aK e r (a + (d-257))).2.1 + (aK e r (a + (d-257))).1, 0))
 else(⟨0,0,0⟩,a,(aK e r (a+(d-257))).2.2)
def di(t:bW):Nat:=max 1 t.len
def cJ(d e r:U0₁):Nat->Nat->Nat->List bW->List bW × Nat × Nat
 | 0,_,a,h=>(h,a,0)
 | f+1,m,a,h=>
  if (aK d r a).2.2 = 0 then
   (if (aK d r a).1 = 256 then (h, (aK d r a).2.1, 0)
    else if (aK d r a).1 < 256 then
      (if m < 1 then ([], a, 6) else cJ d e r f (m-1) (aK d r a).2.1 (h ++ [⟨UInt8.ofNat (aK d r a).1, 0, 0⟩]))
    else if (cO e r (aK d r a).1 (aK d r a).2.1).2.2 = 0 then
      (if m < di (cO e r (aK d r a).1 (aK d r a).2.1).1 then ([], a, 6)
       else cJ d e r f (m-di (cO e r (aK d r a).1 (aK d r a).2.1).1) (cO e r (aK d r a).1 (aK d r a).2.1).2.1 (h ++ [(cO e r (aK d r a).1 (aK d r a).2.1).1]))
    else ([], a, (cO e r (aK d r a).1 (aK d r a).2.1).2.2))
  else([],a,(aK d r a).2.2)
def io(r:U0₁)(a:Nat):Bool:=decide (8*r.length<a+8) && decide (aF r a (8*r.length-a)=0)
def ly(r:U0₁):U0₁ × Nat × Nat:=aU r 265 0
def lT(r:U0₁):U0₁ × Nat × Nat:=aU r 12 (ly r).2.1
def nC(r:U0₁)(d:Nat):List bW × Nat × Nat:=cJ (ly r).1 (lT r).1 r (8*r.length+1) d (lT r).2.1 []
def dh(r:U0₁)(d:Nat):List bW × Nat:=
 if (ly r).2.2 = 0 then
  (if (lT r).2.2 = 0 then
    (if (nC r d).2.2 = 0 then (if io r (nC r d).2.1 then ((nC r d).1, 0) else ([], 2)) else ([], (nC r d).2.2))
   else ([], (lT r).2.2))
 else([],(ly r).2.2)
def kA(d:Nat):Nat->U0₁->U0₁
 | 0,e=>e
 | n+1,e=>kA d n (e++[e.getD (e.length-d) 0])
def DT(d n:Nat):∀e,(kA d n e).length=e.length+n:=by
 induction n with
 | zero=>intro e;rfl
 | succ n f=>intro e;rw[kA,f,aMQb];simp;omega
def dU(e:Nat):List bW->U0₁->U0₁ × Nat
 | [],d=>(d,0)
 | t::l,d=>
  if gR t=false then([],7)
  else if d.length<t.dist then([],8)
  else if e<d.length+di t then([],6)
  else if t.len=0 then dU e l (d++[t.lit])else dU e l (kA t.dist t.len d)
def dr(b:U0₁):Nat × Cs:=(⟨0,0⟩:Cs).byte b
def kC(b:U0₁):Cs:=if 1<(dr b).1 then(dr b).2.fail 2 else(dr b).2
def bH(b:U0₁):Nat × Cs:=(kC b).int b 32768
def bV(b:U0₁):Nat × Cs:=(bH b).2.int b 32768
def ey(b:U0₁):Cs:=if 1032*(bV b).1+64<(bH b).1 then(bV b).2.fail 6 else(bV b).2
def cy(b:U0₁):U0₁ × Cs:=(ey b).take b (bV b).1
def dY(b:U0₁):U0₁ × Cs:=(cy b).2.take b 4
def fJ(b:U0₁):Nat:=if(dY b).2.er=0 then cM (b.take (dY b).2.at_)else(dY b).2.er
def n9(n:Nat)(d:U0₁):U0₁ × Nat:=
 if (dh d n).2 = 0 then
  (if(dU n (dh d n).1 []).2=0 then(if(dU n (dh d n).1 []).1.length<n then([],2)else((dU n (dh d n).1 []).1,0))else([],(dU n (dh d n).1 []).2))
 else([],(dh d n).2)
def ej(b:U0₁):U0₁ × Nat:=
 if(dr b).1=0 then(if(bH b).1=(bV b).1 then((cy b).1,0)else([],2))else n9 (bH b).1 (cy b).1
def bU(b:U0₁):U0₁ × Nat × Nat:=
 if fJ b=0 then(if(ej b).2=0 then((ej b).1,(dY b).2.at_,0)else([],0,(ej b).2))else([],0,fJ b)
def B6(b:U0₁):Nat->Cs->List (U0₁ × U0₁)->List (U0₁ × U0₁) × Nat
 | 0,s,d=>(d,s.er)
 | f+1,s,d=>
  if b.length<=s.at_ then(d,0)
  else if((s.text b 4000).2.text b 4000).2.er=0 then B6 b f ((s.text b 4000).2.text b 4000).2 (d++[((s.text b 4000).1,((s.text b 4000).2.text b 4000).1)])
  else([],((s.text b 4000).2.text b 4000).2.er)
def Rs(b:U0₁):List (U0₁ × U0₁) × Nat:=B6 b (b.length+1) ⟨0,0⟩ []
def Se(r:U0₁)(a:Nat)(l:U0₁):Prop:=a+l.length<=8*r.length/\∀i,i<l.length->cA r (a+i)=mp l i
def Lw(d:U0₁)(x e s:Nat)(q:e<=15)(m:s<d.length)(h:jP d x e s=true):kx d x e=some s:=by
 obtain⟨z,A,o⟩:=(nR _ _ _ _).1 h;obtain⟨t,D,_,F,p⟩:=Dg d x e (bj d s) (aL (d.take s) (bj d s)) z A q (ur d s _ m rfl) o;have G:=List.find?_some F;obtain⟨_,_,f⟩:=(nR _ _ _ _).1 G;rw [p]at f;have : t = s := Eb d (bj d s) t s D m p rfl (by
   rw[o] at f;unfold b8 at f
   omega)
 grind
def Rb(a b:U0₁)(t:bW):Prop:=¬bj a (lY t).sym=0/\(¬t.len=0->¬bj b (lY t).dist=0)
def Lx(d:U0₁)(x e:Nat)(h:∀s,s<d.length->jP d x e s=false):kx d x e=none:=by
 unfold kx;rw[List.find?_eq_none];intro s f;rw[h s (im.1 f)];simp
def Lz(d r:U0₁)(a s:Nat)(q:df d=true)(h:∀c∈d,c.toNat<=15)(f:s<d.length)(z:¬bj d s=0):jP d (aF r a 15) (cX r a) s=true↔min (bj d s) (8*r.length-a)=bj d s/\aF r a (bj d s)=(dD d).getD s 0:=by
 have m:bj d s<=15:=by rw[jq _ _ f];exact h _ (co f)
 have o:d[s]≠0:=λe=>z (by rw[jq _ _ f,e];rfl);have I:=vF d q h s f o;have J:2^d[s].toNat<=2^15:=dn ω₁ (by rw[jq _ _ f]at m;exact m);have A:(dD d).getD s 0=b8 d (bj d s) s:=by rw[yt _ _ f,qd _ _ f,ae o,jq _ _ f,m7 ω₁]
 have D:aF r a 15 / 2^(15-bj d s)=aF r a (bj d s):=by have:=tO r a (bj d s) (15-bj d s);rw[show bj d s+(15-bj d s)=15 by omega]at this;exact this
 rw[nR,D,A];unfold cX;constructor;·rintro⟨F,p,G⟩;exact⟨ω₁,G⟩
 ·rintro⟨F,p⟩;exact⟨ω₁,ω₁,p⟩
def lL(d r:U0₁)(a k:Nat):Bool:=(List.range k).any λs=>decide (cX r a<bj d s) && decide (b8 d (bj d s) s / 2^(bj d s-cX r a)=aF r a (cX r a))
def Ey(d r:U0₁)(a k:Nat):lL d r a (k+1)=(lL d r a k || (decide (cX r a<bj d k) && decide (b8 d (bj d k) k / 2^(bj d k-cX r a)=aF r a (cX r a)))):=by
 unfold lL;rw[jD,List.any_append];simp
theorem Oc(d r:U0₁)(a:Nat):lL d r a d.length=lC d (aF r a (cX r a)) (cX r a):=rfl
def LH(d r:U0₁)(a s:Nat)(e:s<d.length)(h:jP d (aF r a 15) (cX r a) s=true):aK d r a=(s,a+bj d s,0):=by
 have f:kx d (aF r a 15) (cX r a)=some s:=Lw d _ _ s (by unfold cX;omega) e h;unfold aK;rw[f]
def LF(d r:U0₁)(a:Nat)(h:∀s,s<d.length->jP d (aF r a 15) (cX r a) s=false):aK d r a=(0,a,if lL d r a d.length then 1 else 7):=by
 have e:=Lx d _ _ h;unfold aK;rw[e,Oc]
def Lv(d r:U0₁)(a s:Nat)(e:bj d s=0):jP d (aF r a 15) (cX r a) s=false:=by
 cases h:jP d (aF r a 15) (cX r a) s with
 | false=>rfl
 | true=>have:=((nR _ _ _ _).1 h).1;omega
def Ng(d:U0₁)(s:Nat)(p:df d=true)(h:∀c∈d,c.toNat<=15)(f:s<d.length)(q:¬bj d s=0):(dD d).getD s 0=b8 d (bj d s) s:=by
 have m:bj d s<=15:=by rw[jq _ _ f];exact h _ (co f)
 have o:d[s]≠0:=λe=>q (by rw[jq _ _ f,e];rfl);have z:=vF d p h s f o;have A:2^d[s].toNat<=2^15:=dn ω₁ (by rw[jq _ _ f]at m;exact m);rw[yt _ _ f,qd _ _ f,ae o,jq _ _ f,m7 ω₁]
def Ob(d r:U0₁)(a s:Nat)(e:bj d s<=15)(h:bj d s<=8*r.length-a):lL d r a (s+1)=lL d r a s:=by
 rw[Ey,bw (show ¬cX r a<bj d s by unfold cX;omega),Bool.false_and,Bool.or_false]
def Oa(d r:U0₁)(a s:Nat)(p:df d=true)(m:∀c∈d,c.toNat<=15)(f:s<d.length)(h:8*r.length-a<bj d s):lL d r a (s+1)=(lL d r a s || decide (aF r a (bj d s) / 2^(bj d s-(8*r.length-a))=(dD d).getD s 0 / 2^(bj d s-(8*r.length-a)))):=by
 have z:bj d s<=15:=by rw[jq _ _ f];exact m _ (co f)
 have q:cX r a=8*r.length-a:=by unfold cX;omega
 have o:=tO r a (8*r.length-a) (bj d s-(8*r.length-a));rw[show 8*r.length-a+(bj d s-(8*r.length-a))=bj d s by omega]at o;rw[Ey,q,bz h,qV,Ng d s p m f ω₁,o];exact iGQb _ (decide_eq_decide.2 ⟨λe=>e.symm,λe=>e.symm⟩)
def Dj(x k:Nat):x / 2^k / 2=x / 2^(k+1):=by rw[sF,gE]
def LV(d:U0₁)(o:df d=true)(p:∀c∈d,c.toNat<=15)(l:Nat)(A:1<=l)(D:0<aL d l):bO d l+aL d l<=2^l:=by
 obtain⟨s,m,_,q,F⟩:=tp d l d.length (auQb _) (aL d l-1) (by rw[dPQb];omega);have f:d[s].toNat=l:=by rw[<- jq d s m];exact q
 have z:d[s]≠0:=λe=>by rw[e]at f;simp at f;omega
 have h:=vF d o p s m z;rw[f]at h;unfold b8 at h;omega
def jz(d:U0₁)(x l:Nat):Option Nat:=
 if bO d l<=x/\x<bO d l+aL d l then some ((sM d d.length l).getD (x-bO d l) 0)else none
def Mc(d:U0₁)(x e l:Nat)(f:1<=l)(m:l<=e)(o:e<=15)(s:Nat)(h:jz d (x / 2^(15-l)) l=some s):kx d x e=some s/\bj d s=l/\s<d.length:=by
 unfold jz at h;split at h;·rename_i D;obtain⟨F,p,q,z,A⟩:=Dg d x e l (x / 2^(15-l)-bO d l) f m o ω₁ ω₁;rw[fx,q]at h;simp only[Option.getD_some,jiQb]at h;subst h;exact⟨z,A,p⟩
 ·cases h
def Md(d:U0₁)(x e:Nat)(h:∀l,1<=l->l<=e->jz d (x / 2^(15-l)) l=none):kx d x e=none:=by
 refine Ly d x e λl m o p=>?_;have f:=h l m o;unfold jz at f;rw[anQb p]at f;cases f
def LD(d r:U0₁)(a l s:Nat)(e:1<=l)(f:l<=cX r a)(h:jz d (Fk.aF r a 15 / 2^(15-l)) l=some s):aK d r a=(s,a+l,0):=by
 obtain⟨m,o,_⟩:=Mc d _ (cX r a) l e f (Nat.min_le_left _ _) s h;unfold aK;rw[m,<- o]
def LC(d r:U0₁)(a:Nat)(h:∀l,1<=l->l<=cX r a->jz d (Fk.aF r a 15 / 2^(15-l)) l=none):aK d r a=(0,a,if lC d (Fk.aF r a (cX r a)) (cX r a)then 1 else 7):=by
 have e:=Md d _ (cX r a) h;unfold aK;rw[e]
def Kc(r:U0₁)(a:Nat):Fk.aF r a 15 / 2^(15-cX r a)=Fk.aF r a (cX r a):=by
 have h:cX r a<=15:=Nat.min_le_left _ _;have:=tO r a (cX r a) (15-cX r a);rwa [show cX r a+(15-cX r a)=15 by omega]at this
def D1(d:U0₁)(l:Nat):fM d d.length l=if aL d l=0 then 0 else bO d l%65536:=by unfold fM;rw[dPQb]
def rX(d:U0₁)(e:df d=true)(f:∀c∈d,c.toNat<=15)(l:Nat)(m:1<=l)(o:l<=15)(p:0<aL d l):fM d d.length l=bO d l/\bO d l+aL d l<=32768:=by
 have h:=LV d e f l m p;have q:(2:Nat)^l<=2^15:=dn ω₁ o;rw[D1,ae ω₁];omega
def D0(d:U0₁)(e:df d=true)(f:∀c∈d,c.toNat<=15)(l:Nat)(m:1<=l)(o:l<=15):fM d d.length l<=32768/\aL d l<=32768:=by
 rcases kJ (aL d l)with h | h;·rw[D1,anQb h];omega
 ·have:=rX d e f l m o h;omega
def Mf(d:U0₁)(o:df d=true)(p:∀c∈d,c.toNat<=15)(x l:Nat)(q:1<=l)(z:l<=15)(h:fM d d.length l<=x)(f:x-fM d d.length l<aL d l):∃s,s<d.length/\(sM d d.length l)[x-fM d d.length l]?=some s/\jz d x l=some s:=by
 obtain⟨e,_⟩:=rX d o p l q z ω₁;rw[e]at h f ⊢;obtain⟨s,A,m,_⟩:=tp d l d.length (auQb _) (x-bO d l) (by rw[dPQb];exact f);refine⟨s,A,m,?_⟩;unfold jz;rw[anQb ω₁,fx,m];rfl
def Me(d:U0₁)(f:df d=true)(m:∀c∈d,c.toNat<=15)(x l:Nat)(o:1<=l)(p:l<=15)(h:¬(fM d d.length l<=x/\x-fM d d.length l<aL d l)):jz d x l=none:=by
 unfold jz;refine ae λq=>h ?_;obtain⟨e,_⟩:=rX d f m l o p ω₁;rw[e];omega
def qp(d:U0₁)(y l k:Nat):Bool:=decide (0<aL d k) && decide (y*2^(k-l)<fM d d.length k+aL d k) && decide (fM d d.length k<(y+1)*2^(k-l))
def Aw(d:U0₁)(e:∀c∈d,c.toNat<=15)(s:Nat):bj d s<=15:=by
 by_cases h:s<d.length;·rw[jq d s h];exact e _ (co h)
 ·rw[Ho d s ω₁];omega
def J5(d:U0₁)(q:df d=true)(e:∀c∈d,c.toNat<=15)(y l k:Nat)(z:l<k)(f:k<=15)(h:qp d y l k=true):lC d y l=true:=by
 unfold qp at h;simp only[lS,iU]at h;obtain⟨⟨m,o⟩,p⟩:=h;rw[(rX d q e k ω₁ f m).1]at o p;exact(BQ d y l (Aw d e)).2 ⟨k,z,f,m,o,p⟩
def BP(d:U0₁)(o:df d=true)(e:∀c∈d,c.toNat<=15)(y l:Nat)(h:∀k,l<k->k<=15->qp d y l k=false):lC d y l=false:=by
 cases p:lC d y l with
 | false=>rfl
 | true=>obtain⟨k,q,f,m,z,A⟩:=(BQ d y l (Aw d e)).1 p;have:=h k q f;unfold qp at this;rw[(rX d o e k ω₁ f m).1]at this;simp[m,z,A]at this
def GX(s:U0₁):Bool:=
 match s with
 | []=>false
 | c::r=>if c=64 then tL r == some r else tL s == some s
structure kE where
 op:Int
 n:Int
 word:U0₁
 fa:UInt64
 fb:UInt64
 deriving DecidableEq
def II(s:kE):Bool:=
 if s.op=1\/s.op=2 then decide (s.n=0/\(s.fa.toNat:Int)=0/\(s.fb.toNat:Int)=0) && GX s.word
 else if s.op=3\/s.op=4 then decide (s.n=0/\s.word=[])
 else if s.op=6\/s.op=7 then decide (s.word=[]/\(s.fa.toNat:Int)=0/\(s.fb.toNat:Int)=0/\2<=s.n)
 else decide (s.op=5/\s.word=[]/\(s.fa.toNat:Int)=0/\(s.fb.toNat:Int)=0/\s.n=0)
def Ah(s:kE):Int:=if s.op=5 then 1 else if s.op=6\/s.op=7 then s.n else 0
def Rg(s:kE):Int:=if s.op=5 then 1 else s.n
def AH:List Nat->List kE->Option (List Nat)
 | d,[]=>some d
 | d,s::r=>if II s=false\/(d.length:Int)<Ah s then none else AH (Jk d (Ah s).toNat) r
def MN:Option (List Nat)->Except Int Nat
 | some [d]=>.ok d
 | _=>.error 10
def MM(q:List kE):Except Int Nat:=if 1000<q.length then .error 6 else MN (AH [] q)
def RG(q:List kE):Int:=
 match MM q with
 | .error n=>n
 | .ok d=>if 64<d then 11 else 0
def H5(op:Int)(n:Nat):kE:=⟨op,n,[],0,0⟩
def R5(op:Int)(d:List (List kE)):List kE:=d.flatten++if 1<d.length then [H5 op d.length]else []
def Ih(s:U0₁):Option U0₁:=
 match s with
 | []=>none
 | c::r=>if c=64 then(tL r).map λw=>64::w else tL s
def R4(op:Int)(s:U0₁):List kE:=
 match Ih s with
 | some w=>[⟨op,0,w,0,0⟩]
 | none=>[]
def Rq(op:Int)(a b:UInt64):kE:=⟨op,0,[],a,b⟩
structure TS where
 text:U0₁
 source:U0₁
def TS.terms(r:TS):List U0₁:=jJ r.text r.source
def eY(l:List TS):List U0₁:=dx [] (l.flatMap TS.terms)
def bI(l:List TS)(t:U0₁):List Nat:=(List.range l.length).filter λi=>match l[i]? with | some r=>decide (t∈r.terms) | none=>false
def Jd(l a b:List U0₁):dx l (a++b)=dx (dx l a) b:=by unfold dx;rw[qO]
def Ln(l:List TS)(k:Nat)(h:k<l.length):eY (l.take (k+1))=dx (eY (l.take k)) l[k].terms:=by
 unfold eY;rw[ea h,List.flatMap_append,Jd];simp
def Lo(l:List TS):kG (eY l):=wH _ _ List.Pairwise.nil
def Dc(l:List TS)(t:U0₁):t∈eY l↔∃r∈l,t∈r.terms:=by
 unfold eY;rw[wI];simp
def Af(r:TS):∀t∈r.terms,1<=t.length/\t.length<=25:=by
 intro t d;unfold TS.terms jJ at d;rw[wI]at d;rcases d with h | h;·cases h
 ·rcases iI.1 h with h | h;·have:=vD r.text t h;omega
  ·obtain⟨x,e,rfl⟩:=jEQb.1 h;have:=vD r.source x e;simp;omega
def vL(r:TS):r.terms.length<=r.text.length+r.source.length:=by
 unfold TS.terms jJ;refine arQb (pS _ _) ?_;have d:=pL r.text;have e:=pL r.source;simp;omega
def Lp(l:List TS):∀t∈eY l,1<=t.length/\t.length<=25:=by
 intro t d;obtain⟨r,_,h⟩:=(Dc l t).1 d;exact Af r t h
def Dd(l:List TS):(eY l).length<=cZ (λr:TS=>r.text.length+r.source.length) l:=by
 unfold eY;refine arQb (pS _ _) ?_;have:(l.flatMap TS.terms).length<=cZ (λr:TS=>r.text.length+r.source.length) l:=by
  induction l with
  | nil=>simp[cZ]
  | cons r l d=>have:=vL r;simp only[List.flatMap_cons,aMQb,cZ,kLQb,qL]at *;omega
 simp only[jG];omega
def xU(l:List TS)(t:U0₁):∀i∈bI l t,i<l.length:=by
 intro i d;unfold bI at d;exact im.1 (nu.1 d).1
def xT(l:List TS)(t:U0₁)(i:Nat)(h:i<l.length):i∈bI l t↔t∈l[i].terms:=by
 unfold bI;rw[nu];simp[h]
def De(l:List TS)(t:U0₁)(k:Nat)(h:k<l.length):bI (l.take (k+1)) t=bI (l.take k) t++(if t∈l[k].terms then [k]else []):=by
 have f:(l.take k).length=k:=by simp;omega
 have m:(l.take (k+1)).length=k+1:=by simp;omega
 unfold bI;rw[f,m,jD,vh];congr 1;·apply List.filter_congr;intro i o;have p:=im.1 o;rw[List.getElem?_take_of_lt p,List.getElem?_take_of_lt ω₁]
 ·rw[vg];have e:(l.take (k+1))[k]?=some l[k]:=(by rw[List.getElem?_take_of_lt ω₁,cQ h]);rw[e];by_cases d:t∈l[k].terms;·simp[d]
  ·simp[d]
def BG(d:Nat)(e:List (List Nat)):U0₁:=(e.map (Mu d)).flatten
