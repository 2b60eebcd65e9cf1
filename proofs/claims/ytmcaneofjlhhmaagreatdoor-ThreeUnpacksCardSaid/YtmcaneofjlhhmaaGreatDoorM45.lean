/- Lemmas. -/
import Derived.Test.YtmcaneofjlhhmaaGreatDoorM30
import Derived.Test.YtmcaneofjlhhmaaGreatDoorM42
import Derived.Test.YtmcaneofjlhhmaaGreatDoorM44
set_option linter.all false
set_option maxHeartbeats 8000000
namespace Go.Proofs
open RowKit Fk
def G8(b:U0):∀k s e d,(ep b k s e d).2.er=0->(ep b k s e d).1.length=d.length+k:=by
 intro k
 induction k with
 | zero=>intro s e d _;rfl
 | succ k f=>intro s e d h;rw[ep]at h ⊢;grind
def G7(b:U0):∀k s e d,(∀t∈d,t<18446744073709551616)->∀t∈(ep b k s e d).1,t<18446744073709551616:=by
 intro k
 induction k with
 | zero=>intro s e d h;exact h
 | succ k f=>intro s e d h;rw[ep];grind
def K5(b:U0)(n:Nat):∀f s d,(ex b n f s d).2.er=0->n<=d.length+f->d.length<=n->(ex b n f s d).1.length=n:=by
 intro f
 induction f with
 | zero=>intro s d _ m o;show d.length=n;omega
 | succ f z=>
  intro s d h m o;rw[ex]at h ⊢;by_cases p:d.length<n/\s.er=0;·rw[an p]at h ⊢;have q:(mT b n s d).er=0:=pF λe=>(by rw[rM b n f _ _ e]at h;exact e h);have A:¬(fF b n s d).1=0:=λe=>(by unfold mT at q;grind);have D:=xF b n s d;grind
  ·grind
def K6(b:U0)(n:Nat):∀f s d,¬s.er=0->(ex b n f s d).2.er≠0:=by
 intro f s d h;rw[rM b n f s d h];exact h
def Nd(n:Nat)(b:U0)(h:(dq n b).2.2.2=0):(dq n b).1.length=n/\(dq n b).2.1.length=n/\∀t∈(dq n b).1,t<18446744073709551616:=by
 unfold dq at h ⊢;by_cases d:(sg n b).2.er=0
 ·rw[an d];have f:=pF λe=>K6 b n n _ [] e d;refine⟨?_,?_,?_⟩;·have m:(yr n b).1.length=0+n:=G8 b n ⟨0,0⟩ 0 [] f;grind
  ·exact K5 b n n _ [] d σ (ax _)
  ·exact G7 b n ⟨0,0⟩ 0 [] λt h=>(kK h).elim
 ·grind
def MB(b:U0)(f:Nat):∀k s d e,d.length=e.length->(gz b f k s d e).1.length=(gz b f k s d e).2.1.length:=by
 intro k
 induction k with
 | zero=>intro s d e h;exact h
 | succ k m=>intro s d e h;rw[gz];grind
def MC(b:U0):(cH b).1.length=(cH b).2.1.length:=by unfold cH;exact MB b _ _ _ [] [] rfl
def MR(l:List Nat):∀b:U0,∀f∈eh l b,f.length<=b.length:=by
 induction l with
 | nil=>intro b f h;exact(kK h).elim
 | cons z l d=>
  intro b f h;rcases pC.1 h with e | h;·grind
  ·grind
def KL(e:Nat)(b:U0)(n:Nat):∀(a:Nat) (d:List (List Nat)),(∀x∈d,x.length<=e)->(fG e b n a d).1.length<=d.length+n/\∀x∈(fG e b n a d).1,x.length<=e:=by
 induction n with
 | zero=>intro a d h;rw[fG];grind
 | succ n m=>
  intro a d h;rw[fG];split
  ·rename_i f;split;·simp
   ·have o:=(yi e (b.drop a) f).2.2.1;grind
  ·simp
def Jv(size d:Nat)(b:U0)(e:1<=size)(f:size<=64)(o:d<=20000):(ff size d b).1.length<=100000000/\(ff size d b).2.1.length<=100000000/\∀x∈(ff size d b).2.1,x.length<=100000000:=by
 have p:=yl size b e f;obtain⟨h,q⟩:=KL d (b.drop (bJ size b).2.1) (bJ size b).1.length 0 [] (λx m=>(kK m).elim);simp only[jG,jZ]at h;unfold ff;grind
structure qB (B:fL):Prop where
 fr:B.frames.length=B.counts.length
 tm:B.times.length=B.counts.sum
 lv:B.levels.length=B.counts.sum
 sm:B.counts.sum<=20000
 nf:B.frames.length<=20000
 fl:∀f∈B.frames,f.length<=1000000
 tl:∀t∈B.times,t<18446744073709551616
 te:B.terms.length<=100000000
 li:B.lists.length<=100000000
 ll:∀x∈B.lists,x.length<=100000000
def JQ(d:Nat)(b:U0):(gY d b).counts=(cH (bi b)).1/\(gY d b).frames=eh (cH (bi b)).2.1 (fd b)/\(gY d b).times=(dq (cx (bi b)).1 (aY (iu b))).1/\(gY d b).levels=(dq (cx (bi b)).1 (aY (iu b))).2.1 /\
  (gY d b).terms=(ff d (cx (bi b)).1 (aY (gL b))).1/\(gY d b).lists=(ff d (cx (bi b)).1 (aY (gL b))).2.1:=by
 refine⟨?_,?_,?_,?_,?_,?_⟩ <;> simp only[gY]
def Nf(n:Nat)(c:U0)(h:j9 n c=0):(dq n (aY c)).2.2.2=0:=by
 rw[DZ]at h;grind
def JP(d:Nat)(b:U0)(h:oJ d b=0):ld (bi b) (fd b).length=0/\j9 (cx (bi b)).1 (iu b)=0:=by
 rw[wW]at h;grind
def JR(o:fK)(b:U0)(K:b.length<=1000000)(h:fp o b=0):qB (gY o.bu.toNat b):=by
 have f:gA o=true:=by
  cases q:gA o;·unfold fp at h;rw[q]at h;cases h
  ·rfl
 unfold fp at h;rw[an f]at h;obtain⟨_,_,L,M⟩:=(rF o).1 f;have z:1<=o.bu.toNat:=ω
 have A:o.bu.toNat<=64:=ω
 generalize o.bu.toNat=d at *;have O:=(Ez b).1;have m:=uh (bi b);obtain⟨D,F⟩:=JP d b h;have Q:=(DF (bi b) _ D).1;have G:=Nd _ _ (Nf _ _ F);have e:=Jv d (cx (bi b)).1 (aY (gL b)) z A m.1;have R:=MC (bi b);have U:=MR (cH (bi b)).2.1 (fd b);have V:=un (cH (bi b)).2.1 (fd b);obtain⟨W,X,I,Y,J,p⟩:=JQ d b;obtain⟨Z,_,_,g4,_⟩:=m;refine⟨?_,?_,?_,?_,?_,?_,?_,?_,?_,?_⟩;·grind
 ·grind
 ·grind
 ·grind
 ·grind
 ·grind
 ·rw[I];exact G.2.2
 ·rw[J];exact e.1
 ·rw[p];exact e.2.1
 ·rw[p];exact e.2.2
def aQ.tl(r:aQ)(t:Nat)(c:UInt8):aQ:=⟨UInt64.ofNat t,c,r.source,r.text⟩
def nA(B:fL)(k:Nat)(l:List aQ):List aQ:=l.mapIdx λi r=>r.tl (B.times.getD (k+i) 0) (B.levels.getD (k+i) 0)
def cS(B:fL)(k:Nat):U0:=B.frames.getD k []
def fH(B:fL)(k:Nat):List aQ × Nat:=
 if (bU (cS B k)).2.2 = 0 then
  (if (bU (cS B k)).2.1 < (cS B k).length then ([], 2)
   else if (eT false (bU (cS B k)).1).2 = 0 then
     (if (eT false (bU (cS B k)).1).1.length = B.counts.getD k 0 then (nA B (B.counts.take k).sum (eT false (bU (cS B k)).1).1, 0) else ([], 2))
   else ([], (eT false (bU (cS B k)).1).2))
 else([],(bU (cS B k)).2.2)
def jx(B:fL):Nat->Nat->List aQ->List aQ × Nat
 | 0,_,d=>(d,0)
 | n+1,k,d=>if(fH B k).2=0 then jx B n (k+1) (d++(fH B k).1)else([],(fH B k).2)
def fY(B:fL):List aQ × Nat:=jx B B.frames.length 0 []
def kw(B:fL)(l:List aQ):Bool:=decide (B.terms=eY (l.map aQ.ts)) && decide (B.lists=jy (l.map aQ.ts))
def ip(B:fL):List aQ × Nat:=
 if(fY B).2=0 then(if gZ (fY B).1=true then(if kw B (fY B).1=true then((fY B).1,0)else([],15))else([],6))else([],(fY B).2)
def sV(B:fL)(k:Nat)(l:List aQ):(nA B k l).length=l.length:=List.length_mapIdx
def Dt(B:fL)(k:Nat):(fH B k).1.length<=32768:=by
 have d:=yI (cS B k);have e:=wC false (bU (cS B k)).1;unfold fH;split
 ·split;·simp
  ·split
   ·split;·rw[sV];omega
    ·simp
   ·simp
 ·simp
def Ab(B:fL)(k:Nat)(l:List aQ)(i:Nat)(h:i<l.length):(nA B k l)[i]'(by rw[sV];exact h)=l[i].tl (B.times.getD (k+i) 0) (B.levels.getD (k+i) 0):=by
 unfold nA;simp
def Co{α:Type}(R l:List α)(i:Nat)(e:R.length=l.length)(d:i<l.length):(R.take i++l.drop i).set i (R[i]'ω)=R.take (i+1)++l.drop (i+1):=by
 have f:R.take (i+1)=R.take i++[R[i]'ω]:=ea ω;have h:=kO d;have m:i-(R.take i).length=0:=by rw[aP];omega
 grind
def xC{α:Type}(R l:List α)(i:Nat)(d:R.length=l.length)(e:i<=l.length):(R.take i++l.drop i).length=l.length:=by
 grind
def Cp{α:Type}(R l:List α)(i:Nat)(d:R.length=l.length)(e:i<l.length):(R.take i++l.drop i)[i]'(by rw[xC R l i d ω];exact e)=l[i]:=by
 grind
def Mv(l:List aQ)(i:Nat)(h:i<l.length)(t:Nat)(d:t<18446744073709551616)(c:UInt8):eR.cells (l.set i (l[i].tl t c))=((eR.cells l).set (i*4) (.int .u64 (t:Int))).set (i*4+1) (Fk.u8 c):=by
 induction l generalizing i with
 | nil=>cases h
 | cons y l f=>
  have e:∀(y:aQ) l,eR.cells (y::l)=.int .u64 y.time.toNat::Fk.u8 y.level::S y.source::S y.text::eR.cells l:=λy l=>by simp[aJ.cells,eR,aQ.cells]
  cases i with
  | zero=>have:(UInt64.ofNat t).toNat=t:=(by rw[UInt64.toNat_ofNat',m7 d]);show Value.int .u64 ((UInt64.ofNat t).toNat:Int)::Fk.u8 c::S y.source::S y.text::_=_;rw[this];rfl
  | succ i=>grind
def BV{w:World}{base g n d:Nat}{l:List aQ}(h:Ow w base eR (.slice (some ⟨g,0,none⟩) n d) l)(i:Nat)(e:i<l.length)(t:Nat)(f:t<18446744073709551616)(c:UInt8):Ow ((w.setCell ⟨g,i*4,none⟩ (.int .u64 (t:Int))).setCell ⟨g,i*4+1,none⟩ (Fk.u8 c)) base eR (.slice (some ⟨g,0,none⟩) n d) (l.set i (l[i].tl t c)):=by
 obtain⟨m,o,p,q,z,A,D,F⟩:=h.parts;have G:(eR).k=4:=rfl;have I:=Mv l i e t f c;refine⟨eR.length_cells _,.inr ⟨g,d,(p.setIfInBounds (i*4) (.int .u64 (t:Int))).setIfInBounds (i*4+1) (Fk.u8 c),by rw[m,nz],o,aI (aI q _ _) _ _,by rw[nz];exact z,A,by simpa using D,?_⟩⟩;rw[I,<- F,nz,G,Array.toList_setIfInBounds,Array.toList_setIfInBounds,List.take_set,List.take_set]
end Go.Proofs
namespace Go.Fk
def R9(e:Nat):Prop:=e<=9\/e=12\/e=13\/e=15
end Go.Fk
namespace Go.Proofs
open RowKit Fk
open Go.RowKit Go.Fk
def Hh(b:U0):U0 × Cs:=(⟨0,0⟩:Cs).take b 5
def As(b:U0):Nat × Cs:=(Hh b).2.int b 32768
def sY(b:U0):Nat × Cs:=(As b).2.byte b
def Hg(b:U0):Cs:=if 1<(sY b).1 then(sY b).2.fail 2 else(sY b).2
def vO(b:U0):Nat × Cs:=(Hg b).int b 64
def o9(b:U0):U0 × Cs:=(vO b).2.take b 4
def Ap(b:U0):fK:=⟨((As b).1:Int),decide ((sY b).1=1),((vO b).1:Int),0,0,0⟩
def Ar(b:U0):Nat:=if(o9 b).2.er=0 then(if cM (b.take (o9 b).2.at_)=0 then(if gA (Ap b)then 0 else 9)else cM (b.take (o9 b).2.at_))else(o9 b).2.er
def Aq(b:U0):Nat:=if(o9 b).2.er=0 then(if cM (b.take (o9 b).2.at_)=0 then(o9 b).2.at_ else 0)else 0
def Ao(b:U0):Nat:=if(eE b).2=0 then(if(eE b).1=2 then(if Ar b=0 then fp (Ap b) (b.drop (Aq b))else Ar b)else 4)else(eE b).2
def vP(b:U0):fL:=gY (vO b).1 (b.drop (Aq b))
def zX(b:U0):Nat:=if Ao b=0 then(ip (vP b)).2 else Ao b
def gM(b:U0):Nat:=if dB b=0 then(ip (dG b)).2 else dB b
