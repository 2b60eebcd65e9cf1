/- Lemmas for ThreeTurned. -/
import Derived.Test.YtndbpldeabnkbaaGreatDoorM17
import Derived.Lib.SmallJoins
set_option linter.all false
set_option maxHeartbeats 8000000
set_option maxRecDepth 100000
namespace Go.Fk
abbrev ruQc:=@List.drop_take
abbrev C2:=@List.getElem?_range
end Go.Fk
namespace Go.Proofs.YtndbpldeabnkbaaGreatDoor
open Go.RowKit Go.Fk
def wP(a b m:Nat)(d:a*b<=m)(e:m<9223372036854775808):IntKind.i64.wrap ((a:Int)*(b:Int))=((a*b:Nat):Int):=by
 rw[sJQb];exact ax _ (by rw[<- sJQb];omega)
abbrev xi(k m c:Nat):Value:=.agg #[N k,N m,N c]
def Ep(k m c:Nat)(d:k<=255)(h:c<=4096)(w:World):Calls Tryz.prog 45 #[xi k m c] w λe w'=>e=.returned (N (k*c))/\Fr w w':=by
 have o:k*c<=255*4096:=bH d h;have A:=wP k c _ o ω;generalize k*c=z at *;go_in;go_wp2;go_ret;exact⟨rfl,(Fr.refl w).alloc _⟩
def Ed(k m c:Nat)(d:k+m<=255)(A:c<=4096)(w:World):Calls Tryz.prog 78 #[xi k m c] w λe w'=>e=.returned (N ((k+m)*(c+4)))/\Fr w w':=by
 have h:(k+m)*(c+4)<=255*4100:=bH d ω;have o:=wP (k+m) (c+4) _ h ω;have D:(0:Int)<=k:=ω
 have F:(k:Int)<=255:=ω
 have k3:(0:Int)<=m:=ω
 have G:(m:Int)<=255:=ω
 have I:(c:Int)<=4096:=ω
 have J:(0:Int)<=c:=ω
 rw[show((k+m:Nat):Int)=(k:Int)+m by omega,show((c+4:Nat):Int)=(c:Int)+4 by omega]at o;generalize (k+m)*(c+4)=z at *;go_in;go_wp2;go_ret;exact⟨rfl,(Fr.refl w).alloc _⟩
def aG(k c n:Nat):Nat:=(n+k*c-1) / (k*c)
def DY(k m c n:Nat)(J:1<=k)(o:1<=c)(D:k<=255)(F:c<=4096)(X:n<=8388608)(w:World):Calls Tryz.prog 44 #[xi k m c,N n] w λe w'=>e=.returned (N (aG k c n))/\Fr w w':=by
 have Y:k*c<=255*4096:=bH D F;have Z:1*1<=k*c:=bH J o;have G:=ad (Ep k m c D F);unfold aG;generalize k*c=z at *;have aa:(1:Int)<=z:=ω
 have ab:=ax ((n:Int)+z) ω;have ac:=ax ((n:Int)+z-1) ω;have aj:((n:Int)+z-1).tdiv z=(((n+z-1) / z:Nat):Int):=by rw[show(n:Int)+z-1=((n+z-1:Nat):Int) by omega,Int.tdiv_eq_ediv_of_nonneg ω];simp
 have hq:(n+z-1) / z<=8388608+255*4096:=ay (kF _ _) ω;generalize (n+z-1) / z=q at *;have ap:=ax (q:Int) ω;have av:¬(z:Int)=0:=ω
 have K:¬z=0:=ω
 have a3:z≠0:=K;go_in;go_wp2_with fail;generalize A:w.alloc (.cells #[N k,N m,N c] 91)=W;have I:Fr w W:=by rw[<- A];exact(Fr.refl w).alloc _
 have o:W.cell? ⟨w.heap.size,0,none⟩=some (N k)/\W.cell? ⟨w.heap.size,1,none⟩=some (N m)/\W.cell? ⟨w.heap.size,2,none⟩=some (N c):=by rw[<- A];refine⟨?_,?_,?_⟩ <;> rw[World.cell?_alloc_at _ _ _ _ rfl] <;> rfl
 obtain⟨L,M,O⟩:=o;have Q:=ad I;clear A I
 go_region_held3 (λw' => w'.cell? ⟨w.heap.size, 0, none⟩ = some (N k) ∧ w'.cell? ⟨w.heap.size, 1, none⟩ = some (N m) ∧ w'.cell? ⟨w.heap.size, 2, none⟩ = some (N c))
  (first | go_keep)
  ((first
    | (go_at_call 45; refine (G.out _).mono ?_; rintro e w1 ⟨rfl, d⟩; have R := d.cell L; have U := d.cell M; have V := d.cell O)
    | (go_at_call 45; refine (G.out _).mono ?_; rintro e w2 ⟨rfl, h⟩; have d0 := h.cell R; have d1 := h.cell U; have d2 := h.cell V)))
 go_wp2;go_ret;exact⟨rfl,((Q.out.trans (Fr.drew (Fr.refl _))).trans d).trans h⟩
def Na(k m c n:Nat)(o:1<=k)(z:k+m<=255)(A:1<=c)(D:c<=4096)(w:World):Calls Tryz.prog 77 #[xi k m c,N n] w λe w'=>e=.returned (.bool (decide (n<=8388608)))/\Fr w w':=by
 have F:(1:Int)<=k:=ω
 have G:(0:Int)<=m:=ω
 have k3:(k:Int)<=255:=ω
 have I:(m:Int)<=255-k:=ω
 have J:(1:Int)<=c:=ω
 have K:(c:Int)<=4096:=ω
 have L:(0:Int)<=n:=ω
 have M:IntKind.i64.wrap (255-(k:Int))=255-k:=ax _ ω;by_cases h:n<=8388608;·rw[bp h];have d:(n:Int)<=8388608:=ω;go_in;go_wp2;go_ret;exact⟨rfl,(Fr.refl w).alloc _⟩
 ·rw[br h];have d:¬(n:Int)<=8388608:=ω;go_in;go_wp2;go_ret;exact⟨rfl,(Fr.refl w).alloc _⟩
def tg(k m c n:Nat):Value:=
 if n<=8388608 then(if aG k c n*((k+m)*(c+4))<=16777216 then .tuple #[N (aG k c n*((k+m)*(c+4))),.int .i64 0]else .tuple #[.int .i64 0,.int .i64 6])else .tuple #[.int .i64 0,.int .i64 13]
def Aa(k m c n:Nat):(n<=8388608->(aG k c n*((k+m)*(c+4))<=16777216->tg k m c n=.tuple #[N (aG k c n*((k+m)*(c+4))),.int .i64 0])/\(¬aG k c n*((k+m)*(c+4))<=16777216->tg k m c n=.tuple #[.int .i64 0,.int .i64 6]))/\(¬n<=8388608->tg k m c n=.tuple #[.int .i64 0,.int .i64 13]):=by
 unfold tg;refine⟨λh=>⟨λd=>by rw[af h,af d],λd=>by rw[af h,ae d]⟩,λh=>by rw[ae h]⟩
def MN(k c n:Nat)(d:k<=255)(e:c<=4096)(h:n<=8388608):aG k c n<=9433088:=by
 have m:k*c<=255*4096:=bH d e;unfold aG;exact ay (kF _ _) ω
def Jq(k m c n:Nat)(Q:1<=k)(I:k+m<=255)(U:1<=c)(F:c<=4096)(w:World):Calls Tryz.prog 43 #[N k,N m,N c,N n] w λe w'=>e=.returned (tg k m c n)/\Fr w w':=by
 have HM:=ad (Na k m c n Q I U F);have J:=ad (Aa k m c n);generalize tg k m c n=R at *;have K:=aB w (.cells #[.int .i64 0,.int .i64 0,.int .i64 0] 91) _ rfl;have V:(Tryz.prog.info? 91).map (·.size)=some 3:=by kernel_rfl
 have X:(#[N k,N m,N c]:Array Value).all (·.oneCell')=true:=by rw[iIQb];rfl
 have L:=Ab _ _ #[N k,N m,N c] _ _ K;have Y:Fr w ((w.alloc (.cells #[.int .i64 0,.int .i64 0,.int .i64 0] 91)).setRow w.heap.size #[N k,N m,N c]):=ai.below ((Fr.refl w).alloc _) (dl _ _ _) σ (λq hq=>by rw[hq];exact al _);go_in;go_wp2_with (first | (refine fz rfl 91 (.tmp 10) (.tmp 15) rfl w.heap.size #[N k,N m,N c] rfl rfl 91 _ K V rfl X ?_) | (refine ml rfl 91 (.tmp 10) rfl w.heap.size rfl 91 #[N k,N m,N c] (0,0) _ L Tryz.underlying91 rfl V ?_));refine(HM.out _).mono ?_;rintro e w1 ⟨rfl,M⟩;have G:=M.heap L;have O:=Y.trans M;clear L X K Y;generalize hW:(w.alloc (.cells #[.int .i64 0,.int .i64 0,.int .i64 0] 91)).setRow w.heap.size #[N k,N m,N c]=W0 at *;clear hW;by_cases d:n<=8388608
 ·rw[bp d];have a4:=ad (DY k m c n Q U ω F d);have a5:=ad (Ed k m c I F);have Z:(k+m)*(c+4)<=255*4100:=bH I ω;have aa:=MN k c n ω F d;have ab:aG k c n*((k+m)*(c+4))<=9433088*(255*4100):=bH aa Z;have bm:=wP (aG k c n) ((k+m)*(c+4)) _ ab ω;have ac:=ad (J.out.1 d);clear J;generalize aG k c n=st,(k+m)*(c+4)=la at *;generalize st*la=z at *;have a0:=ag G 0 rfl;have a1:=ag G 1 rfl;have a2:=ag G 2 rfl;have HF:=ad O;clear O M G d ab aa Z;go_upto_region 4 with fail
  go_region_held3 (λw' => w'.cell? ⟨w.heap.size, 0, none⟩ = some (N k) ∧ w'.cell? ⟨w.heap.size, 1, none⟩ = some (N m) ∧ w'.cell? ⟨w.heap.size, 2, none⟩ = some (N c))
   (first | go_keep)
   ((first
     | (go_at_call 44; refine (a4.out _).mono ?_; rintro e w2 ⟨rfl, h⟩; have b0 := h.cell a0; have b1 := h.cell a1; have b2 := h.cell a2)
     | (go_at_call 78; refine (a5.out _).mono ?_; rintro e w3 ⟨rfl, o⟩; have d0 := o.cell b0; have d1 := o.cell b1; have d2 := o.cell b2)))
  by_cases hz:z<=16777216;·have bf:¬(16777216:Int)<z:=ω;have D:=ad (ac.out.1 hz);go_wp2_with fail;exact bFQb (v:=.tuple #[N z,.int .i64 0]) (by simp[results,Tryz.results43,go_sem, *]) rfl ⟨by rw[D.out],((HF.out.trans (Fr.drew (Fr.refl _))).trans h).trans o⟩
  ·have bf:(16777216:Int)<z:=ω;have D:=ad (ac.out.2 hz);go_wp2_with fail;exact bFQb (v:=.tuple #[.int .i64 0,.int .i64 6]) (by simp[results,Tryz.results43,go_sem, *]) rfl ⟨by rw[D.out],((HF.out.trans (Fr.drew (Fr.refl _))).trans h).trans o⟩
 ·rw[br d];have D:=ad (J.out.2 d);go_wp2_with fail;exact bFQb (v:=.tuple #[.int .i64 0,.int .i64 13]) (by simp[results,Tryz.results43,go_sem, *]) rfl ⟨by rw[D.out],O⟩
def pI(l:Z0)(k m c a:Nat):Z0:=gy (eX l c a k)++gy (mD m (eX l c a k) c)
def dJ(l:Z0)(k m c:Nat):Nat->Z0
 | 0=>[]
 | s+1=>dJ l k m c s++pI l k m c (s*(k*c))
def xH(m:Nat)(d:List Z0)(L:Nat):(mD m d L).length=m:=uJ _ _ _ _ _
def xI(m:Nat)(e:List Z0)(L:Nat)(h:∀p∈e,p.length=L):∀p∈mD m e L,p.length=L:=by
 intro p d;unfold mD lI at d;simp only[ee]at d;obtain⟨i,_,rfl⟩:=d;exact rF _ _ _ _ _ _ h (al _)
def ML(l:Z0)(k m c a:Nat):(pI l k m c a).length=(k+m)*(c+4):=by
 unfold pI;rw[am,A0 _ c (oJ l c a k),A0 _ c (xI m _ c (oJ l c a k)),mC,xH,be]
def pV(l:Z0)(k m c s:Nat):(dJ l k m c s).length=s*((k+m)*(c+4)):=by
 induction s with
 | zero=>simp[dJ]
 | succ s d=>rw[dJ,am,d,ML];generalize (k+m)*(c+4)=z;rw[be,dC]
def tf(k c n:Nat)(h:0<k*c)(s:Nat):s<aG k c n↔s*(k*c)<n:=by
 unfold aG;rw[Nat.lt_iff_add_one_le,ui h,be,dC];omega
def kO(k m c:Nat)(d:List Nat)(l:List Z0):List Z0:=kT k m c d l++mD m (kT k m c d l) c
def AS(k m c:Nat)(d:List Nat)(l:List Z0):(kO k m c d l).length=k+m:=by
 unfold kO;rw[am,B4,xH]
def AT(k m c:Nat)(d:List Nat)(l:List Z0)(e:l.length=k)(o:∀p∈l,p.length=c):∀p∈kO k m c d l,p.length=c:=by
 intro p z;rcases jD.1 z with h | h;·exact yk k m c d l e o p h
 ·exact xI m _ c (yk k m c d l e o) p h
def bh(d:List Bool):List Nat:=(List.range d.length).filter λi=>d.getD i false
def fo(d:List Nat)(e:List Z0):List Z0:=d.map λi=>e.getD i []
def bY(l:Z0)(c a i:Nat):Z0:=(l.drop (a+i*(c+4))).take (c+4)
def bD(l:Z0)(c a n:Nat):List Bool:=(List.range n).map λi=>bz (bY l c a i)
def dH(l:Z0)(c a n:Nat):List Z0:=(List.range n).map λi=>bE (bY l c a i)
def kX(l:Z0)(c a n b:Nat):List Nat:=((List.range n).filter λi=>!bz (bY l c a i)).map λi=>b+i
def pL(e h:List Z0)(d:List Bool):Bool:=(List.range d.length).all λi=>!d.getD i false || decide (e.getD i []=h.getD i [])
def fE(k m c:Nat)(l:Z0)(a:Nat):Nat × List Z0:=
 let d:=bD l c a (k+m)
 let e:=dH l c a (k+m)
 if (bh d).length < k then (12, []) else
  let h:=(bh d).take k
  let o:=kO k m c h (fo h e)
  if pL o e d then(0,o.take k)else(2,[])
def fU(k m c:Nat)(l:Z0):Nat->Nat->Z0->List Nat->Nat × Z0 × List Nat
 | 0,_,d,e=>(0,d,e)
 | f+1,s,d,e=>
  let r:=fE k m c l (s*((k+m)*(c+4)))
  if r.1=0 then fU k m c l f (s+1) (d++r.2.flatten) (e++kX l c (s*((k+m)*(c+4))) (k+m) (s*(k+m)))else(r.1,[],[])
def gj(k m c n:Nat)(l:Z0):Nat × Z0 × List Nat:=
 if 8388608<n then(13,[],[])else if 16777216<aG k c n*((k+m)*(c+4))then(6,[],[])
 else if l.length<aG k c n*((k+m)*(c+4))then(1,[],[])else if aG k c n*((k+m)*(c+4))<l.length then(2,[],[])
 else
  let r:=fU k m c l (aG k c n) 0 [] []
  if r.1=0 then(if(r.2.1.drop n).all (· == 0)then(0,r.2.1.take n,r.2.2)else(2,[],[]))else(r.1,[],[])
def jS(d:List Bool)(n:Nat):List Nat:=((List.range d.length).filter λi=>!d.getD i false).map λi=>n+i
def VA(d:List Bool)(b:Bool)(n:Nat):jS (d++[b]) n=if b then jS d n else jS d n++[n+d.length]:=by
 unfold jS;rw[am,kH,jr,sF,eD];have e:(List.range d.length).filter (λi=>!(d++[b]).getD i false)=(List.range d.length).filter (λi=>!d.getD i false):=by refine List.filter_congr λi h=>?_;have:=dN.1 h;rw[bq,bq,q6 this]
 have m:(d++[b]).getD d.length false=b:=by rw[bq,sE (al _)];simp
 have o:(List.filter (λi=>!(d++[b]).getD i false) [d.length])=if b then []else [d.length]:=by rw[mX,m];cases b <;> rfl
 rw[e,o];cases b;·rfl
 ·simp
def BP(d:List Bool)(n:Nat):(jS d n).length<=d.length:=by
 unfold jS;rw[cy];have:=uq (λi=>!d.getD i false) (List.range d.length);rw[jY]at this;exact this
def tJ(l:Z0)(c a n:Nat):(bD l c a n).length=n:=by simp[bD]
def uV(l:Z0)(c a n:Nat):(dH l c a n).length=n:=by simp[dH]
def Bj(l:Z0)(c a n i:Nat)(h:i<n):(bD l c a n).getD i false=bz (bY l c a i):=by
 rw[bq];unfold bD;rw[List.getElem?_map,C2 h];rfl
def tZ(l:Z0)(c a n b:Nat):kX l c a n b=jS (bD l c a n) b:=by
 unfold kX jS;rw[tJ];congr 1;refine List.filter_congr λi d=>?_;rw[Bj l c a n i (dN.1 d)]
def Sq(d:List Bool)(n:Nat):(bh d).length+(jS d n).length=d.length:=by
 unfold bh jS;rw[cy];have h:∀(f:Nat->Bool) (l:List Nat),(l.filter f).length+(l.filter λi=>!f i).length=l.length:=by
  intro f l
  induction l with
  | nil=>rfl
  | cons x l e=>
   rw[mX,mX];cases m:f x;·rw[ae σ,af σ,aL,aL];omega
   ·rw[af rfl,ae σ,aL,aL];omega
 have:=h (λi=>d.getD i false) (List.range d.length);rw[jY]at this;exact this
def Iq(l:Z0)(c a i L:Nat)(h:i*(c+4)+(c+4)<=L):bY ((l.drop a).take L) c 0 i=bY l c a i:=by
 unfold bY;rw[ruQc,um,iH,lk,fI ω]
def xx(i n c:Nat)(h:i<n):i*(c+4)+(c+4)<=n*(c+4):=by
 have:=bQ (c+4) (show i+1<=n from h);rw[be,dC]at this;exact this
def GD(l:Z0)(c a n:Nat):bD ((l.drop a).take (n*(c+4))) c 0 n=bD l c a n:=by
 unfold bD;exact iV λi d=>by rw[Iq l c a i _ (xx i n c (dN.1 d))]
def Pg(l:Z0)(c a n:Nat):dH ((l.drop a).take (n*(c+4))) c 0 n=dH l c a n:=by
 unfold dH;exact iV λi d=>by rw[Iq l c a i _ (xx i n c (dN.1 d))]
def MI(k m c:Nat)(l:Z0)(a:Nat):fE k m c ((l.drop a).take ((k+m)*(c+4))) 0=fE k m c l a:=by
 unfold fE;rw[GD,Pg]
def V9(l:Z0)(c a n b:Nat):kX ((l.drop a).take (n*(c+4))) c 0 n b=kX l c a n b:=by
 rw[tZ,tZ,GD]
def Ip(l:Z0)(c a i:Nat)(h:a+i*(c+4)+(c+4)<=l.length):(bY l c a i).length=c+4:=by
 unfold bY;rw[aA,aN];omega
def EZ(l:Z0)(c a n:Nat)(h:a+n*(c+4)<=l.length):∀r (d:r<(dH l c a n).length),(bD l c a n).getD r false=true->(dH l c a n)[r].length=c:=by
 intro r d e;rw[uV]at d;rw[Bj l c a n r d]at e;have:=xx r n c d;simp only[dH,fK,jd];rw[Ug _ e,Ip l c a r ω];omega
def MH(k m c:Nat)(l:Z0)(a:Nat)(h:(bh (bD l c a (k+m))).length<k):fE k m c l a=(12,[]):=by unfold fE;simp only[h,lF]
def DW(k m c:Nat)(l:Z0)(a:Nat)(h:¬(bh (bD l c a (k+m))).length<k)(d:pL (kO k m c ((bh (bD l c a (k+m))).take k) (fo ((bh (bD l c a (k+m))).take k) (dH l c a (k+m)))) (dH l c a (k+m)) (bD l c a (k+m))=true) :
  fE k m c l a=(0,(kO k m c ((bh (bD l c a (k+m))).take k) (fo ((bh (bD l c a (k+m))).take k) (dH l c a (k+m)))).take k):=by unfold fE;simp only[h,if_false,d,lF]
def MJ(k m c:Nat)(l:Z0)(a:Nat)(h:¬(bh (bD l c a (k+m))).length<k)(d:pL (kO k m c ((bh (bD l c a (k+m))).take k) (fo ((bh (bD l c a (k+m))).take k) (dH l c a (k+m)))) (dH l c a (k+m)) (bD l c a (k+m))=false):fE k m c l a=(2,[]):=by
 unfold fE;simp only[h,if_false,d];rfl
def Ev(e m:List Z0)(d:List Bool)(h:∀i,i<d.length->d.getD i false=true->e.getD i []=m.getD i []):pL e m d=true:=by
 unfold pL;rw[pEQb];intro i o;have:=h i (dN.1 o);cases z:d.getD i false;·rfl
 ·rw[this z];simp
def Nu(e h:List Z0)(d:List Bool)(i:Nat)(m:i<d.length)(o:d.getD i false=true)(z:e.getD i []≠h.getD i []):pL e h d=false:=by
 unfold pL;rw[List.all_eq_false];exact⟨i,dN.2 m,by rw[o];simpa using z⟩
theorem Bp(c:Nat):∀(d:List Z0),(∀p∈d,p.length=c)->d.flatten.length=d.length*c
 | [],_=>by simp
 | p::d,h=>by
  rw[oy,am,Bp c d (λq e=>h q (wA _ e)),h p (zi ..),aL,be]
  omega
