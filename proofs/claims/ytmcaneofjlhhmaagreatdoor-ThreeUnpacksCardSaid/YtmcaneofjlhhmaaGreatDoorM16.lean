/- Lemmas. -/
import Derived.Test.YtmcaneofjlhhmaaGreatDoorM15
import Derived.Lib.SmallJoins
set_option linter.all false
set_option maxHeartbeats 8000000
set_option maxRecDepth 100000
namespace Go.Fk
abbrev mD:=@List.length_singleton
abbrev pEQc:=@Int.tdiv_eq_ediv_of_nonneg
abbrev kP:=@List.drop_drop
end Go.Fk
namespace Go.Proofs
open RowKit Fk Tryz
def mE(a b m:Nat)(d:a*b<=m)(e:m<9223372036854775808):IntKind.i64.wrap ((a:Int)*(b:Int))=((a*b:Nat):Int):=by
 rw[kQQb];exact aA _ (by rw[<- kQQb];omega)
abbrev tg(k m c:Nat):Value:=.agg #[N k,N m,N c]
def AX(k m c:Nat)(d:k<=255)(h:c<=4096)(w:World):Calls prog 49 #[tg k m c] w λe w'=>e=.returned (N (k*c))/\Fr w w':=by
 have o:k*c<=255*4096:=bo d h;have p:=mE k c _ o ω;generalize k*c=z at *;go_in;go_wp2;go_ret;exact⟨rfl,(Fr.refl w).alloc _⟩
def AM(k m c:Nat)(d:k+m<=255)(p:c<=4096)(w:World):Calls prog 107 #[tg k m c] w λe w'=>e=.returned (N ((k+m)*(c+4)))/\Fr w w':=by
 have h:(k+m)*(c+4)<=255*4100:=bo d ω;have o:=mE (k+m) (c+4) _ h ω;have q:(0:Int)<=k:=ω
 have A:(k:Int)<=255:=ω
 have k3:(0:Int)<=m:=ω
 have D:(m:Int)<=255:=ω
 have F:(c:Int)<=4096:=ω
 have G:(0:Int)<=c:=ω
 rw[show((k+m:Nat):Int)=(k:Int)+m by omega,show((c+4:Nat):Int)=(c:Int)+4 by omega]at o;generalize (k+m)*(c+4)=z at *;go_in;go_wp2;go_ret;exact⟨rfl,(Fr.refl w).alloc _⟩
def aV(k c n:Nat):Nat:=(n+k*c-1) / (k*c)
def AI(k m c n:Nat)(I:1<=k)(o:1<=c)(A:k<=255)(D:c<=4096)(V:n<=8388608)(w:World):Calls prog 48 #[tg k m c,N n] w λe w'=>e=.returned (N (aV k c n))/\Fr w w':=by
 have X:k*c<=255*4096:=bo A D;have Y:1*1<=k*c:=bo I o;have F:=ad (AX k m c A D);unfold aV;generalize k*c=z at *;have Z:(1:Int)<=z:=ω
 have aa:=aA ((n:Int)+z) ω;have ab:=aA ((n:Int)+z-1) ω;have ac:((n:Int)+z-1).tdiv z=(((n+z-1) / z:Nat):Int):=by rw[show(n:Int)+z-1=((n+z-1:Nat):Int) by omega,pEQc ω];simp
 have hq:(n+z-1) / z<=8388608+255*4096:=ar (il _ _) ω;generalize (n+z-1) / z=q at *;have ai:=aA (q:Int) ω;have aj:¬(z:Int)=0:=ω
 have J:¬z=0:=ω
 have ak:z≠0:=J;go_in;go_wp2_with fail;generalize p:w.alloc (.cells #[N k,N m,N c] 100)=W;have G:Fr w W:=by rw[<- p];exact(Fr.refl w).alloc _
 have o:W.cell? ⟨w.heap.size,0,none⟩=some (N k)/\W.cell? ⟨w.heap.size,1,none⟩=some (N m)/\W.cell? ⟨w.heap.size,2,none⟩=some (N c):=by rw[<- p];refine⟨?_,?_,?_⟩ <;> rw[World.cell?_alloc_at _ _ _ _ rfl] <;> rfl
 obtain⟨K,L,M⟩:=o;have O:=ad G;clear p G
 go_region_held3 (λw' => w'.cell? ⟨w.heap.size, 0, none⟩ = some (N k) ∧ w'.cell? ⟨w.heap.size, 1, none⟩ = some (N m) ∧ w'.cell? ⟨w.heap.size, 2, none⟩ = some (N c))
  (first | go_keep)
  ((first
    | (go_at_call 49; refine (F.out _).mono ?_; rintro e w1 ⟨rfl, d⟩; have Q := d.cell K; have R := d.cell L; have U := d.cell M)
    | (go_at_call 49; refine (F.out _).mono ?_; rintro e w2 ⟨rfl, h⟩; have d0 := h.cell Q; have d1 := h.cell R; have d2 := h.cell U)))
 go_wp2;go_ret;exact⟨rfl,((O.out.trans (Fr.drew (Fr.refl _))).trans d).trans h⟩
def Ig(k m c n:Nat)(o:1<=k)(p:k+m<=255)(q:1<=c)(z:c<=4096)(w:World):Calls prog 106 #[tg k m c,N n] w λe w'=>e=.returned (.bool (decide (n<=8388608)))/\Fr w w':=by
 have A:(1:Int)<=k:=ω
 have D:(0:Int)<=m:=ω
 have k3:(k:Int)<=255:=ω
 have F:(m:Int)<=255-k:=ω
 have G:(1:Int)<=c:=ω
 have I:(c:Int)<=4096:=ω
 have J:(0:Int)<=n:=ω
 have K:IntKind.i64.wrap (255-(k:Int))=255-k:=aA _ ω;by_cases h:n<=8388608;·rw[bz h];have d:(n:Int)<=8388608:=ω;go_in;go_wp2;go_ret;exact⟨rfl,(Fr.refl w).alloc _⟩
 ·rw[bw h];have d:¬(n:Int)<=8388608:=ω;go_in;go_wp2;go_ret;exact⟨rfl,(Fr.refl w).alloc _⟩
def nH(k m c n:Nat):Value:=
 if n<=8388608 then(if aV k c n*((k+m)*(c+4))<=16777216 then .tuple #[N (aV k c n*((k+m)*(c+4))),.int .i64 0]else .tuple #[.int .i64 0,.int .i64 6])else .tuple #[.int .i64 0,.int .i64 13]
def rz(k m c n:Nat):(n<=8388608->(aV k c n*((k+m)*(c+4))<=16777216->nH k m c n=.tuple #[N (aV k c n*((k+m)*(c+4))),.int .i64 0])/\(¬aV k c n*((k+m)*(c+4))<=16777216->nH k m c n=.tuple #[.int .i64 0,.int .i64 6]))/\(¬n<=8388608->nH k m c n=.tuple #[.int .i64 0,.int .i64 13]):=by
 unfold nH;refine⟨λh=>⟨λd=>by rw[an h,an d],λd=>by rw[an h,ae d]⟩,λh=>by rw[ae h]⟩
def AG(k c n:Nat)(d:k<=255)(e:c<=4096)(f:n<=8388608):aV k c n<=9433088:=by
 have h:k*c<=255*4096:=bo d e;unfold aV;exact ar (il _ _) ω
def EN(k m c n:Nat)(O:1<=k)(G:k+m<=255)(Q:1<=c)(D:c<=4096)(w:World):Calls prog 47 #[N k,N m,N c,N n] w λe w'=>e=.returned (nH k m c n)/\Fr w w':=by
 have HM:=ad (Ig k m c n O G Q D);have I:=ad (rz k m c n);generalize nH k m c n=R at *;have J:=aD w (.cells #[.int .i64 0,.int .i64 0,.int .i64 0] 100) _ rfl;have U:(prog.info? 100).map (·.size)=some 3:=by kernel_rfl
 have V:(#[N k,N m,N c]:Array Value).all (·.oneCell')=true:=by rw[dQQb];rfl
 have K:=ti _ _ #[N k,N m,N c] _ _ J;have W:Fr w ((w.alloc (.cells #[.int .i64 0,.int .i64 0,.int .i64 0] 100)).setRow w.heap.size #[N k,N m,N c]):=ag.below ((Fr.refl w).alloc _) (bh _ _ _) σ (λq hq=>by rw[hq];exact au _);go_in;go_wp2_with (first | (refine bB rfl 100 (.tmp 10) (.tmp 15) rfl w.heap.size #[N k,N m,N c] rfl rfl 100 _ J U rfl V ?_) | (refine dM rfl 100 (.tmp 10) rfl w.heap.size rfl 100 #[N k,N m,N c] (0,0) _ K underlying100 rfl U ?_));refine(HM.out _).mono ?_;rintro e w1 ⟨rfl,L⟩;have F:=L.heap K;have M:=W.trans L;clear K V J W;generalize hW:(w.alloc (.cells #[.int .i64 0,.int .i64 0,.int .i64 0] 100)).setRow w.heap.size #[N k,N m,N c]=W0 at *;clear hW;by_cases d:n<=8388608
 ·rw[bz d];have ak:=ad (AI k m c n O Q ω D d);have al:=ad (AM k m c G D);have X:(k+m)*(c+4)<=255*4100:=bo G ω;have Y:=AG k c n ω D d;have Z:aV k c n*((k+m)*(c+4))<=9433088*(255*4100):=bo Y X;have a9:=mE (aV k c n) ((k+m)*(c+4)) _ Z ω;have aa:=ad (I.out.1 d);clear I;generalize aV k c n=st,(k+m)*(c+4)=la at *;generalize st*la=z at *;have a0:=af F 0 rfl;have a1:=af F 1 rfl;have a2:=af F 2 rfl;have HF:=ad M;clear M L F d Z Y X;go_upto_region 4 with fail
  go_region_held3 (λw' => w'.cell? ⟨w.heap.size, 0, none⟩ = some (N k) ∧ w'.cell? ⟨w.heap.size, 1, none⟩ = some (N m) ∧ w'.cell? ⟨w.heap.size, 2, none⟩ = some (N c))
   (first | go_keep)
   ((first
     | (go_at_call 48; refine (ak.out _).mono ?_; rintro e w2 ⟨rfl, h⟩; have b0 := h.cell a0; have b1 := h.cell a1; have b2 := h.cell a2)
     | (go_at_call 107; refine (al.out _).mono ?_; rintro e w3 ⟨rfl, o⟩; have d0 := o.cell b0; have d1 := o.cell b1; have d2 := o.cell b2)))
  by_cases hz:z<=16777216;·have a6:¬(16777216:Int)<z:=ω;have p:=ad (aa.out.1 hz);go_wp2_with fail;exact aT (v:=.tuple #[N z,.int .i64 0]) (by simp[results,results47,go_sem, *]) rfl ⟨by rw[p.out],((HF.out.trans (Fr.drew (Fr.refl _))).trans h).trans o⟩
  ·have a6:(16777216:Int)<z:=ω;have p:=ad (aa.out.2 hz);go_wp2_with fail;exact aT (v:=.tuple #[.int .i64 0,.int .i64 6]) (by simp[results,results47,go_sem, *]) rfl ⟨by rw[p.out],((HF.out.trans (Fr.drew (Fr.refl _))).trans h).trans o⟩
 ·rw[bw d];have p:=ad (I.out.2 d);go_wp2_with fail;exact aT (v:=.tuple #[.int .i64 0,.int .i64 13]) (by simp[results,results47,go_sem, *]) rfl ⟨by rw[p.out],M⟩
def Pb(k m c n:Nat)(M:1<=k)(p:k+m<=255)(Z:1<=c)(J:c<=4096)(w:World):Calls prog 143 #[N k,N m,N c,N n] w λe w'=>e=.returned (nH k m c n)/\Fr w w':=by
 have O:=ad (zg k m M p);have D:=ad (rz k m c n);generalize nH k m c n=R at *;have k5:(1:Int)<=c:=ω
 have k6:(c:Int)<=4096:=ω
 have k7:(0:Int)<=n:=ω
 by_cases F:n<=8388608
 ·have aa:(n:Int)<=8388608:=ω;have Q:(k+m)*(c+4)<=255*4100:=bo p ω;have G:=AG k c n ω J F;have av:1*1<=k*c:=bo M Z;have ab:k*c<=255*4096:=bo ω J;have ac:aV k c n*((k+m)*(c+4))<=9433088*(255*4100):=bo G Q;have U:aV k c n=n / (k*c)+(if n / (k*c)*k*c<n then 1 else 0):=by
   unfold aV;have h1:=sH n (k*c);have K:=jB n (show 0<k*c by omega);have h3:n / (k*c)*k*c=k*c*(n / (k*c)):=(by rw[Nat.mul_assoc,g7]);rw[h3];generalize k*c=z at *;generalize hq:n / z=q at *;generalize hr:n%z=r at *;have d:0<z:=ω;have e:(n+z-1)=z*q+(r+z-1):=ω;rw[e,uT d];by_cases ai:r=0;·subst ai;rw[ae ω,oh ω]
   ·rw[an ω];have:r+z-1=z+(r-1):=ω;rw[this,Nat.add_div_left _ d,oh ω]
  have o:=ad (D.out.1 F);clear D;have a2:(if n / (k*c)*k*c<n then 1 else 0)<=1:=(by split <;> omega);have a3:=mE k c _ ab ω;have a4:(n:Int).tdiv ((k*c:Nat):Int)=((n / (k*c):Nat):Int):=(by rw[pEQc ω];simp);have a5:¬((k*c:Nat):Int)=0:=ω;have V:n / (k*c)<=8388608:=ar (il _ _) F;have a6:0<=n / (k*c):=ax _;have a7:=mE (n / (k*c)) k (8388608*255) (bo V ω) ω;have a8:=mE (n / (k*c)*k) c (8388608*255*4096) (bo (bo V ω) J) ω;have a9:IntKind.i64.wrap ((n / (k*c):Nat):Int)=((n / (k*c):Nat):Int):=dS _ ω;have X:=mE (aV k c n) (k+m) (9433088*255) (bo G p) ω;have Y:=mE (aV k c n*(k+m)) (c+4) (9433088*255*4100) (bo (bo G p) ω) ω;rw[Nat.mul_assoc]at Y;rw[show((k+m:Nat):Int)=(k:Int)+m by omega]at X;rw[show((c+4:Nat):Int)=(c:Int)+4 by omega]at Y;generalize d:aV k c n*((k+m)*(c+4))=z at *;generalize k*c=kc,n / (k*c)=q,n / (k*c)*k=z3,n / (k*c)*k*c=z2,aV k c n=st,aV k c n*(k+m)=z1 at *;have I:=ad U;clear U d ac G Q;go_in;go_wp2_with fail;refine(O.out _).mono ?_;rintro e w1 ⟨rfl,rfl⟩;have k8:(1:Int)<=k:=ω;have k9:(k:Int)+m<=255:=ω;have bc:(0:Int)<=m:=ω;have bd:∀W:World,Fr W W:=Fr.refl;by_cases K:z2<n
  ·have ak:(z2:Int)<n:=ω;obtain rfl:st=q+1:=(by rw[I.out,an K]);rw[show((q+1:Nat):Int)=(q:Int)+1 by omega]at X;clear I;by_cases d:z<=16777216;·have L:¬(16777216:Int)<z:=ω;have h:=ad (o.out.1 d);clear o;go_wp2_with fail;exact aT (v:=.tuple #[N z,.int .i64 0]) (by simp[results,results143,go_sem, *]) rfl ⟨by rw[h.out],Fr.refl _⟩
   ·have L:(16777216:Int)<z:=ω;have h:=ad (o.out.2 d);clear o;go_wp2_with fail;exact aT (v:=.tuple #[.int .i64 0,.int .i64 6]) (by simp[results,results143,go_sem, *]) rfl ⟨by rw[h.out],Fr.refl _⟩
  ·have ak:¬(z2:Int)<n:=ω;obtain rfl:st=q:=(by rw[I.out,ae K];rfl);clear I;by_cases d:z<=16777216;·have L:¬(16777216:Int)<z:=ω;have h:=ad (o.out.1 d);clear o;go_wp2_with fail;exact aT (v:=.tuple #[N z,.int .i64 0]) (by simp[results,results143,go_sem, *]) rfl ⟨by rw[h.out],Fr.refl _⟩
   ·have L:(16777216:Int)<z:=ω;have h:=ad (o.out.2 d);clear o;go_wp2_with fail;exact aT (v:=.tuple #[.int .i64 0,.int .i64 6]) (by simp[results,results143,go_sem, *]) rfl ⟨by rw[h.out],Fr.refl _⟩
 ·have aa:¬(n:Int)<=8388608:=ω;have h:=ad (D.out.2 F);clear D;go_in;go_wp2_with fail;refine(O.out _).mono ?_;rintro e w1 ⟨rfl,rfl⟩;go_wp2_with fail;exact aT (v:=.tuple #[.int .i64 0,.int .i64 13]) (by simp[results,results143,go_sem, *]) rfl ⟨by rw[h.out],Fr.refl _⟩
def ru(l:U0)(k m c a:Nat):U0:=gQ (jL l c a k)++gQ (js m (jL l c a k) c)
def ib(l:U0)(k m c:Nat):Nat->U0
 | 0=>[]
 | s+1=>ib l k m c s++ru l k m c (s*(k*c))
def tJ(m:Nat)(d:List U0)(L:Nat):(js m d L).length=m:=rr _ _ _ _ _
def wP(m:Nat)(e:List U0)(L:Nat)(f:∀p∈e,p.length=L):∀p∈js m e L,p.length=L:=by
 intro p d;unfold js jo at d;simp only[jE]at d;obtain⟨i,_,rfl⟩:=d;exact oF _ _ _ _ _ _ f (au _)
def H4(l:U0)(k m c a:Nat):(ru l k m c a).length=(k+m)*(c+4):=by
 unfold ru;rw[aM,wJ _ c (rE l c a k),wJ _ c (wP m _ c (rE l c a k)),wN,tJ,bP]
def xJ(l:U0)(k m c s:Nat):(ib l k m c s).length=s*((k+m)*(c+4)):=by
 induction s with
 | zero=>simp[ib]
 | succ s d=>rw[ib,aM,d,H4];generalize (k+m)*(c+4)=z;rw[bP,gl]
def rx(k c n:Nat)(h:0<k*c)(s:Nat):s<aV k c n↔s*(k*c)<n:=by
 unfold aV;rw[Nat.lt_iff_add_one_le,zr h,bP,gl];omega
def iZ(k m c:Nat)(d:List Nat)(l:List U0):List U0:=ig k m c d l++js m (ig k m c d l) c
def tP(k m c:Nat)(d:List Nat)(l:List U0):(iZ k m c d l).length=k+m:=by
 unfold iZ;rw[aM,ym,tJ]
def tQ(k m c:Nat)(d:List Nat)(l:List U0)(e:l.length=k)(f:∀p∈l,p.length=c):∀p∈iZ k m c d l,p.length=c:=by
 intro p o;rcases iI.1 o with h | h;·exact uk k m c d l e f p h
 ·exact wP m _ c (uk k m c d l e f) p h
def aN(d:List Bool):List Nat:=(List.range d.length).filter λi=>d.getD i false
def dL(d:List Nat)(e:List U0):List U0:=d.map λi=>e.getD i []
def bZ(l:U0)(c a i:Nat):U0:=(l.drop (a+i*(c+4))).take (c+4)
def br(l:U0)(c a n:Nat):List Bool:=(List.range n).map λi=>bQ (bZ l c a i)
def dA(l:U0)(c a n:Nat):List U0:=(List.range n).map λi=>aY (bZ l c a i)
def lg(l:U0)(c a n b:Nat):List Nat:=((List.range n).filter λi=>!bQ (bZ l c a i)).map λi=>b+i
def nI(e f:List U0)(d:List Bool):Bool:=(List.range d.length).all λi=>!d.getD i false || decide (e.getD i []=f.getD i [])
def g9(k m c:Nat)(l:U0)(a:Nat):Nat × List U0:=
 let d:=br l c a (k+m)
 let e:=dA l c a (k+m)
 if (aN d).length < k then (12, []) else
  let f:=(aN d).take k
  let h:=iZ k m c f (dL f e)
  if nI h e d then(0,h.take k)else(2,[])
def fz(k m c:Nat)(l:U0):Nat->Nat->U0->List Nat->Nat × U0 × List Nat
 | 0,_,d,e=>(0,d,e)
 | f+1,s,d,e=>
  let r:=g9 k m c l (s*((k+m)*(c+4)))
  if r.1=0 then fz k m c l f (s+1) (d++r.2.flatten) (e++lg l c (s*((k+m)*(c+4))) (k+m) (s*(k+m)))else(r.1,[],[])
def eu(k m c n:Nat)(l:U0):Nat × U0 × List Nat:=
 if 8388608<n then(13,[],[])else if 16777216<aV k c n*((k+m)*(c+4))then(6,[],[])
 else if l.length<aV k c n*((k+m)*(c+4))then(1,[],[])else if aV k c n*((k+m)*(c+4))<l.length then(2,[],[])
 else
  let r:=fz k m c l (aV k c n) 0 [] []
  if r.1=0 then(if(r.2.1.drop n).all (· == 0)then(0,r.2.1.take n,r.2.2)else(2,[],[]))else(r.1,[],[])
def fj(d:List Bool)(n:Nat):List Nat:=((List.range d.length).filter λi=>!d.getD i false).map λi=>n+i
def yL(d:List Bool)(b:Bool)(n:Nat):fj (d++[b]) n=if b then fj d n else fj d n++[n+d.length]:=by
 unfold fj;rw[aM,mD,jD,vh,gq];have e:(List.range d.length).filter (λi=>!(d++[b]).getD i false)=(List.range d.length).filter (λi=>!d.getD i false):=by refine List.filter_congr λi f=>?_;grind
 grind
def sk(d:List Bool)(n:Nat):(fj d n).length<=d.length:=by
 unfold fj;grind
def mV(l:U0)(c a n:Nat):(br l c a n).length=n:=by simp[br]
def pT(l:U0)(c a n:Nat):(dA l c a n).length=n:=by simp[dA]
def Dr(l:U0)(c a n i:Nat)(h:i<n):(br l c a n).getD i false=bQ (bZ l c a i):=by
 rw[fx];unfold br;grind
def pe(l:U0)(c a n b:Nat):lg l c a n b=fj (br l c a n) b:=by
 unfold lg fj;rw[mV];congr 1;refine List.filter_congr λi d=>?_;rw[Dr l c a n i (im.1 d)]
def LA(d:List Bool)(n:Nat):(aN d).length+(fj d n).length=d.length:=by
 unfold aN fj;rw[fw];have h:∀(f:Nat->Bool) (l:List Nat),(l.filter f).length+(l.filter λi=>!f i).length=l.length:=by
  intro f l
  induction l with
  | nil=>rfl
  | cons x l e=>grind
 grind
def Ef(l:U0)(c a i L:Nat)(h:i*(c+4)+(c+4)<=L):bZ ((l.drop a).take L) c 0 i=bZ l c a i:=by
 unfold bZ;rw[lQ,List.take_take,jZ,kP,kf ω]
def tr(i n c:Nat)(h:i<n):i*(c+4)+(c+4)<=n*(c+4):=by
 have:=cY (c+4) (show i+1<=n from h);grind
def Dq(l:U0)(c a n:Nat):br ((l.drop a).take (n*(c+4))) c 0 n=br l c a n:=by
 unfold br;exact lP λi d=>by rw[Ef l c a i _ (tr i n c (im.1 d))]
def J9(l:U0)(c a n:Nat):dA ((l.drop a).take (n*(c+4))) c 0 n=dA l c a n:=by
 unfold dA;exact lP λi d=>by rw[Ef l c a i _ (tr i n c (im.1 d))]
def Hz(k m c:Nat)(l:U0)(a:Nat):g9 k m c ((l.drop a).take ((k+m)*(c+4))) 0=g9 k m c l a:=by
 unfold g9;rw[Dq,J9]
def Od(l:U0)(c a n b:Nat):lg ((l.drop a).take (n*(c+4))) c 0 n b=lg l c a n b:=by
 rw[pe,pe,Dq]
def yx(l:U0)(c a i:Nat)(h:a+i*(c+4)+(c+4)<=l.length):(bZ l c a i).length=c+4:=by
 unfold bZ;grind
def wO(l:U0)(c a n:Nat)(h:a+n*(c+4)<=l.length):∀r (d:r<(dA l c a n).length),(br l c a n).getD r false=true->(dA l c a n)[r].length=c:=by
 intro r d e;rw[pT]at d;rw[Dr l c a n r d]at e;have:=tr r n c d;simp only[dA,jm,lq];rw[MS _ e,yx l c a r ω];omega
def AE(k m c:Nat)(l:U0)(a:Nat)(h:(aN (br l c a (k+m))).length<k):g9 k m c l a=(12,[]):=by unfold g9;simp only[h,jh]
def AD(k m c:Nat)(l:U0)(a:Nat)(h:¬(aN (br l c a (k+m))).length<k)(d:nI (iZ k m c ((aN (br l c a (k+m))).take k) (dL ((aN (br l c a (k+m))).take k) (dA l c a (k+m)))) (dA l c a (k+m)) (br l c a (k+m))=true) :
  g9 k m c l a=(0,(iZ k m c ((aN (br l c a (k+m))).take k) (dL ((aN (br l c a (k+m))).take k) (dA l c a (k+m)))).take k):=by unfold g9;simp only[h,if_false,d,jh]
def AF(k m c:Nat)(l:U0)(a:Nat)(h:¬(aN (br l c a (k+m))).length<k)(d:nI (iZ k m c ((aN (br l c a (k+m))).take k) (dL ((aN (br l c a (k+m))).take k) (dA l c a (k+m)))) (dA l c a (k+m)) (br l c a (k+m))=false):g9 k m c l a=(2,[]):=by
 unfold g9;simp only[h,if_false,d];rfl
def Bc(e f:List U0)(d:List Bool)(h:∀i,i<d.length->d.getD i false=true->e.getD i []=f.getD i []):nI e f d=true:=by
 unfold nI;grind
def Bd(e f:List U0)(d:List Bool)(i:Nat)(h:i<d.length)(m:d.getD i false=true)(o:e.getD i []≠f.getD i []):nI e f d=false:=by
 unfold nI;grind
theorem ue(c:Nat):∀(d:List U0),(∀p∈d,p.length=c)->d.flatten.length=d.length*c
 | [],_=>by simp
 | p::d,h=>by
  rw[vf,aM,ue c d (λq e=>h q (uZ _ e)),h p (uY ..),gF,bP]
  omega
