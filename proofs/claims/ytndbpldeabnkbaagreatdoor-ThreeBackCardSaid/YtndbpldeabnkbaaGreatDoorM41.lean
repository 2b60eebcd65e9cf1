/- Lemmas for ThreeTurned. -/
import Derived.Test.YtndbpldeabnkbaaGreatDoorM28
import Derived.Test.YtndbpldeabnkbaaGreatDoorM18
import Derived.Test.YtndbpldeabnkbaaGreatDoorM35
set_option linter.all false
set_option maxHeartbeats 8000000
set_option maxRecDepth 100000
namespace Go.Proofs.YtndbpldeabnkbaaGreatDoor
open Go.RowKit Go.Fk
def Wo(k m b c1 c2:Nat)(a1 a2:Option Addr)(R l2:Z0)(w:World)
  (hb:w.heap[b]?=some (.cells #[N k,N k,.slice a1 (k*k) c1,N m,N k,.slice a2 (m*k) c2] 142 (0,0)))
  (hs1:ah w eB (.slice a1 (k*k) c1) R) (hs2:ah w eB (.slice a2 (m*k) c2) l2) (hl1:R.length=k*k) (hl2:l2.length=m*k) (Y:1<=k) (hkm:k+m<=255) :
  Calls Tryz.prog 224 #[.slice (some ⟨b,0,none⟩) 2 2] w λe w'=>∃u,e=.returned (.tuple #[.agg #[N (k+m),N k,u],.int .i64 0])/\Ow w' w.heap.size eB u (R++l2)/\Fr w w':=by
 have dc:k*k<=255*255:=bH ω ω;have di:m*k<=255*255:=bH ω ω;have M1:=ad (yS k k a1 c1 ω ω);have M2:=ad (yS m k a2 c2 ω ω);have b9:=ad hl1;have bA:=ad hl2;clear hl1 hl2;generalize m*k=mk,k*k=kk at *;have q0:=ag hb 0 rfl;have q1:=ag hb 1 rfl;have q2:=ag hb 2 rfl;have q3:=ag hb 3 rfl;have q4:=ag hb 4 rfl;have q5:=ag hb 5 rfl;obtain⟨h,c3⟩:∃q,q=k+m:=⟨_,rfl⟩;rw[<- c3];have dj:IntKind.i64.wrap ((k:Int)+m)=(h:Int):=by rw[show(k:Int)+m=(h:Int) by omega];exact kf _ ω
 have ds:¬(255:Int)<k:=ω
 have dv:¬(255:Int)<h:=ω
 have d0:k+m<=255:=hkm;clear hb c3 hkm;go_in;go_wp2_with fail;have c4:((w.alloc (.cells #[.int .i64 0,.int .i64 0,.slice none 0 0] 142)).alloc (.cells #[.int .i64 0,.int .i64 0,.slice none 0 0] 142)).heap[w.heap.size]?=some (.cells #[.int .i64 0,.int .i64 0,.slice none 0 0] 142 (0,0)):=by rw[jk _ _ _ σ,aB _ _ _ rfl]
 have c5:((w.alloc (.cells #[.int .i64 0,.int .i64 0,.slice none 0 0] 142)).alloc (.cells #[.int .i64 0,.int .i64 0,.slice none 0 0] 142)).heap[w.heap.size+1]?=some (.cells #[.int .i64 0,.int .i64 0,.slice none 0 0] 142 (0,0)):=aB _ _ _ σ;have c6:Fr w ((w.alloc (.cells #[.int .i64 0,.int .i64 0,.slice none 0 0] 142)).alloc (.cells #[.int .i64 0,.int .i64 0,.slice none 0 0] 142)):=((Fr.refl w).alloc _).alloc _;have cA:((w.alloc (.cells #[.int .i64 0,.int .i64 0,.slice none 0 0] 142)).alloc (.cells #[.int .i64 0,.int .i64 0,.slice none 0 0] 142)).heap.size=w.heap.size+2:=σ
 generalize (w.alloc (.cells #[.int .i64 0,.int .i64 0,.slice none 0 0] 142)).alloc (.cells #[.int .i64 0,.int .i64 0,.slice none 0 0] 142)=w0 at *;generalize Z:w.heap.size=g at *;go_loopw [9] (λiv wr=>∃(i r c:Nat) (D:Value) (L:Z0),iv=N i/\Hid ((i=0/\r=0/\c=0/\L=[])\/(i=1/\r=k/\c=k/\L=R)\/(i=2/\r=h/\c=k/\L=R++l2))/\wr.heap[g]?=some (.cells #[.int .i64 0,.int .i64 0,.slice none 0 0] 142 (0,0))/\wr.heap[g+1]?=some (.cells #[N r,N c,D] 142 (0,0))/\Ow wr (g+2) eB D L/\Fr w wr/\g+2<=wr.heap.size) (λiv _=>2-(intOf iv).toNat);case atStart=>exact⟨0,0,0,_,[],rfl,.inl ⟨rfl,rfl,rfl,rfl⟩,c4,c5,Ow.nil,c6,ω⟩
 case round=>
  clear c4 c5 c6 cA;obtain⟨i,r,c,D,L,rfl,HH,h0,h1,a0,G,hs⟩:=hrel;have p0:=G.cell q0;have p1:=G.cell q1;have p2:=G.cell q2;have p3:=G.cell q3;have p4:=G.cell q4;have p5:=G.cell q5;have a3:∀q,D.ownBlock=some q->g+2<=q:=λq I=>(a0.lt q I).1;rcases HH.out with⟨rfl,rfl,rfl,rfl⟩ | ⟨rfl,hr,hc,hL⟩ | ⟨rfl,hr,hc,rfl⟩
  ·have J:(wr.alloc (.cells #[N k,N k,(.slice a1 kk c1)] 142)).heap[wr.heap.size]?=some (.cells #[N k,N k,(.slice a1 kk c1)] 142 (0,0)):=aB _ _ _ rfl;have K:Fr wr (wr.alloc (.cells #[N k,N k,(.slice a1 kk c1)] 142)):=(Fr.refl wr).alloc _;have bk:=K.heap h0;have a5:=K.heap h1;have bl:=a0.fr K;have b6:g+2<=(wr.alloc (.cells #[N k,N k,(.slice a1 kk c1)] 142)).heap.size:=(by simp;omega);go_upto_region 5 with fail;generalize wr.alloc (.cells #[N k,N k,(.slice a1 kk c1)] 142)=W at *;have bm:=G.trans K;generalize I:wr.heap.size=q at *;clear p0 p1 p2 p3 p4 p5 a0 h0 h1 G K;have M:=ag J 0 rfl;have O:=ag J 1 rfl;have z:=ag J 2 rfl;have f1:=ag a5 1 rfl;have g1:=a8 a5 1;go_upto_region 7 with fail;have o:=a9 W ⟨g+1,1,none⟩ (N k);have ab:=aJ a5 1 (N k);have Q:=o.heap J (λe=>by have e:q=g+1:=e;omega);have bn:=o.heap bk (λe=>by have e:g=g+1:=e;omega);have bs:=bl.chg o (λk Y e=>by have e:k=g+1:=e;have:=a3 k Y;omega);have bu:Fr w (W.setCell ⟨g+1,1,none⟩ (N k)):=ai.below bm o (by rw[Z];omega) (λi e=>by have e:i=g+1:=e;rw[Z];omega);have cb:g+2<=(W.setCell ⟨g+1,1,none⟩ (N k)).heap.size:=(by simp[World.setCell];omega);clear f1 g1 M O z o J bk a5 bl bm b6;generalize W.setCell ⟨g+1,1,none⟩ (N k)=V at *;have M:=ag Q 0 rfl;have O:=ag Q 1 rfl;have z:=ag Q 2 rfl;have f0:=ag ab 0 rfl;have f1:=ag ab 1 rfl;go_wp2_with fail;refine(M1.out _).mono ?_;rintro e U ⟨rfl,d⟩;have M:=d.cell M;have O:=d.cell O;have z:=d.cell z;have f0:=d.cell f0;have f1:=d.cell f1;have a7:=d.heap ab;have bv:=d.heap Q;have bx:=d.heap bn;have b0:=bs.fr d;have b1:=bu.trans d;have cc:g+2<=U.heap.size:=(by have:=d.size;omega);have g0:=a8 a7 0;clear d ab Q bn bs bu cb;go_upto_region 10 with fail;have o:=a9 U ⟨g+1,0,none⟩ (N k);have aC:=aJ a7 0 (N k);have b2:=o.heap bv (λe=>by have e:q=g+1:=e;omega);have b3:=o.heap bx (λe=>by have e:g=g+1:=e;omega);have ba:=b0.chg o (λk Y e=>by have e:k=g+1:=e;have:=a3 k Y;omega);have ac:Fr w (U.setCell ⟨g+1,0,none⟩ (N k)):=ai.below b1 o (by rw[Z];omega) (λi e=>by have e:i=g+1:=e;rw[Z];omega);have b4:g+2<=(U.setCell ⟨g+1,0,none⟩ (N k)).heap.size:=(by simp[World.setCell];omega);clear M O z f0 f1 g0 o bv bx a7 b0 b1 cc;generalize U.setCell ⟨g+1,0,none⟩ (N k)=X at *;have z:=ag b2 2 rfl;have f2:=ag aC 2 rfl;go_wp2_with (at_builtin;refine iJ eB rfl (.tmp 45) (.tmp 47) 30 rfl Tryz.underlying30 (g+2) rfl ba _ _ rfl (hs1.fr ac) ?c1 b4 ?_);case c1=>first | (rw[b9.out];simp;omega) | (rw[b9.out,bA.out];omega)
   intro v' w4 F;have aj:=F.own;obtain⟨q9,bb⟩:∃q,q=R:=⟨_,rfl⟩;rw[<- bb]at aj;have cj:=ad bb;clear bb;obtain⟨va,vc,ck⟩:=aj.shape';subst ck;have bc:=F.chg'.heap aC (λe=>by have:=a3 _ e;omega);have cl:=F.chg'.heap b3 (λe=>by have:=a3 _ e;omega);have b5:Fr w w4:=F.below ba ac (by rw[Z];omega) ac.size;have cG:g+2<=w4.heap.size:=(by have:=F.size;omega);have e3:=ag bc 2 rfl;have e4:=a8 bc 2;have cm:∀q,(Value.slice va _ vc).ownBlock=some q->g+2<=q:=λq I=>(aj.lt q I).1;clear F ba ac b4 aC b3 b2 z f2;go_wp2;go_roundw;case rel=>exact⟨1,_,k,_,_,γ,.inr (.inl ⟨rfl,rfl,rfl,cj.out⟩),by rw[oA _ _ _ _ σ];exact cl,aJ bc 2 _,aj.chg (a9 w4 ⟨g+1,2,none⟩ _) (λk Y e=>by have e:k=g+1:=e;have:=cm k Y;omega),ai.below b5 (a9 w4 ⟨g+1,2,none⟩ _) b5.size (λi e=>by have e:i=g+1:=e;rw[Z];omega),by simp[World.setCell];omega⟩
   case measure=>simp[intOf]
  ·obtain rfl:k=c:=hc.symm;obtain rfl:k=r:=hr.symm;obtain rfl:R=L:=hL.symm;have J:(wr.alloc (.cells #[N m,N k,(.slice a2 mk c2)] 142)).heap[wr.heap.size]?=some (.cells #[N m,N k,(.slice a2 mk c2)] 142 (0,0)):=aB _ _ _ rfl;have K:Fr wr (wr.alloc (.cells #[N m,N k,(.slice a2 mk c2)] 142)):=(Fr.refl wr).alloc _;have bk:=K.heap h0;have a5:=K.heap h1;have bl:=a0.fr K;have b6:g+2<=(wr.alloc (.cells #[N m,N k,(.slice a2 mk c2)] 142)).heap.size:=(by simp;omega);go_upto_region 5 with fail;generalize wr.alloc (.cells #[N m,N k,(.slice a2 mk c2)] 142)=W at *;have bm:=G.trans K;generalize I:wr.heap.size=q at *;clear p0 p1 p2 p3 p4 p5 a0 h0 h1 G K;have M:=ag J 0 rfl;have O:=ag J 1 rfl;have z:=ag J 2 rfl;go_upto_region 7 with fail;have ab:=a5;have Q:=J;have bn:=bk;have bs:=bl;have bu:=bm;have cb:=b6;clear M O z J bk a5 bl bm b6;generalize W=V at *;have M:=ag Q 0 rfl;have O:=ag Q 1 rfl;have z:=ag Q 2 rfl;have f0:=ag ab 0 rfl;have f1:=ag ab 1 rfl;go_wp2_with fail;refine(M2.out _).mono ?_;rintro e U ⟨rfl,d⟩;have M:=d.cell M;have O:=d.cell O;have z:=d.cell z;have f0:=d.cell f0;have f1:=d.cell f1;have a7:=d.heap ab;have bv:=d.heap Q;have bx:=d.heap bn;have b0:=bs.fr d;have b1:=bu.trans d;have cc:g+2<=U.heap.size:=(by have:=d.size;omega);have g0:=a8 a7 0;clear d ab Q bn bs bu cb;go_upto_region 10 with fail;have o:=a9 U ⟨g+1,0,none⟩ (N h);have aC:=aJ a7 0 (N h);have b2:=o.heap bv (λe=>by have e:q=g+1:=e;omega);have b3:=o.heap bx (λe=>by have e:g=g+1:=e;omega);have ba:=b0.chg o (λk Y e=>by have e:k=g+1:=e;have:=a3 k Y;omega);have ac:Fr w (U.setCell ⟨g+1,0,none⟩ (N h)):=ai.below b1 o (by rw[Z];omega) (λi e=>by have e:i=g+1:=e;rw[Z];omega);have b4:g+2<=(U.setCell ⟨g+1,0,none⟩ (N h)).heap.size:=(by simp[World.setCell];omega);clear M O z f0 f1 g0 o bv bx a7 b0 b1 cc;generalize U.setCell ⟨g+1,0,none⟩ (N h)=X at *;have z:=ag b2 2 rfl;have f2:=ag aC 2 rfl;go_wp2_with (at_builtin;refine iJ eB rfl (.tmp 45) (.tmp 47) 30 rfl Tryz.underlying30 (g+2) rfl ba _ _ rfl (hs2.fr ac) ?c1 b4 ?_);case c1=>first | (rw[bA.out];simp;omega) | (rw[b9.out,bA.out];omega)
   intro v' w4 F;have aj:=F.own;obtain⟨q9,bb⟩:∃q,q=R++l2:=⟨_,rfl⟩;rw[<- bb]at aj;have cj:=ad bb;clear bb;obtain⟨va,vc,ck⟩:=aj.shape';subst ck;have bc:=F.chg'.heap aC (λe=>by have:=a3 _ e;omega);have cl:=F.chg'.heap b3 (λe=>by have:=a3 _ e;omega);have b5:Fr w w4:=F.below ba ac (by rw[Z];omega) ac.size;have cG:g+2<=w4.heap.size:=(by have:=F.size;omega);have e3:=ag bc 2 rfl;have e4:=a8 bc 2;have cm:∀q,(Value.slice va _ vc).ownBlock=some q->g+2<=q:=λq I=>(aj.lt q I).1;clear F ba ac b4 aC b3 b2 z f2;go_wp2;go_roundw;case rel=>exact⟨2,_,k,_,_,γ,.inr (.inr ⟨rfl,rfl,rfl,cj.out⟩),by rw[oA _ _ _ _ σ];exact cl,aJ bc 2 _,aj.chg (a9 w4 ⟨g+1,2,none⟩ _) (λk Y e=>by have e:k=g+1:=e;have:=cm k Y;omega),ai.below b5 (a9 w4 ⟨g+1,2,none⟩ _) b5.size (λi e=>by have e:i=g+1:=e;rw[Z];omega),by simp[World.setCell];omega⟩
   case measure=>simp[intOf]
  ·obtain rfl:k=c:=hc.symm;obtain rfl:h=r:=hr.symm;have c8:(Tryz.prog.info? 142).map (·.size)=some 3:=(by kernel_rfl);have cR:(#[N h,N k,D]:Array Value).all (·.oneCell')=true:=(by obtain⟨va,vc,rfl⟩:=a0.shape';rw[iI];rfl);have cT:Ow (wr.setRow g #[N h,N k,D]) (g+2) eB D (R++l2):=a0.chg (dl wr g _) λq I=>(by have:=a3 q I;show ¬q=g;omega);have da:Fr w (wr.setRow g #[N h,N k,D]):=ai.below G (dl wr g _) G.size (λq I=>by rw[I];omega);have z0:=mo wr g 0 _ #[N h,N k,D] _ _ h0;have z1:=mo wr g 1 _ #[N h,N k,D] _ _ h0;have z2:=mo wr g 2 _ #[N h,N k,D] _ _ h0;clear p0 p1 p2 p3 p4 p5 q0 q1 q2 q3 q4 q5 a0 M1 M2 HH;generalize d6:R++l2=LL at *;go_wp2_with (first | (refine ml rfl 142 (.tmp 4) rfl (g+1) rfl 142 #[N h,N k,D] (0,0) _ h1 Tryz.underlying142 rfl c8 ?_) | (refine fz rfl 142 (.tmp 2) (.tmp 51) rfl g #[N h,N k,D] rfl rfl 142 _ h0 c8 rfl cR ?_));exact bF (v:=.tuple #[.agg #[N h,N k,D],.int .i64 0]) (by simp[results,Tryz.results224,go_sem, *]) rfl ⟨_,rfl,cT.rebase ω,da⟩
def UP(k i:Nat)(d:c9 k i 0=bo k (lW k) (i*k+0)):∀j,j<=k->c9 k i j=bo k (lW k) (i*k+j):=by
 intro j
 induction j with
 | zero=>intro _;exact d
 | succ j e=>intro h;rw[I1,e ω,EQ k (lW k) i j ω]
def I2(k i:Nat):c9 k i 0=bo k (lW k) (i*k+0):=by
 induction i with
 | zero=>rw[I0];simp[bo]
 | succ i d=>rw[I3,UP k i d k (al _),ES]
def CW(k i j:Nat)(d:k+i<256)(e:j<256):jI k (k+i) j=lW k i j:=by
 have h:(k+i) ^^^ j<2^8:=jV d e;unfold jI lW gl oU;rw[ae ω,oN _ h]
def K6(k m:Nat)(e:1<=k)(h:k+m<=255):gK k++c9 k m 0=gq k m:=by
 rw[I2];unfold gK gq bo;rw[dq,be k m k,List.range_add,eD,jE];congr 1;·refine iV λt d=>?_;have d:=dN.1 d;have:=(qu (show 0<k by omega)).2 d;unfold jP jI;rw[af this]
 ·refine iV λt d=>?_;have d:=dN.1 d;have o:=(qu (show 0<k by omega)).2 d;have z:=jB t (show 0<k by omega);simp only[Function.comp];rw[Nat.mul_add_div ω,Nat.mul_add_mod,CW k _ _ ω ω]
def K7(k m:Nat)(Q:1<=k)(aa:k+m<=255)(w:World):Calls Tryz.prog 187 #[N k,N m] w λe w'=>∃u,e=.returned (.agg #[N (k+m),N k,u])/\Ow w' w.heap.size eB u (gq k m)/\Fr w w':=by
 have HI:=ad (Xy k Q ω);have HC:=ad (JJ k m Q aa);have ba:Hid ((gK k).length=k*k):=gk _ _ _;have bb:Hid ((c9 k m 0).length=m*k):=by show _=_;rw[BI];omega
 have HW:=ad (K6 k m Q aa);have R:=ad (λb z c2 D a2 W hb U h2=>Wo k m b z c2 D a2 (gK k) (c9 k m 0) W hb U h2 ba.out bb.out Q aa);rw[HW.out]at R;clear HW;obtain⟨o,bd⟩:∃q,q=k+m:=⟨_,rfl⟩;rw[<- bd]at R ⊢;clear bd;generalize gq k m=l3,c9 k m 0=l2,gK k=l1 at *;have bf:(w.alloc (.cells #[.int .i64 0,.int .i64 0,.slice none 0 0] 142)).heap[w.heap.size]?=some (.cells #[.int .i64 0,.int .i64 0,.slice none 0 0] 142 (0,0)):=aB _ _ _ rfl;have bk:Fr w (w.alloc (.cells #[.int .i64 0,.int .i64 0,.slice none 0 0] 142)):=(Fr.refl w).alloc _;have cq:(w.alloc (.cells #[.int .i64 0,.int .i64 0,.slice none 0 0] 142)).heap.size=w.heap.size+1:=σ
 go_in;go_upto_region 1 with fail;generalize w.alloc (.cells #[.int .i64 0,.int .i64 0,.slice none 0 0] 142)=w0 at *;generalize hg:w.heap.size=g at *;go_wp2_with fail;refine(HI.out _).mono ?_;rintro e J ⟨v1,rfl,ab,V⟩;obtain⟨D,z,bl⟩:=ab.shape';rw[ba.out]at bl;subst bl;unfold tI;have U:=V.heap bf;have bm:=bk.trans V;have cv:=V.size;clear bf bk V HI;have hA:(J.alloc (.cells #[N k,N k,.slice D (k*k) z] 142)).heap[J.heap.size]?=some (.cells #[N k,N k,.slice D (k*k) z] 142 (0,0)):=aB _ _ _ rfl;have bs:Fr J (J.alloc (.cells #[N k,N k,.slice D (k*k) z] 142)):=(Fr.refl J).alloc _;go_upto_region 2 with fail;generalize J.alloc (.cells #[N k,N k,.slice D (k*k) z] 142)=w2 at *;generalize J.heap.size=q1 at *;go_wp2_with fail;refine(HC.out _).mono ?_;rintro e K ⟨v3,rfl,aj,ak⟩;obtain⟨F,G,bu⟩:=aj.shape';rw[bb.out]at bu;subst bu;unfold tT;have M:=bs.trans ak;have bv:=bm.trans M;have h3:=M.heap U;have X:=ak.heap hA;have b0:=ab.fr M;have c4:=M.size;clear ak bs hA U bm M ab HC;have Y:(K.alloc (.cells #[N m,N k,.slice F (m*k) G] 142)).heap[K.heap.size]?=some (.cells #[N m,N k,.slice F (m*k) G] 142 (0,0)):=aB _ _ _ rfl;have I:Fr K (K.alloc (.cells #[N m,N k,.slice F (m*k) G] 142)):=(Fr.refl K).alloc _;go_upto_region 3 with fail;generalize K.alloc (.cells #[N m,N k,.slice F (m*k) G] 142)=w4 at *;generalize K.heap.size=q3 at *;have e0:w4.cell? ⟨q1,0,none⟩=some (N k):=by rw[aK (I.heap X)];rfl
 have e1:w4.cell? ⟨q1,1,none⟩=some (N k):=by rw[aK (I.heap X)];rfl
 have e2:w4.cell? ⟨q1,2,none⟩=some (.slice D (k*k) z):=by rw[aK (I.heap X)];rfl
 have f0:=ag Y 0 rfl;have f1:=ag Y 1 rfl;have f2:=ag Y 2 rfl;have O:Fr w4 (w4.alloc (.cells #[N k,N k,.slice D (k*k) z,N m,N k,.slice F (m*k) G] 142)):=(Fr.refl w4).alloc _;have b1:=ad (R.out w4.heap.size z G D F _ (aB w4 (.cells #[N k,N k,.slice D (k*k) z,N m,N k,.slice F (m*k) G] 142) _ rfl) ((b0.fr I).fr O).see ((aj.fr I).fr O).see);have b2:=(bv.trans I).trans O;have h4:=O.heap (I.heap h3);go_wp2_with fail;refine b1.out.mono ?_;rintro e L ⟨u,rfl,av,b3⟩;have cc:=b2.trans b3;have h5:=b3.heap h4;have ch:=(aR.1 h4).1;generalize (w4.alloc (.cells #[N k,N k,.slice D (k*k) z,N m,N k,.slice F (m*k) G] 142)).heap.size=b4 at av ch;clear b1 R b2 h4 O bv h3 X b0 aj Y I e0 e1 e2 f0 f1 f2;obtain⟨d,h,rfl⟩:=av.shape';have a0:(Tryz.prog.info? 142).map (·.size)=some 3:=by kernel_rfl
 have ck:(#[N o,N k,.slice d l3.length h]:Array Value).all (·.oneCell')=true:=by rw[iI];rfl
 have hC:(L.alloc (.cells #[N o,N k,.slice d l3.length h] 142)).heap[L.heap.size]?=some (.cells #[N o,N k,.slice d l3.length h] 142 (0,0)):=aB _ _ _ rfl;have a4:Fr L (L.alloc (.cells #[N o,N k,.slice d l3.length h] 142)):=(Fr.refl L).alloc _;go_upto_region 4 with fail;generalize L.alloc (.cells #[N o,N k,.slice d l3.length h] 142)=Z at *;generalize L.heap.size=q5 at *;have b5:=cc.trans a4;have h6:=a4.heap h5;have b7:=av.fr a4;have cm:Ow (Z.setRow g #[N o,N k,.slice d l3.length h]) b4 eB (.slice d l3.length h) l3:=b7.chg (dl Z g _) λq hq=>by have:=(b7.lt q hq).1;show ¬q=g;omega
 have cn:Fr w (Z.setRow g #[N o,N k,.slice d l3.length h]):=ai.below b5 (dl Z g _) b5.size (λq hq=>by rw[hq];omega);go_wp2_with (first | (refine ml rfl 142 (.tmp 9) rfl q5 rfl 142 #[N o,N k,.slice d l3.length h] (0,0) _ hC Tryz.underlying142 rfl a0 ?_) | (refine fz rfl 142 (.tmp 4) (.tmp 29) rfl g #[N o,N k,.slice d l3.length h] rfl rfl 142 _ h6 a0 rfl ck ?_));exact bF (v:=.agg #[N o,N k,.slice d l3.length h]) (vZ Tryz.results187 _ _ g 142 #[N o,N k,.slice d l3.length h] (0,0) _ rfl (iq _ g _ #[N o,N k,.slice d l3.length h] _ _ h6) Tryz.underlying142 rfl a0) rfl ⟨_,rfl,cm.rebase ω,cn⟩
def OY(M:Z0)(C:Nat)(d:List Nat)(i:Nat)(h:i<d.length):ea M C (d.take (i+1))=ea M C (d.take i)++(M.take ((d[i]+1)*C)).drop (d[i]*C):=by
 rw[List.take_add_one,bj h];unfold ea;show((d.take i++[d[i]]).map _).flatten=_;rw[eD,oz,dD,ox,oy,List.flatten_nil,dg]
def EW(M:Z0)(R C:Nat)(m:M.length=R*C):∀d:List Nat,(∀r∈d,r<R)->(ea M C d).length=d.length*C:=by
 intro d
 induction d with
 | nil=>intro _;simp[ea]
 | cons a d o=>intro h;have e:ea M C (a::d)=(M.take ((a+1)*C)).drop (a*C)++ea M C d:=(by simp[ea]);have z:(a+1)*C<=R*C:=bQ C (h a σ);rw[e,am,o (λr A=>h r (by simp[A])),aN,aA,m,aL];rw[be]at z ⊢;rw[be d.length];omega
def Xa(R C:Nat)(M:Z0)(d:List Nat)(mv rv:Value)(base:Nat)(w:World)(ho:Ow w base eB mv M)(U:M.length=R*C)(Z:ah w eJ rv d)(a0:∀r∈d,r<R)(hC:1<=C)(a1:C<=255)(cf:1<=R)(hR:R<=255)(cN:d.length<=255):Calls Tryz.prog 186 #[.agg #[N R,N C,mv],rv] w λe w'=>∃u,e=.returned (.tuple #[.agg #[N d.length,N C,u],.int .i64 0])/\Ow w' w.heap.size eB u (ea M C d)/\Fr w w':=by
 have ch:1*1<=R*C:=bH cf hC;have ba:M≠[]:=by intro e;subst e;simp at U;omega
 obtain⟨F,D,bb,_⟩:=ho.atHead ba;rw[U]at bb;subst bb;obtain⟨ra,cT,rfl,_,_,_⟩:=Z.shape;have HM:=ad (yS R C (some ⟨F,0,none⟩) D hR a1);have bd:=ad (λi=>EW M R C U (d.take i) (λr Z=>a0 r (fZ Z)));have bf:=ad (λW (m:Fr w W) i V=>E6 R C i F (R*C) D base M W (ho.fr m) U V hC a1 hR);have bk:Hid (∀W (m:Fr w W) i (V:i<R),ah W eB (.slice (some ⟨F,i*C,none⟩) C (D-i*C)) ((M.take ((i+1)*C)).drop (i*C))/\((M.take ((i+1)*C)).drop (i*C)).length=C):=λW m i V=>by have h1:(i+1)*C=i*C+C:=(by rw[be,dC]);have h2:(i+1)*C<=R*C:=bQ C V;have:=(xm (E:=eB) (t:=30) rfl Tryz.underlying30 (ho.fr m) (i*C) ((i+1)*C) ω ω).2;rw[show(i+1)*C-i*C=C by omega]at this;exact⟨this,by rw[aN,aA];omega⟩
 have bl:=ad (OY M C d);have bm:Hid (ea M C (d.take d.length)=ea M C d):=by show _=_;rw[cw (al _)]
 have HZ:Hid (ea M C (d.take 0)=[]):=rfl;have bs:Hid (∀i (h:i<d.length),d[i]<R):=λi h=>a0 _ (bJ h);clear ba U ch a0;generalize di:R*C=J at *;have K:((w.alloc (.cells #[N R,N C,.slice (some ⟨F,0,none⟩) J D] 142)).alloc (.cells #[.int .i64 0,.int .i64 0,.slice none 0 0] 142)).heap[w.heap.size]?=some (.cells #[N R,N C,.slice (some ⟨F,0,none⟩) J D] 142 (0,0)):=by rw[jk _ _ _ σ,aB _ _ _ rfl]
 have aa:((w.alloc (.cells #[N R,N C,.slice (some ⟨F,0,none⟩) J D] 142)).alloc (.cells #[.int .i64 0,.int .i64 0,.slice none 0 0] 142)).heap[w.heap.size+1]?=some (.cells #[.int .i64 0,.int .i64 0,.slice none 0 0] 142 (0,0)):=aB _ _ _ σ;have bu:Fr w ((w.alloc (.cells #[N R,N C,.slice (some ⟨F,0,none⟩) J D] 142)).alloc (.cells #[.int .i64 0,.int .i64 0,.slice none 0 0] 142)):=((Fr.refl w).alloc _).alloc _;have cj:((w.alloc (.cells #[N R,N C,.slice (some ⟨F,0,none⟩) J D] 142)).alloc (.cells #[.int .i64 0,.int .i64 0,.slice none 0 0] 142)).heap.size=w.heap.size+2:=σ
 have dj:¬(255:Int)<d.length:=ω
 go_in;go_upto_region 1 with fail;generalize (w.alloc (.cells #[N R,N C,.slice (some ⟨F,0,none⟩) J D] 142)).alloc (.cells #[.int .i64 0,.int .i64 0,.slice none 0 0] 142)=w0 at *;generalize hg:w.heap.size=g at *;have k0:=ag K 0 rfl;have k1:=ag K 1 rfl;have k2:=ag K 2 rfl;go_wp2_with fail;refine(HM.out _).mono ?_;rintro e G ⟨rfl,O⟩;have cn:=O.cell k1;have K:=O.heap K;have aa:=O.heap aa;have bx:=bu.trans O;have dv:g+2<=G.heap.size:=by have:=O.size;omega
 clear k0 k1 k2 bu O HM cj;have hA:(G.alloc (.cells #[N d.length,N C,.slice none 0 0] 142)).heap[G.heap.size]?=some (.cells #[N d.length,N C,.slice none 0 0] 142 (0,0)):=aB _ _ _ rfl;have ab:Fr G (G.alloc (.cells #[N d.length,N C,.slice none 0 0] 142)):=(Fr.refl G).alloc _;have b1:=ab.heap K;have b2:=ab.heap aa;have b3:=bx.trans ab;have b4:g+2<=(G.alloc (.cells #[N d.length,N C,.slice none 0 0] 142)).heap.size:=by simp;omega
 go_upto_region 4 with fail;clear K aa cn bx ab;generalize G.alloc (.cells #[N d.length,N C,.slice none 0 0] 142)=w2 at *;generalize G.heap.size=q at *;go_wp2;go_loopw [25] (λiv wr=>∃(i:Nat) (o:Value),i<=d.length/\iv=N i/\wr.heap[g]?=some (.cells #[N R,N C,.slice (some ⟨F,0,none⟩) J D] 142 (0,0))/\wr.heap[g+1]?=some (.cells #[.int .i64 0,.int .i64 0,.slice none 0 0] 142 (0,0))/\wr.heap[q]?=some (.cells #[N d.length,N C,o] 142 (0,0))/\Ow wr (g+2) eB o (ea M C (d.take i))/\Fr w wr/\g+2<=wr.heap.size) (λiv _=>d.length-(intOf iv).toNat);case atStart=>exact⟨0,_,ar _,rfl,b1,b2,hA,by rw[HZ.out];exact Ow.nil,b3,b4⟩
 case round=>
  clear b1 b2 hA b3 b4;obtain⟨i,o,V,rfl,X,Y,ac,I,m,hs⟩:=hrel;by_cases a3:i<d.length
  ·obtain⟨rb,d3,rc,cs,e1⟩:=(Z.fr m).cell1 (λn=>N n) rfl i a3;cases cs;have b5:=ad (bl.out i a3);have b6:=bs.out i a3;have b7:=bd.out i;have ct:=I.ne_cells ac δ;have aj:∀q,o.ownBlock=some q->g+2<=q:=λq L=>(I.lt q L).1;have b8:=ad (λW (m:Fr w W)=>bf.out W m d[i] b6);have b9:=ad (λW (m:Fr w W)=>bk.out W m d[i] b6);have cu:(ea M C (d.take i)).length+C<=255*255+255:=(by rw[b7,aA];have:min i d.length*C<=255*255:=bH ω a1;omega);generalize d[i]=a at *;have d6:¬(a:Int)<0:=ω;have dE:(a:Int)<R:=ω;have dT:¬(R:Int)<=a:=ω;have c0:=ag X 0 rfl;have c1:=ag X 1 rfl;have c2:=ag X 2 rfl;have d2:=ag ac 2 rfl;generalize a*C=aC,D-a*C=cq,(M.take ((a+1)*C)).drop (a*C)=cv at *;obtain⟨P2,a4⟩:∃q,q=ea M C (d.take (i+1)):=⟨_,rfl⟩;rw[<- a4]at b5;have c3:=ad a4;clear a4;generalize ea M C (d.take i)=P1 at *;have ef:=(b9.out wr m).2;have c5:Hid (P1.length+cv.length<=2147483648):=(by show _<=_;omega);have c6:=ad (b8.out wr.drew (Fr.drew m));clear b8 cu b7;go_upto_region 9 with fail
   go_region_law (first
     | (refine xg eB rfl (.tmp 39) (.tmp 42) 30 rfl Tryz.underlying30 (g + 2) rfl (I.drew.fr z) _ _ rfl ((b9.out _ ((Fr.drew m).trans z)).1) c5.out (ay hs z.size) ?_
        intro v' w4 Q
        have ak := Q.own
        rw[← b5.out] at ak
        obtain ⟨va, vc, cA⟩ := ak.shape'
        subst cA
        have bR : Fr w w3 := (Fr.drew m).trans z
        have m0 := Q.chg'.heap (z.heap (show wr.drew.heap[g]? = _ from X)) (λe => by have := aj g e; omega)
        have m1 := Q.chg'.heap (z.heap (show wr.drew.heap[g + 1]? = _ from Y)) (λe => by have := aj (g + 1) e; omega)
        have mq := Q.chg'.heap (z.heap (show wr.drew.heap[q]? = _ from ac)) ct
        have cb : Fr w w4 := Q.below (I.drew.fr z) bR (by rw[hg]; omega) bR.size
        have el := Q.size
        have eq := z.size
        have e3 := ag mq 2 rfl
        have e4 : w4.frozen? ⟨q, 2, none⟩ = false := a8 mq 2)
     | (go_simp; go_at_call 222; apply c6.z; rintro e w3 ⟨rfl, z⟩; have d2 := z.cell (show wr.drew.cell? ⟨q, 2, none⟩ = _ from d2); have c0 := z.cell (show wr.drew.cell? ⟨g, 0, none⟩ = _ from c0); have c1 := z.cell (show wr.drew.cell? ⟨g, 1, none⟩ = _ from c1); have c2 := z.cell (show wr.drew.cell? ⟨g, 2, none⟩ = _ from c2)))
   all_goals go_wp2_with fail
   all_goals go_roundw
   all_goals first
    | (simp[intOf];omega)
    | (refine ⟨i + 1, _, by omega, by go_num, ?_, ?_, aJ mq 2 _, ?_, ?_, ?_⟩
       · rw[(a9 w4 ⟨q, 2, none⟩ _).block g (aR.1 m0).1 (λe => by have e : g = q := e; omega)]; exact m0
       · rw[(a9 w4 ⟨q, 2, none⟩ _).block (g + 1) (aR.1 m1).1 (λe => by have e : g + 1 = q := e; omega)]; exact m1
       · rw[← c3.out]
         exact ak.chg (a9 w4 ⟨q, 2, none⟩ _) λk hk e => (ak.ne_cells mq δ) (by rw[hk, show k = q from e])
       · exact ai.below cb (a9 w4 ⟨q, 2, none⟩ _) cb.size (λi e => by have e : i = q := e; omega)
       · simp[World.setCell]; have : wr.drew.heap.size = wr.heap.size := rfl; omega)
  ·obtain rfl:d.length=i:=ω;rw[bm.out]at I;have ev:¬((d.length:Int)<d.length):=ω;have cc:(Tryz.prog.info? 142).map (·.size)=some 3:=(by kernel_rfl);have cF:(#[N d.length,N C,o]:Array Value).all (·.oneCell')=true:=(by obtain⟨va,vc,rfl⟩:=I.shape';rw[iI];rfl);have aj:∀q,o.ownBlock=some q->g+2<=q:=λq L=>(I.lt q L).1;have cG:Ow (wr.setRow (g+1) #[N d.length,N C,o]) (g+2) eB o (ea M C d):=I.chg (dl wr (g+1) _) λq L=>(by have:=aj q L;show ¬q=g+1;omega);have cL:Fr w (wr.setRow (g+1) #[N d.length,N C,o]):=ai.below m (dl wr (g+1) _) m.size (λq L=>by rw[L];omega);have z0:=mo wr (g+1) 0 _ #[N d.length,N C,o] _ _ Y;have z1:=mo wr (g+1) 1 _ #[N d.length,N C,o] _ _ Y;have z2:=mo wr (g+1) 2 _ #[N d.length,N C,o] _ _ Y;clear bl bm HZ bs bf bk bd X I;go_wp2_with (first | (refine ml rfl 142 (.tmp 6) rfl q rfl 142 #[N d.length,N C,o] (0,0) _ ac Tryz.underlying142 rfl cc ?_) | (refine fz rfl 142 (.tmp 4) (.tmp 46) rfl (g+1) #[N d.length,N C,o] rfl rfl 142 _ Y cc rfl cF ?_));exact bF (v:=.tuple #[.agg #[N d.length,N C,o],.int .i64 0]) (by simp[results,Tryz.results186,go_sem, *]) rfl ⟨_,rfl,cG.rebase ω,cL⟩
def eO:aw Tryz.prog Bool:=⟨4,1,1,false,.bool false,λb=>[.bool b],by kernel_rfl,δ,δ,by simp[Value.cells],λ_=>rfl,by intro x u d;simp at d;subst d;rfl⟩
def lT(d:List Bool)(K n:Nat):List Nat:=((List.range n).filter λi=>d.getD i false).take K
def Sr(d:List Bool)(K i:Nat)(h:i<d.length)(m:d[i]=true)(o:(lT d K i).length<K):lT d K (i+1)=lT d K i++[i]:=by
 unfold lT at *;rw[jr,sF];generalize (List.range i).filter (λi=>d.getD i false)=F at *;rw[aA]at o;have e:[i].filter (λi=>d.getD i false)=[i]:=by rw[mX,cg d i false h,m];rfl
 rw[e,List.take_append,cw ω,cw (by simp;omega)]
def Ss(d:List Bool)(K i:Nat)(m:i<d.length)(h:d[i]=false\/¬(lT d K i).length<K):lT d K (i+1)=lT d K i:=by
 unfold lT at *;rw[jr,sF];generalize (List.range i).filter (λi=>d.getD i false)=F at *;rcases h with h | h;·have e:[i].filter (λi=>d.getD i false)=[]:=(by rw[mX,cg d i false m,h];rfl);rw[e,dg]
 ·rw[aA]at h;rw[List.take_append,show K-F.length=0 by omega,lj,dg]
def ja(d:List Nat)(e:List Hd):List Hd:=d.map λi=>e.getD i ⟨none,0,0⟩
def Sh(e:List Nat)(d:List Hd)(i:Nat)(h:i<d.length):ja (e++[i]) d=ja e d++[d[i]]:=by
 unfold ja;rw[eD,dD,ox,cg d i _ h]
def Su(d:List Bool)(K n:Nat):(lT d K n).length<=n:=by
 unfold lT;rw[aA];have:=uq (λi=>d.getD i false) (List.range n);rw[jY]at this;omega
def Bq(K:Nat)(pv gv:Value)(d:List Hd)(m:List Bool)(w:World)(hp:ah w aO pv d)(hg:ah w eO gv m)(a4:m.length=d.length)(hn:d.length<=255):Calls Tryz.prog 185 #[N K,pv,gv] w λe w'=>∃X vl,e=.returned (.tuple #[X,vl])/\Ow w' w.heap.size eJ X ((bh m).take K)/\Ow w' w.heap.size aO vl (ja ((bh m).take K) d)/\Fr w w':=by
 obtain⟨pa,ck,bd,_,_,_⟩:=hp.shape;obtain⟨ga,cm,bf,_,_,_⟩:=hg.shape;subst bd bf;have a6:=ad a4;clear a4;have HZ:Hid (lT m K 0=[]):=by show _=_;simp[lT]
 have bl:Hid (ja [] d=[]):=rfl;have HY:=ad (Sr m K);have bn:=ad (Ss m K);have HS:=ad (λbu i h=>Sh bu d i h);have HE:Hid (lT m K d.length=(bh m).take K):=by show _=_;rw[<- a6.out];rfl
 have bx:=ad (Su m K);go_in;go_wp2;go_loopw [6,7,12] (λav lv Y wr=>∃(i:Nat) (A:List Nat),i<=d.length/\Y=N i/\Hid (A=lT m K i)/\Ow wr w.heap.size eJ av A/\Ow wr w.heap.size aO lv (ja A d)/\Fr w wr) (λ_ _ Y _=>d.length-(intOf Y).toNat);case atStart=>exact⟨0,[],ar _,rfl,HZ.out.symm,Ow.nil,by rw[bl.out];exact Ow.nil,Fr.refl w⟩
 case round=>
  obtain⟨i,A,hi,rfl,D,o,I,F⟩:=hrel;by_cases a7:i<d.length
  ·have Z:i<m.length:=(by have:=a6.out;omega);obtain⟨b1,cq,cs,b4,e1⟩:=(hp.fr F).cell1 (λ(h:Hd)=>h.v) rfl i a7;obtain⟨b2,cv,c0,b5,e2⟩:=(hg.fr F).cell1 (λb=>Value.bool b) rfl i Z;have aC:=ad (HS.out A i a7);have L:=ad (HY.out i Z);have M:=ad (bn.out i Z);have c3:A.length<=255:=(by rw[D.out];have:=bx.out i;omega);cases b4;cases b5;generalize d[i]=h at *;obtain⟨J,ba⟩:∃q,q=m[i]:=⟨_,rfl⟩;rw[<- ba]at L M e2;clear ba;obtain⟨aa,ac,rfl⟩:=o.shape';obtain⟨la,lc,O⟩:=I.shape';have bb:(ja A d).length=A.length:=(by simp[ja]);rw[bb]at O;subst O;have i1:(0:Int)<=i:=ω;have i2:(i:Int)<d.length:=ω;have i3:(i:Int)<m.length:=ω;by_cases ab:J=true/\A.length<K
   ·obtain⟨rfl,bB⟩:=ab;have c7:(A.length:Int)<K:=ω;have G:=L.out rfl (by rw[<- D.out];exact bB);rw[<- D.out]at G;obtain⟨A2,aj⟩:∃q,q=A++[i]:=⟨_,rfl⟩;rw[<- aj]at G aC;have Q:=ad G;have bL:=ad aj;clear G L M aj;go_wp2_with (at_builtin;refine cW eJ rfl (.tmp 27) (.tmp 29) 56 rfl Tryz.underlying56 w.heap.size rfl o [i] _ _ _ rfl rfl rfl ?c1 F.size ?_);case c1=>simp;omega
    intro v' w4 z;have R:=z.own;rw[<- bL.out]at R;have U:=dx I o z δ;have ak:Fr w w4:=z.below o F (al _) F.size;obtain⟨X,vc,bR⟩:=R.shape';subst bR;clear z o I;go_wp2_with (at_builtin;refine cW aO rfl (.tmp 31) (.tmp 33) 75 rfl Tryz.underlying75 w.heap.size rfl U [h] _ _ _ rfl rfl rfl ?c1 ak.size ?_);case c1=>rw[bb];simp;omega
    intro v5 w5 z;have bc:=z.own;have ca:=dx R U z δ;have cb:Fr w w5:=z.below U ak (al _) ak.size;rw[<- aC.out]at bc;clear z R U;go_wp2;go_roundw;case rel=>exact⟨i+1,_,ω,γ,Q.out.symm,ca,bc,cb⟩
    case measure=>exact μ
   ·have ap:J=false\/¬A.length<K:=by
      cases J;·exact .inl rfl
      ·exact .inr λh=>ab ⟨rfl,h⟩
    have G:=M.out (by rw[<- D.out];exact ap);rw[<- D.out]at G;have Q:=ad G;clear G L M ab;by_cases V:J=false
    ·subst V;go_wp2;go_roundw;case rel=>exact⟨i+1,_,ω,γ,Q.out.symm,o,I,F⟩
     case measure=>exact μ
    ·have hK:¬(A.length:Int)<K:=(by rcases ap with h | h;exact absurd h V;omega);have cc:J=true:=(by cases J;exact absurd rfl V;rfl);subst cc;clear ap V;go_wp2;go_roundw;case rel=>exact⟨i+1,_,ω,γ,Q.out.symm,o,I,F⟩
     case measure=>exact μ
  ·obtain rfl:d.length=i:=ω;rw[HE.out]at D;have cF:¬((d.length:Int)<d.length):=ω;obtain⟨aa,ac,cf⟩:=o.shape';obtain⟨la,lc,O⟩:=I.shape';subst cf O;go_wp2;go_ret2;exact⟨_,_,rfl,by rw[<- D.out];exact o,by rw[<- D.out];exact I,F⟩
def vB(d:List Bool):∀r∈bh d,r<d.length/\d.getD r false=true:=λr h=>⟨dN.1 (lG.1 h).1,(lG.1 h).2⟩
def GC(d:List Bool):(bh d).length<=d.length:=by
 have:=uq (λi=>d.getD i false) (List.range d.length);rw[jY]at this;exact this
def GB(d:List Bool)(k:Nat):qk ((bh d).take k) d.length:=by
 have m:((bh d).take k).Pairwise (·<·):=(List.pairwise_lt_range.filter _).take;refine⟨λr s o e=>?_,λr h=>(vB d r (fZ h)).1⟩;rw[cg _ _ _ ω,cg _ _ _ e];exact rt.1 m r s ω e o
def vR(d:List Nat)(ps:List Z0):(fo d ps).length=d.length:=by simp[fo]
def Bh(d:List Nat)(e:List Hd):(ja d e).length=d.length:=by simp[ja]
def vS(d:List Bool)(ps:List Z0)(c:Nat)(e:List Nat)(h:∀r∈e,r∈bh d)(m:∀r (h:r<ps.length),d.getD r false=true->ps[r].length=c)(D:d.length=ps.length):∀p∈fo e ps,p.length=c:=by
 intro p o;obtain⟨r,z,rfl⟩:=ee.1 o;obtain⟨F,A⟩:=vB d r (h r z);rw[cg ps r [] ω];exact m r ω A
def Ad{w w':World}{D m:Value}{e:List Hd}{ps:List Z0}{d:List Nat}(h:cO w aO eB D e ps)(F:ah w' aO m (ja d e))(G:Fr w w')(I:∀r∈d,r<e.length):cO w' aO eB m (ja d e) (fo d ps):=by
 refine⟨F,by rw[vR,Bh],λi M o=>?_⟩;have J:i<d.length:=by rw[vR]at o;exact o
 have z:=I _ (bJ J);have A:d[i]<ps.length:=by have:=h.2.1;omega
 have K:(ja d e)[i]=e[d[i]]:=by simp only[ja,fK];rw[cg e _ _ z]
 have L:(fo d ps)[i]=ps[d[i]]:=by simp only[fo,fK];rw[cg ps _ _ A]
 rw[K,L];exact(h.2.2 _ z A).fr G
section
variable {P:Program} {α β:Type} {E:aw P α} {w w':World} {base:Nat} {ps:List Hd} {ls:List (List α)}
theorem _root_.Go.Fk.cr.app{F:aw P β}{b:Nat}{l d:List β}{v v':Value}(h:cr w base E ps ls)(e:Ow w b F v l)(m:dw b F d w v v' w')(o:F.e≠E.e):cr w' base E ps ls:=⟨h.1,λt z A=>dx (h.2 t z A) e m o⟩
theorem _root_.Go.Fk.cr.snoc{x:Hd}{l:List α}(h:cr w base E ps ls)(m:Ow w base E x.v l):cr w base E (ps++[x]) (ls++[l]):=by
 refine⟨by simp[h.1],λt o D=>?_⟩;by_cases d:t<ps.length;·have e:t<ls.length:=(by rw[<- h.1];exact d);simp only[kI d,kI e];exact h.2 t d e
 ·have z:t=ps.length:=(by simp at o;omega);subst z;simp only[jZ (al _),fY];have A:=h.1;simp only[A,jZ (al _),fY];exact m
end
def N5{w:World}{G I:Value}{h m:List Hd}{d o:List Z0}(z:cO w aO eB G h d)(J:cO w aO eB I m o):∀i (A:i<(h++m).length) (D:i<(d++o).length),ah w eB (h++m)[i].v (d++o)[i]:=by
 intro i A D;have e:=z.2.1;by_cases F:i<h.length;·simp only[kI F,kI (show i<d.length by omega)];exact z.2.2 i F ω
 ·simp only[jZ (show h.length<=i by omega),jZ (show d.length<=i by omega),e];rw[am]at A D;exact J.2.2 (i-d.length) ω ω
def QN(w:World)(p1 p2:Hd)(d e:List Hd)(h:ah w aO p1.v d)(m:ah w aO p2.v e):cO (w.alloc (.cells #[p1.v,p2.v] 75)) Bz aO (.slice (some ⟨w.heap.size,0,none⟩) 2 2) [p1,p2] [d,e]:=
 ⟨nm Bz w [p1, p2] _ _ 2 rfl rfl (by simp [maxLen]), rfl, fun i o z => by
   match i, o with
   | 0, _ => exact h.fr ((Fr.refl w).alloc _)
   | 1, _ => exact m.fr ((Fr.refl w).alloc _)⟩
def Xm(k m c:Nat)(F I:Value)(o:List Hd)(ps:List Z0)(d:List Bool)(w:World)(Z:1<=k)(aa:k+m<=255)(z:cO w aO eB F o ps)(J:ah w eO I d)(L:o.length=k+m)(M:d.length=k+m)
  (hc:∀r (h:r<ps.length),d.getD r false=true->ps[r].length=c) (hno:(bh d).length<k) :
  Calls Tryz.prog 148 #[N k,N m,F,I] w λe w'=>e=.returned (.tuple #[.slice none 0 0,.int .i64 12])/\Fr w w':=by
 have ab:=z.2.1;have ac:=GC d;have O:(bh d).take (k+m)=bh d:=cw ω;have HM:=ad (Al k m Z aa);have K:=ad (λW (h:Fr w W)=>Bq (k+m) F I o d W (z.1.fr h) (J.fr h) ω ω);rw[O]at K;have HA:=ad (λW Q (R:ah W aO Q (ja (bh d) o)) (A:Fr w W)=>BZ Q (ja (bh d) o) c W R (BY (Ad z R A (λr hr=>by have:=(vB d r hr).1;omega)) (vS d ps c _ (λr h=>h) hc ω)));have HL:=ad (Bh (bh d) o);obtain⟨pa,a3,U,_,_,_⟩:=z.1.shape;obtain⟨ga,a5,V,_,_,_⟩:=J.shape;obtain⟨n,D⟩:∃n,n=k+m:=⟨_,rfl⟩;rw[L,<- D]at U;rw[M,<- D]at V;rw[<- D]at K;subst U V;have hw:IntKind.i64.wrap ((k:Int)+m)=(n:Int):=by rw[show(k:Int)+m=(n:Int) by omega];exact kf _ ω
 clear z J L M hc ab ac O D;generalize bh d=G at *;go_in;go_wp2_with fail;refine(HM.out _).mono ?_;rintro e w1 ⟨rfl,rfl⟩;go_wp2_with fail;refine(K.out _ (Fr.refl w)).mono ?_;rintro e w2 ⟨va,vl,rfl,bb,X,A⟩;obtain⟨la,lc,Y⟩:=X.shape';rw[HL.out]at Y;subst Y;have a1:=ad (HA.out w2 _ X.see A);go_wp2_with fail;apply a1.z;rintro e w3 ⟨rfl,rfl⟩;go_wp2;go_ret2;exact⟨rfl,A⟩
def Xl(k m c:Nat)(pv gv:Value)(z:List Hd)(ps:List Z0)(o:List Bool)(w:World)(hk:1<=k)(bb:k+m<=255)(i3:c<=4096)(O:cO w aO eB pv z ps)(hg:ah w eO gv o)(cA:z.length=k+m)(b0:o.length=k+m)
  (hc:∀r (h:r<ps.length),o.getD r false=true->ps[r].length=c) (hyes:k<=(bh o).length) :
  Calls Tryz.prog 148 #[N k,N m,pv,gv] w λe w'=>∃v,e=.returned (.tuple #[v,.int .i64 0])/\∃xs,Ow w' w.heap.size aO v xs/\cr w' w.heap.size eB xs (kO k m c ((bh o).take k) (fo ((bh o).take k) ps))/\Fr w w':=by
 have ge:=O.2.1;have gg:=GC o;have cB:(bh o).take (k+m)=bh o:=cw ω;have HM:=ad (Al k m hk bb);have bd:=ad (λW (h:Fr w W)=>Bq (k+m) pv gv z o W (O.1.fr h) (hg.fr h) ω ω);have cF:=ad (λW (h:Fr w W)=>Bq k pv gv z o W (O.1.fr h) (hg.fr h) ω ω);rw[cB]at bd;have HA:=ad (λW lv (hl:ah W aO lv (ja (bh o) z)) (F:Fr w W)=>BZ lv (ja (bh o) z) c W hl (BY (Ad O hl F (λr X=>by have:=(vB o r X).1;omega)) (vS o ps c _ (λr h=>h) hc ω)));have HL:=ad (Bh (bh o) z);have Q:=GB o k;rw[b0]at Q;have K:((bh o).take k).length=k:=by rw[aA];omega
 have cL:=ad (λW lv (hl:ah W aO lv (ja ((bh o).take k) z)) (F:Fr w W)=>Ad O hl F (λr X=>by have:=(vB o r (fZ X)).1;omega));have aj:=vS o ps c ((bh o).take k) (λr h=>fZ h) hc ω;have L:(fo ((bh o).take k) ps).length=k:=by rw[vR,K]
 obtain⟨pa,i5,cN,_,_,_⟩:=O.1.shape;obtain⟨ga,i7,cR,_,_,_⟩:=hg.shape;obtain⟨n,Y⟩:∃n,n=k+m:=⟨_,rfl⟩;rw[cA,<- Y]at cN;rw[b0,<- Y]at cR;rw[<- Y]at bd;have i8:k<=(bh o).length:=hyes;subst cN cR;have hw:IntKind.i64.wrap ((k:Int)+m)=(n:Int):=by rw[show(k:Int)+m=(n:Int) by omega];exact kf _ ω
 clear O hg cA b0 hc ge gg cB;generalize bh o=G,(bh o).take k=d at *;generalize ja G z=HG,fo d ps=A at *;have gs:¬(G.length:Int)<k:=ω
 have g0:=ad (λhe=>Hs k m c d A K L Q aj he);have cT:=yk k m c d A L aj;have dc:=B4 k m c d A;have g2:=AT k m c d A L aj;have di:=AS k m c d A;have bl:Hid (kO k m c d A=kT k m c d A++mD m (kT k m c d A) c):=rfl;have g3:=ad (λW R z (I:cO W aO eB R z (kT k m c d A))=>J2 m R z (kT k m c d A) c W I ω ω cT ω);have HW:=ad (K7 k m hk bb);have b2:=ad (λW mv rv base (ho:Ow W base eB mv (gq k m)) (X:ah W eJ rv d)=>Xa (k+m) k (gq k m) d mv rv base W ho (gk _ _ _) X Q.2 hk ω ω bb ω);have d1:(ea (gq k m) k d).length=k*k:=by rw[EW (gq k m) (k+m) k (gk _ _ _) d Q.2,K]
 have g5:=ad (λW v (z:ah W eB v (ea (gq k m) k d))=>Xx k _ v W z d1 hk ω (OX k m bb d K Q));have HT:=ad (λW mv R z (hM:ah W eB mv (pW (ea (gq k m) k d) k)) (I:cO W aO eB R z A)=>Dk _ k mv R z A c W hM I ω ω ω (by rw[L];exact gk _ _ _) aj ω);have d2:lI (pW (ea (gq k m) k d) k) A.length k A c=kT k m c d A:=by unfold kT;rw[L]
 rw[d2]at HT;rw[L]at HT;rw[K]at b2;rw[<- Y]at b2 HW;have d3:d.getD (k-1) 0=k-1->∀r,r<k->d.getD r 0=r:=by intro h r X;exact NL d _ Q ω (by rw[K];exact h) r ω
 have d4:=ad d3;have d5:=ad K;have g7:=ad L;have g8:n<=1000000000:=ω
 have jv:n<=255:=ω
 rw[<- Y]at di;clear d2 d1 Q aj L K Y d3;generalize gq k m=WL,ea (gq k m) k d=PK,pW (ea (gq k m) k d) k=IV,kT k m c d A=D,kO k m c d A=M at *;generalize mD m D c=PR at *;go_in;go_wp2_with fail;refine(HM.out _).mono ?_;rintro e w1 ⟨rfl,rfl⟩;go_wp2_with fail;refine(bd.out _ (Fr.refl w)).mono ?_;rintro e w2 ⟨va,vl,rfl,ha,b4,F⟩;obtain⟨la,lc,d6⟩:=b4.shape';rw[HL.out]at d6;subst d6;have dE:=ad (HA.out w2 _ b4.see F);clear ha b4 bd HM;go_wp2_with fail;apply dE.z;rintro e w3 ⟨rfl,rfl⟩;go_wp2_with fail;refine(cF.out _ F).mono ?_;rintro e w3 ⟨j6,hb,rfl,b5,ec,ef⟩;have b6:=F.trans ef;have b8:=cL.out w3 hb ec.see b6;obtain⟨j7,ka,el⟩:=ec.shape';rw[b8.2.1,g7.out]at el;obtain⟨kb,kc,eq⟩:=b5.shape';rw[d5.out]at eq;subst el eq;have bA:k-1<d.length:=by rw[d5.out];omega
 obtain⟨b1,ki,kk,er,e1⟩:=b5.see.cell1 (λn=>N n) rfl (k-1) bA;simp only[ir]at er;obtain⟨rfl,bB,rfl⟩:=er;clear bB;rw[<- cg d (k-1) 0 bA]at e1;have hh:=b5.see;obtain⟨U,ev⟩:∃q,q=k-1:=⟨_,rfl⟩;rw[<- ev]at e1 d4;have kl:IntKind.i64.wrap ((k:Int)-1)=(U:Int):=by rw[show(k:Int)-1=(U:Int) by omega];exact kf _ ω
 have i1:(0:Int)<=U:=ω
 have i2:(U:Int)<k:=ω
 clear cF HA dE cL bA ev ef F;generalize ja d z=HH,d.getD U 0=ak at *;go_upto_if 75 with fail;go_cut [14]from 15 to 92 (λR wx=>∃I,cO wx aO eB R I D/\Fr w wx)
 case first=>
  by_cases hq:ak=U;·subst hq;have ht:=g0.out (d4.out rfl);go_wp2;go_meet;exact⟨_,by rw[ht];exact b8,b6⟩
  ·have km:¬(ak:Int)=U:=ω;go_wp2_with fail;refine(HW.out _).mono ?_;rintro e w4 ⟨u4,rfl,av,a0⟩;have hv:=ad (b2.out w4 u4 _ _ av (hh.fr a0));obtain⟨a4,c4,rfl⟩:=av.shape';go_wp2_with fail;apply hv.z;rintro e J ⟨u5,rfl,e3,hx⟩;obtain⟨a5,c5,rfl⟩:=e3.shape';have e4:Fr J (J.alloc (.cells #[N k,N k,.slice a5 PK.length c5] 142)):=(Fr.refl J).alloc _;have h0:=ad (g5.out _ _ (e3.fr e4).see);have h4:=a0.trans hx;go_wp2_with fail;apply h0.z;rintro e w6 ⟨u6,rfl,Z,bR⟩;obtain⟨a6,c6,rfl⟩:=Z.shape';have e5:Fr w6 (w6.alloc (.cells #[N k,N k,.slice a6 IV.length c6] 142)):=(Fr.refl w6).alloc _;have e6:=((h4.trans e4).trans bR).trans e5;have h7:=ad (HT.out _ _ _ _ (Z.fr e5).see (b8.fr e6));go_wp2_with fail;apply h7.z;rintro e w8 ⟨u8,rfl,hB,hE,hG,aa⟩;go_wp2;go_meet;exact⟨hB,hG.sees2 hE.see,(b6.trans e6).trans aa⟩
 case rest=>
  obtain⟨I,bm,hH⟩:=hcut;obtain⟨da,ca,e7,_,_,_⟩:=bm.1.shape;have e8:I.length=k:=(by rw [bm.2.1,dc]);rw [e8]at e7;subst e7;have eL:=ad e8;have fa:=ad dc;have bn:=ad di;have hI:=ad (g3.out wc _ _ bm);go_wp2_with fail;apply hI.z;rintro e w4 ⟨v4,rfl,V,av,hJ,a0⟩;have a1:=hJ.sees2 av.see;obtain⟨ma,cc,rfl⟩:=av.shape';have fb:=hH.trans a0;have bs:=bm.fr a0;go_upto_region 16 with(at_make;refine sS aO rfl (.const (.int .i64 0)) (.tmp 100) 75 rfl Tryz.underlying75 .i64 .i64 _ n rfl rfl rfl g8 w4.heap.size (al _) ?_);intro J fc fe;have bu:Fr w4 J:=(nA fe).fr (fun k hk e=>by cases e);have fh:=N5 bs a1;rw [<- bl.out]at fh;have fk:=bs.fr bu;have fl:=a1.fr bu;have cf:Fr J (J.alloc (.cells #[.slice da k ca,.slice ma V.length cc] 75)):=(Fr.refl J).alloc _;have fm:=QN J ⟨da,k,ca⟩ ⟨ma,V.length,cc⟩ I V fk.1 fl.1;have fn:=a1.2.1;have HC := ad (X9 _ _ _ _ fm (by
    have h1 := eL.out;have h2 := bn.out;have h3 := fa.out;rw[bl.out, am] at h2;simp
    omega))
  have hL:=ad fn;clear fn fm;have fv:(I++V).length=M.length:=(by rw[bl.out,am,am,bs.2.1,a1.2.1]);have bR:=bu.trans cf;have Z:=fc.fr cf;clear fk fl cf fc bs a1 fe bu;go_wp2_with fail;apply HC.z;rintro e w7 ⟨v7,rfl,a2,ch⟩;simp only[oy,List.flatten_nil,dg]at a2;have f0:=VI Z a2 (al _);have f1:=Z.fr ch;have f2:=bR.trans ch;generalize (J.alloc (.cells #[.slice da k ca,.slice ma V.length cc] 75)).heap.size=b7 at *;have cj:(I++V).length=n:=(by rw[fv];exact bn.out);have hS:=ad cj;clear fv;generalize I++V=AL at *;obtain⟨a7,c7,f3⟩:=a2.shape';rw[cj]at f3;subst f3;clear cj HC Z ch hL eL fa bl cT;have HZ:Hid (M.take 0=[]):=rfl;have f4:=ad fb.size;go_wp2;go_loopw [21,107] (λov iv wr=>∃(i:Nat) (xs:List Hd),i<=n/\iv=N i/\Ow wr w4.heap.size aO ov xs/\cr wr w.heap.size eB xs (M.take i)/\xs.length=i/\Fr w4 wr/\Ow wr b7 aO (.slice a7 n c7) AL/\((Value.slice a7 n c7).ownBlock=none\/(Value.slice a7 n c7).ownBlock≠ov.ownBlock)) (λ_ iv _=>n-(intOf iv).toNat);case atStart=>exact⟨0,[],ar _,rfl,f1,⟨rfl,λt h=>by simp at h⟩,rfl,f2,a2,f0⟩
  case round=>
   clear f1 f2 a2 f0;obtain⟨i,xs,hi,rfl,hO,cp,cq,F,hA,f7⟩:=hrel;by_cases k5:i<n
   ·have f9:i<AL.length:=(by have:=hS.out;omega);have cs:i<M.length:=(by have:=bn.out;omega);obtain⟨b9,k7,k8,fB,e9⟩:=hA.see.cell1 (λ(h:Hd)=>h.v) rfl i f9;have fC:=(fh i f9 cs).fr F;have hT:=g2 _ (bJ cs);have hU:=ad (lE _ _ wr fC ω);have hV:Hid (M.take (i+1)=M.take i++[M[i]]):=ad (by rw[List.take_add_one,bj cs];rfl);simp only[ir]at fB;obtain⟨rfl,bB,rfl⟩:=fB;clear bB fC hT;generalize AL[i]=h9 at *;generalize M[i]=ct at *;obtain⟨oa,oc,a3⟩:=hO.shape';have fD:=ad cq;rw[cq]at a3;subst a3;have i1:(0:Int)<=i:=ω;have i2:(i:Int)<n:=ω;have hZ:w.heap.size<=wr.heap.size:=(by have h1:=f4.out;have h2:=F.size;omega);go_wp2_with fail;apply hU.z;rintro e w8 ⟨v8,rfl,fN,aa⟩;obtain⟨cu,cv,rfl⟩:=fN.shape';have bx:=hO.fr aa;have ia:=cp.fr aa;have fP:=hA.fr aa;have c0:=F.trans aa;go_wp2_with (at_builtin;refine cW aO rfl (.tmp 111) (.tmp 114) 75 rfl Tryz.underlying75 w4.heap.size rfl bx [⟨cu,ct.length,cv⟩] _ _ _ rfl rfl rfl ?c1 c0.size ?_);case c1=>rw[fD.out];simp;omega
    intro v' ic ab;obtain⟨X2,c3⟩:∃q,q=xs++[(⟨cu,ct.length,cv⟩:Hd)]:=⟨_,rfl⟩;have c8:=ab.own;rw[<- c3]at c8;have fS:=(ia.app bx ab δ).snoc (x:=⟨cu,ct.length,cv⟩) (dx (fN.rebase hZ) bx ab δ);rw[<- c3,<- hV.out]at fS;have gb:X2.length=i+1:=(by rw[c3,am,fD.out];rfl);have ih:Fr w4 ic:=ab.below bx c0 (al _) c0.size;have ij:=ab.other fP f7;have it:=ab.apart fP f7;obtain⟨ln,lo,gc⟩:=c8.shape';have i0:=ad gb;rw[gb]at gc;subst gc;go_wp2;go_roundw;case rel=>exact⟨i+1,X2,ω,γ,c8,fS,i0.out,ih,ij,it⟩
    case measure=>exact μ
   ·obtain rfl:n=i:=ω;rw[cw (by rw[bn.out];exact al _)]at cp;have gs:¬((n:Int)<n):=ω;obtain⟨oa,oc,a3⟩:=hO.shape';rw[cq]at a3;subst a3;go_wp2;go_ret2;exact⟨_,rfl,xs,hO.rebase f4.out,cp,fb.trans F⟩
def PJ(x:Z0):Nat->List aq
 | 0=>[]
 | k+1=>PJ x k++(xM x k).1
abbrev Yw:Array Value:=#[.int .i64 0,.bool false,.int .i64 0,.int .i64 0,.int .i64 0,.int .i64 0]
structure kZ (w:World) (B base k m c:Nat) (ov:Value) (out:Z0) (bv:Value) (bad:List Nat) (n:Nat):Prop where
 h:w.heap[B]?=some (.cells #[N k,N m,N c,ov,bv,N n] 165 (0,0))
 o:Ow w base eB ov out
 b:Ow w base eJ bv bad
def kZ.fr{w w':World}{B base k m c n:Nat}{e o:Value}{z:Z0}{A:List Nat}(h:kZ w B base k m c e z o A n)(d:Fr w w'):kZ w' B base k m c e z o A n:=⟨d.heap h.h,h.o.fr d,h.b.fr d⟩
def Pe(B base k m c n:Nat)(V X v:Value)(ap l:Z0)(d:List Nat)(w:World)(hR:kZ w B base k m c V ap X d n)(hs:ah w eB v l)(h4:4<=l.length)(hl:l.length<=1000000)(hn:n<=40000000)(bB:d.length<=40000000)(D:base<=w.heap.size)(ht:cP w):Calls Tryz.prog 147 #[.pointer (some ⟨B,0,none⟩),v] w λe w'=>∃u,e=.returned (.tuple #[u,.bool (bz l)])/\Ow w' w.heap.size eB u (bE l)/\∃z,kZ w' B base k m c V ap z (if bz l then d else d++[n]) (n+1)/\ai (λk=>k=B\/X.ownBlock=some k) w w'/\(∀b,z.ownBlock=some b->X.ownBlock=some b\/w.heap.size<=b):=by
 have HC:=ad (uf v l w hs ω ht);have HE:Hid (cK l=if bz l then 0 else 5):=by show _=_;unfold cK;simp[show ¬l.length<4 by omega]
 rw[HE.out]at HC;obtain⟨O,Y,J⟩:=hR;have a0:=Y.ne_cells O δ;have bf:=J.ne_cells O δ;have bk:=kL J Y δ;obtain⟨G,I,rfl⟩:=J.shape';generalize bz l=ok,bE l=q at *;go_in;go_wp2_with fail;apply HC.z;rintro e A ⟨u,rfl,hu,F⟩;have K:=F.heap O;have bl:=Y.fr F;have a2:=J.fr F;have bm:=ay D F.size;have c2:=ag K 4 rfl;have c3:=ag K 5 rfl;have z2:=a8 K 4;have bn:∀i,(Value.slice G d.length I).ownBlock=some i->i<w.heap.size:=λi o=>(J.lt i o).2;have bs:=(aR.1 O).1;go_upto_if 14 with fail;go_cut []from 13 to 28 (λZ=>∃z,Z.heap[B]?=some (.cells #[N k,N m,N c,V,z,N n] 165 (0,0))/\Ow Z base eJ z (if ok then d else d++[n])/\ai (λk=>k=B\/(Value.slice G d.length I).ownBlock=some k) A Z/\(∀b,z.ownBlock=some b->(Value.slice G d.length I).ownBlock=some b\/A.heap.size<=b))
 case first=>
  cases ok
  ·have bu:Hid (d.length+[n].length<=2147483648):=(by show _<=_;simp;omega);have hD:=a2.drew;have bx:Hid (base<=A.drew.heap.size):=bm;have b0:Fr A (A.alloc (.cells #[N n] 3)):=(Fr.refl A).alloc _;have bT:=b0.cell c2;go_upto_region 3 with fail
   go_region_law (refine xf eJ rfl (.tmp 19) (.tmp 24) 56 rfl Tryz.underlying56 base rfl hD [n] _ _ _ rfl rfl rfl bu.out bx.out ?_
                  intro v' w4 Q
                  have aa := Q.own
                  have b1 : Hid (ai (λk => (Value.slice G d.length I).ownBlock = some k) A w4) := Q.chg'
                  have b2 : Hid (∀b, v'.ownBlock = some b → (Value.slice G d.length I).ownBlock = some b ∨ A.heap.size ≤ b) := Q.fresh
                  have R := Q.chg'.heap (show A.drew.heap[B]? = _ from K) bf
                  have e3 := ag R 4 rfl
                  have e4 := a8 R 4
                  obtain ⟨va, vc, b3⟩ := aa.shape'
                  subst b3)
   all_goals go_wp2_with fail
   all_goals go_meet
   all_goals refine⟨.slice va (d.length+1) vc,?_,?_,(b1.out.mono (λk _ h=>Or.inr h)).trans (a9 w4 ⟨B,4,none⟩ _) (λk _ h=>Or.inl h),λb D=>b2.out b (by simpa using D)⟩
   all_goals first
    | (have hk:=aJ R 4 (.slice va (d.length+1) vc);simpa using hk)
    | (have b4:=aa.chg (a9 w4 ⟨B,4,none⟩ (.slice va (d.length+1) vc)) (λk hk e=>(aa.ne_cells R δ) (by rw[hk,show k=B from e]));simpa using b4)
  ·go_wp2;go_meet;exact⟨_,K,a2,ai.refl _ _,λb h=>.inl h⟩
 case rest=>
  obtain⟨z,L,a3,U,a4⟩:=hcut;have cc:=F.size;have b5:∀i,(i=B\/(Value.slice G d.length I).ownBlock=some i)->i<w.heap.size:=λi e=>by
   rcases e with e | e;·rw[e];exact bs
   ·exact bn i e
  have ak:=hu.chg U (fun i o e=>by have h8:=(hu.lt i o).1;have h9:=b5 i e;omega);have b6 := bl.chg U (fun i o e => by
    rcases e with e | e;·exact a0 (by rw[o, e])
    · rcases bk with h | h;·rw[h] at e; cases e
      · exact h (e.trans o.symm))
  obtain⟨ua,uc,rfl⟩:=ak.shape';have d5:=ag L 5 rfl;have z5:=a8 L 5;have M:=a9 wc ⟨B,5,none⟩ (.int .i64 ((n:Int)+1));have h3:=aJ L 5 (.int .i64 ((n:Int)+1));have iA:=ak.ne_cells L δ;have b7:=a3.ne_cells L δ;have a6:=ak.chg M (λi o e=>iA (by rw[o,show i=B from e]));have a7:=b6.chg M (λi o e=>a0 (by rw[o,show i=B from e]));have aC:=a3.chg M (λi o e=>b7 (by rw[o,show i=B from e]));cases ok;·go_wp2;go_ret2;exact⟨_,rfl,a6,z,⟨h3,a7,aC⟩,((F.chg _).trans U (λ_ _ h=>h)).trans M (λ_ _ h=>.inl h),λb D=>(a4 b D).imp id (λh=>by omega)⟩
  ·go_wp2;go_ret2;exact⟨_,rfl,a6,z,⟨h3,a7,aC⟩,((F.chg _).trans U (λ_ _ h=>h)).trans M (λ_ _ h=>.inl h),λb D=>(a4 b D).imp id (λh=>by omega)⟩
